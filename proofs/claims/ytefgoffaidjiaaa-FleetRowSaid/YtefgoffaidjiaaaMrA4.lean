/- What the laws FleetRow lean on: the contracts of the functions that they reach, part 4 of 6. -/
import Derived.Test.YtefgoffaidjiaaaMrA3
namespace Go.Proofs.Ytefgoffaidjiaaa.PAll
open Go.RowKit Go.Proofs.YtefgoffaidjiaaaW.PrintWords Go.Proofs.YtefgoffaidjiaaaW.PrintLast Go.Proofs.YtefgoffaidjiaaaW.PrintMore
attribute [local go_sem] max2_int min2_int max_two min_two max_three min_three max_four min_four   -- for this text's walks alone
set_option linter.unusedVariables false
set_option linter.unusedSimpArgs false
/-! ### fleet_runner_want: function 30 -/
set_option maxHeartbeats 8000000 in
set_option maxRecDepth 100000 in
theorem fleet_want (k : Nat) (G : Nat) (p0 p1 : Int) (A2 : Option Addr) (c2 : Nat) (l2 : List (S56)) (p3 p4 p5 p6 : Int) (A7 : Option Addr) (c7 : Nat) (l7 : List (S58)) (s0 s1 : Int) (s2 : Bool) (h0 h1 : Int) (h2 : Bool) (R : Int) (A15 : Option Addr) (c15 : Nat) (l15 : List Int) (wt ut : Int) (A18 : Option Addr) (c18 : Nat) (l18 : List (S52)) (q0 q1 q2 q3 q4 q5 q6 q7 q8 q9 q10 q11 : Int) (now : Int) (w : World) (hG : w.heap[G]? = some (.cells #[.int .i64 p0, .int .i64 p1, .slice A2 l2.length c2, .int .i64 p3, .int .i64 p4, .int .i64 p5, .int .i64 p6, .slice A7 l7.length c7, .int .i64 s0, .int .i64 s1, .bool s2, .int .i64 h0, .int .i64 h1, .bool h2, .int .i64 R, .slice A15 l15.length c15, .int .i64 wt, .int .i64 ut, .slice A18 l18.length c18, .int .i64 q0, .int .i64 q1, .int .i64 q2, .int .i64 q3, .int .i64 q4, .int .i64 q5, .int .i64 q6, .int .i64 q7, .int .i64 q8, .int .i64 q9, .int .i64 q10, .int .i64 q11, .int .i64 now] 69 (0, 0))) (hr2 : Kd.C k56 w A2 l2.length l2) (hc2 : l2.length ≤ c2) (hr7 : Kd.C k58 w A7 l7.length l7) (hc7 : l7.length ≤ c7)
  (cur la : Int) (gr : Bool) (hI : limit_Into.f q0 q1 q2 q3 q4 q5 q6 q7 q8 q9 q10 q11 h0 h1 h2 = some (cur, la, gr)) (n0 n1 : Int) (n2 : Bool) (n : Int) (hN : policy_Next.f k p0 p1 l2 p3 p4 p5 p6 l7 s0 s1 s2 cur ut now = some (n0, n1, n2, n)) :
  Calls Try.prog 30 #[.pointer (some ⟨G, 0, none⟩)] w fun e w' => e = .returned (.int .i64 n) ∧ w'.heap[G]? = some (.cells #[.int .i64 p0, .int .i64 p1, .slice A2 l2.length c2, .int .i64 p3, .int .i64 p4, .int .i64 p5, .int .i64 p6, .slice A7 l7.length c7, .int .i64 n0, .int .i64 n1, .bool n2, .int .i64 h0, .int .i64 h1, .bool h2, .int .i64 R, .slice A15 l15.length c15, .int .i64 wt, .int .i64 ut, .slice A18 l18.length c18, .int .i64 q0, .int .i64 q1, .int .i64 q2, .int .i64 q3, .int .i64 q4, .int .i64 q5, .int .i64 q6, .int .i64 q7, .int .i64 q8, .int .i64 q9, .int .i64 q10, .int .i64 q11, .int .i64 now] 69 (0, 0)) ∧ Kept w w' (fun k => k = G) ∧ (w'.os = w.os ∧ w'.tape = w.tape ∧ w'.output = w.output) := by
 have hu0 := Try.underlying69
 have hu1 := Try.underlying37
 have hu2 := Try.underlying27
 have hu3 := Try.underlying29
 have hu4 := Try.underlying23
 have hu5 := Try.underlying31
 have hu6 := Try.underlying34
 have hu7 := Try.underlying52
 have hfl : ∀ (v0 v1 v2 : Value) (W : World), (Instr.field 31 (.agg #[v0, v1, v2]) 0).run Try.prog W = .ok v0 W := fun v0 v1 v2 _ => by rfl
 have HI := Aside0.mk hI
 have HN := Aside0.mk hN
 clear hI hN
 have hGl := blk_lt hG
 go_enter Try.func30, Try.ntmps30
 go_upto_region 1 with (fail)
 go_cut [3, 4] (fun x3 x4 wx => ∃ gs : Nat, x3 = .pointer (some ⟨gs, 0, none⟩) ∧ x4 = .int .i64 n ∧ wx.heap[G]? = some (.cells #[.int .i64 p0, .int .i64 p1, .slice A2 l2.length c2, .int .i64 p3, .int .i64 p4, .int .i64 p5, .int .i64 p6, .slice A7 l7.length c7, .int .i64 s0, .int .i64 s1, .bool s2, .int .i64 h0, .int .i64 h1, .bool h2, .int .i64 R, .slice A15 l15.length c15, .int .i64 wt, .int .i64 ut, .slice A18 l18.length c18, .int .i64 q0, .int .i64 q1, .int .i64 q2, .int .i64 q3, .int .i64 q4, .int .i64 q5, .int .i64 q6, .int .i64 q7, .int .i64 q8, .int .i64 q9, .int .i64 q10, .int .i64 q11, .int .i64 now] 69 (0, 0)) ∧ wx.heap[gs]? = some (.cells #[.int .i64 n0, .int .i64 n1, .bool n2] 29 (0, 0)) ∧ G < gs ∧ Below w.heap.size w wx)
 case first =>
  refine start_ (n := 38) (S := fun w' => w'.heap[G]? = some (.cells #[.int .i64 p0, .int .i64 p1, .slice A2 l2.length c2, .int .i64 p3, .int .i64 p4, .int .i64 p5, .int .i64 p6, .slice A7 l7.length c7, .int .i64 s0, .int .i64 s1, .bool s2, .int .i64 h0, .int .i64 h1, .bool h2, .int .i64 R, .slice A15 l15.length c15, .int .i64 wt, .int .i64 ut, .slice A18 l18.length c18, .int .i64 q0, .int .i64 q1, .int .i64 q2, .int .i64 q3, .int .i64 q4, .int .i64 q5, .int .i64 q6, .int .i64 q7, .int .i64 q8, .int .i64 q9, .int .i64 q10, .int .i64 q11, .int .i64 now] 69 (0, 0))) (ds := []) #[false, false, false, false, false, false, false, false, false, false, false, false, false, false, false, false, false, false, false, false, false, false, false, false, false, false, false, false, false, false, false, false, false, false, false, false, false, false] (by kernel_rfl) rfl rfl hG (fun hHeld => ?_)
  have FB := below_drew1 (Below.refl w.heap.size w)
  have FG := blk_below hG (below_drew1 (Below.refl _ _))
  have FC2 := Kd.C_below hr2 (below_drew1 (Below.refl _ _))
  have FC7 := Kd.C_below hr7 (below_drew1 (Below.refl _ _))
  generalize w.drew = w9 at FB FG FC2 FC7 hHeld ⊢
  clear hG hr2 hr7
  refine pu_ 0 6 #[true, false, false, false, false, false, false, false, false, false, false, false, false, false, false, false, false, false, false, false, false, false, false, false, false, false, false, false, false, false, false, false, false, false, false, false, false, false] ?_
  refine pu_ 5 11 #[true, false, false, false, false, true, false, false, false, false, false, false, false, false, false, false, false, false, false, false, false, false, false, false, false, false, false, false, false, false, false, false, false, false, false, false, false, false] ?_
  refine pu_ 10 16 #[true, false, false, false, false, true, false, false, false, false, true, false, false, false, false, false, false, false, false, false, false, false, false, false, false, false, false, false, false, false, false, false, false, false, false, false, false, false] ?_
  refine pu_ 14 20 #[true, false, false, false, false, true, false, false, false, false, true, false, false, false, true, false, false, false, false, false, false, false, false, false, false, false, false, false, false, false, false, false, false, false, false, false, false, false] ?_
  refine pu_ 21 27 #[true, false, false, false, false, true, false, false, false, false, true, false, false, false, true, false, false, false, false, false, false, true, false, false, false, false, false, false, false, false, false, false, false, false, false, false, false, false] ?_
  refine pu_ 27 33 #[true, false, false, false, false, true, false, false, false, false, true, false, false, false, true, false, false, false, false, false, false, true, false, false, false, false, false, true, false, false, false, false, false, false, false, false, false, false] ?_
  refine pu_ 1 7 #[true, true, false, false, false, true, false, false, false, false, true, false, false, false, true, false, false, false, false, false, false, true, false, false, false, false, false, true, false, false, false, false, false, false, false, false, false, false] ?_
  refine pu_ 6 12 #[true, true, false, false, false, true, true, false, false, false, true, false, false, false, true, false, false, false, false, false, false, true, false, false, false, false, false, true, false, false, false, false, false, false, false, false, false, false] ?_
  refine pu_ 11 17 #[true, true, false, false, false, true, true, false, false, false, true, true, false, false, true, false, false, false, false, false, false, true, false, false, false, false, false, true, false, false, false, false, false, false, false, false, false, false] ?_
  refine pu_ 15 21 #[true, true, false, false, false, true, true, false, false, false, true, true, false, false, true, true, false, false, false, false, false, true, false, false, false, false, false, true, false, false, false, false, false, false, false, false, false, false] ?_
  refine pu_ 22 28 #[true, true, false, false, false, true, true, false, false, false, true, true, false, false, true, true, false, false, false, false, false, true, true, false, false, false, false, true, false, false, false, false, false, false, false, false, false, false] ?_
  refine pu_ 28 34 #[true, true, false, false, false, true, true, false, false, false, true, true, false, false, true, true, false, false, false, false, false, true, true, false, false, false, false, true, true, false, false, false, false, false, false, false, false, false] ?_
  refine pu_ 2 8 #[true, true, true, false, false, true, true, false, false, false, true, true, false, false, true, true, false, false, false, false, false, true, true, false, false, false, false, true, true, false, false, false, false, false, false, false, false, false] ?_
  refine pu_ 7 13 #[true, true, true, false, false, true, true, true, false, false, true, true, false, false, true, true, false, false, false, false, false, true, true, false, false, false, false, true, true, false, false, false, false, false, false, false, false, false] ?_
  refine pu_ 12 18 #[true, true, true, false, false, true, true, true, false, false, true, true, true, false, true, true, false, false, false, false, false, true, true, false, false, false, false, true, true, false, false, false, false, false, false, false, false, false] ?_
  refine pu_ 16 22 #[true, true, true, false, false, true, true, true, false, false, true, true, true, false, true, true, true, false, false, false, false, true, true, false, false, false, false, true, true, false, false, false, false, false, false, false, false, false] ?_
  refine pu_ 23 29 #[true, true, true, false, false, true, true, true, false, false, true, true, true, false, true, true, true, false, false, false, false, true, true, true, false, false, false, true, true, false, false, false, false, false, false, false, false, false] ?_
  refine pu_ 29 35 #[true, true, true, false, false, true, true, true, false, false, true, true, true, false, true, true, true, false, false, false, false, true, true, true, false, false, false, true, true, true, false, false, false, false, false, false, false, false] ?_
  refine pu_ 3 9 #[true, true, true, true, false, true, true, true, false, false, true, true, true, false, true, true, true, false, false, false, false, true, true, true, false, false, false, true, true, true, false, false, false, false, false, false, false, false] ?_
  refine pu_ 8 14 #[true, true, true, true, false, true, true, true, true, false, true, true, true, false, true, true, true, false, false, false, false, true, true, true, false, false, false, true, true, true, false, false, false, false, false, false, false, false] ?_
  refine ta_ 13 19 #[true, true, true, true, false, true, true, true, true, false, true, true, true, true, true, true, true, false, false, false, false, true, true, true, false, false, false, true, true, true, false, false, false, false, false, false, false, false] hHeld (v := ?_) ?_ ?_
  rotate_left
  ·intro w' hS
   have s19 := blk_cell hS 19
   have s20 := blk_cell hS 20
   have s21 := blk_cell hS 21
   have s22 := blk_cell hS 22
   have s23 := blk_cell hS 23
   have s24 := blk_cell hS 24
   have s25 := blk_cell hS 25
   have s26 := blk_cell hS 26
   have s27 := blk_cell hS 27
   have s28 := blk_cell hS 28
   have s29 := blk_cell hS 29
   have s30 := blk_cell hS 30
   simp only [List.getElem?_toArray, List.getElem?_cons_zero, List.getElem?_cons_succ] at s19 s20 s21 s22 s23 s24 s25 s26 s27 s28 s29 s30
   clear hS
   go_simp
   with_reducible rfl
  refine pu_ 17 23 #[true, true, true, true, false, true, true, true, true, false, true, true, true, true, true, true, true, true, false, false, false, true, true, true, false, false, false, true, true, true, false, false, false, false, false, false, false, false] ?_
  refine pu_ 24 30 #[true, true, true, true, false, true, true, true, true, false, true, true, true, true, true, true, true, true, false, false, false, true, true, true, true, false, false, true, true, true, false, false, false, false, false, false, false, false] ?_
  refine ta_ 30 36 #[true, true, true, true, false, true, true, true, true, false, true, true, true, true, true, true, true, true, false, false, false, true, true, true, true, false, false, true, true, true, true, false, false, false, false, false, false, false] hHeld (v := ?_) ?_ ?_
  rotate_left
  ·intro w' hS
   have s31 := blk_cell hS 31
   simp only [List.getElem?_toArray, List.getElem?_cons_zero, List.getElem?_cons_succ] at s31
   clear hS
   go_simp
   with_reducible rfl
  refine ta_ 4 10 #[true, true, true, true, true, true, true, true, true, false, true, true, true, true, true, true, true, true, false, false, false, true, true, true, true, false, false, true, true, true, true, false, false, false, false, false, false, false] hHeld (v := ?_) ?_ ?_
  rotate_left
  ·intro w' hS
   have s0 := blk_cell hS 0
   have s1 := blk_cell hS 1
   have s2 := blk_cell hS 2
   have s3 := blk_cell hS 3
   have s4 := blk_cell hS 4
   have s5 := blk_cell hS 5
   have s6 := blk_cell hS 6
   have s7 := blk_cell hS 7
   simp only [List.getElem?_toArray, List.getElem?_cons_zero, List.getElem?_cons_succ] at s0 s1 s2 s3 s4 s5 s6 s7
   clear hS
   go_simp
   with_reducible rfl
  refine ta_ 9 15 #[true, true, true, true, true, true, true, true, true, true, true, true, true, true, true, true, true, true, false, false, false, true, true, true, true, false, false, true, true, true, true, false, false, false, false, false, false, false] hHeld (v := ?_) ?_ ?_
  rotate_left
  ·intro w' hS
   have s8 := blk_cell hS 8
   have s9 := blk_cell hS 9
   have s10 := blk_cell hS 10
   simp only [List.getElem?_toArray, List.getElem?_cons_zero, List.getElem?_cons_succ] at s8 s9 s10
   clear hS
   go_simp
   with_reducible rfl
  refine ta_ 18 24 #[true, true, true, true, true, true, true, true, true, true, true, true, true, true, true, true, true, true, true, false, false, true, true, true, true, false, false, true, true, true, true, false, false, false, false, false, false, false] hHeld (v := ?_) ?_ ?_
  rotate_left
  ·intro w' hS
   have s11 := blk_cell hS 11
   have s12 := blk_cell hS 12
   have s13 := blk_cell hS 13
   simp only [List.getElem?_toArray, List.getElem?_cons_zero, List.getElem?_cons_succ] at s11 s12 s13
   clear hS
   go_simp
   with_reducible rfl
  refine pu_ 25 31 #[true, true, true, true, true, true, true, true, true, true, true, true, true, true, true, true, true, true, true, false, false, true, true, true, true, true, false, true, true, true, true, false, false, false, false, false, false, false] ?_
  refine ta_ 26 32 #[true, true, true, true, true, true, true, true, true, true, true, true, true, true, true, true, true, true, true, false, false, true, true, true, true, true, true, true, true, true, true, false, false, false, false, false, false, false] hHeld (v := ?_) ?_ ?_
  rotate_left
  ·intro w' hS
   have s17 := blk_cell hS 17
   simp only [List.getElem?_toArray, List.getElem?_cons_zero, List.getElem?_cons_succ] at s17
   clear hS
   go_simp
   with_reducible rfl
  refine two_ (i := 19) (j := 35) (Ni := some 25) (Nj := some 3) #[true, true, true, true, true, true, true, true, true, true, true, true, true, true, true, true, true, true, true, true, false, true, true, true, true, true, true, true, true, true, true, false, false, false, false, false, false, false] #[true, true, true, true, true, true, true, true, true, true, true, true, true, true, true, true, true, true, true, false, false, true, true, true, true, true, true, true, true, true, true, false, false, false, false, true, false, false] rfl rfl rfl rfl (by kernel_rfl) (by decide) (by decide) (fun K hK => ?_) (fun K hK => ?_)
  ·skip
   refine goes_ Try.func52 (by kernel_rfl) rfl #[.agg #[.int .i64 q0, .int .i64 q1, .int .i64 q2, .int .i64 q3, .int .i64 q4, .int .i64 q5, .int .i64 q6, .int .i64 q7, .int .i64 q8, .int .i64 q9, .int .i64 q10, .int .i64 q11], .agg #[.int .i64 h0, .int .i64 h1, .bool h2]] (by rfl) rfl rfl (by (try simp only [List.map_toArray, List.map_cons, List.map_nil]); first | done | rfl) ?_
   refine (limit_Into.calls _ _ _ _ _ _ _ _ _ _ _ _ _ _ _ _ _ _ _ HI.out).mono ?_
   rintro e_ w1 ⟨rfl, hb2⟩
   refine ⟨_, rfl, ?_⟩
   have f3 := blk_below FG hb2
   have f4 := Kd.C_below FC2 hb2
   have f5 := Kd.C_below FC7 hb2
   have b6 := below_step FB hb2
   refine hK.out _ _ f3 (fun hHeld => ?_)
   clear hK K
   refine no_ 25 ?_
   refine pu_ 20 26 #[true, true, true, true, true, true, true, true, true, true, true, true, true, true, true, true, true, true, true, true, true, true, true, true, true, true, true, true, true, true, true, false, false, false, false, false, false, false] ?_
   refine two_ (i := 31) (j := 35) (Ni := some 37) (Nj := some 3) #[true, true, true, true, true, true, true, true, true, true, true, true, true, true, true, true, true, true, true, true, true, true, true, true, true, true, true, true, true, true, true, true, false, false, false, false, false, false] #[true, true, true, true, true, true, true, true, true, true, true, true, true, true, true, true, true, true, true, true, true, true, true, true, true, true, true, true, true, true, true, false, false, false, false, true, false, false] rfl rfl rfl rfl (by kernel_rfl) (by decide) (by decide) (fun K hK => ?_) (fun K hK => ?_)
   ·skip
    refine goes_ Try.func51 (by kernel_rfl) rfl #[.agg #[.int .i64 p0, .int .i64 p1, .slice A2 l2.length c2, .int .i64 p3, .int .i64 p4, .int .i64 p5, .int .i64 p6, .slice A7 l7.length c7], .agg #[.int .i64 s0, .int .i64 s1, .bool s2], .int .i64 cur, .int .i64 ut, .int .i64 now] (by rfl) rfl rfl (by (try simp only [List.map_toArray, List.map_cons, List.map_nil]); first | done | rfl) ?_
    refine (policy_Next.calls k _ _ _ _ _ _ _ _ _ _ _ _ _ _ _ _ _ _ _ _ _ _ _ f4 hc2 f5 hc7 HN.out).mono ?_
    rintro e_ w7 ⟨rfl, hb8⟩
    refine ⟨_, rfl, ?_⟩
    have f9 := blk_below f3 hb8
    have f10 := Kd.C_below f4 hb8
    have f11 := Kd.C_below f5 hb8
    have b12 := below_step b6 hb8
    refine hK.out _ _ f9 (fun hHeld => ?_)
    clear hK K
    refine no_ 37 ?_
    refine pu_ 32 5 #[true, true, true, true, true, true, true, true, true, true, true, true, true, true, true, true, true, true, true, true, true, true, true, true, true, true, true, true, true, true, true, true, true, false, false, false, false, false] ?_
    refine pu_ 33 38 #[true, true, true, true, true, true, true, true, true, true, true, true, true, true, true, true, true, true, true, true, true, true, true, true, true, true, true, true, true, true, true, true, true, true, false, false, false, false] ?_
    refine pu_ 34 39 #[true, true, true, true, true, true, true, true, true, true, true, true, true, true, true, true, true, true, true, true, true, true, true, true, true, true, true, true, true, true, true, true, true, true, true, false, false, false] ?_
    refine one_ (i := 35) (N := some 3) #[true, true, true, true, true, true, true, true, true, true, true, true, true, true, true, true, true, true, true, true, true, true, true, true, true, true, true, true, true, true, true, true, true, true, true, true, false, false] rfl rfl (by kernel_rfl) (by decide) (fun K hK => ?_)
    refine box_step ?hg (N := 3) ?hd (cs := #[.int .i64 0, .int .i64 0, .bool false]) (t := 29) ?hr ?_; (case hd => rfl); (case hg => rfl); (case hr => first | (go_simp; done) | (go_simp; rfl))
    intro gs e16 w13 h15 hb14
    have lt_G_gs : G < gs := by rw [e16]; exact blk_lt f9
    have ge_gs : w.heap.size ≤ gs := by rw [e16]; exact b12.size
    clear e16
    have f17 := blk_below f9 hb14
    have f18 := Kd.C_below f10 hb14
    have f19 := Kd.C_below f11 hb14
    have b20 := below_step b12 hb14
    refine hK.out _ _ f17 (fun hHeld => ?_)
    clear hK K
    refine no_ 3 ?_
    refine one_ (i := 36) (N := none) #[true, true, true, true, true, true, true, true, true, true, true, true, true, true, true, true, true, true, true, true, true, true, true, true, true, true, true, true, true, true, true, true, true, true, true, true, true, false] rfl rfl (by kernel_rfl) (by decide) (fun K hK => ?_)
    have z21 := blk_cell h15 0
    have z24 := blk_frozen h15 0
    have z22 := blk_cell h15 1
    have z25 := blk_frozen h15 1
    have z23 := blk_cell h15 2
    have z26 := blk_frozen h15 2
    simp only [List.getElem?_toArray, List.getElem?_cons_zero, List.getElem?_cons_succ] at z21 z22 z23
    refine skip_ (w1 := ?_) (by rfl) rfl ?_ ?_
    rotate_left
    ·go_simp
     rfl
    clear z21 z22 z23 z24 z25 z26
    have f27 := blk_far (p := ⟨gs, 2, none⟩) (blk_far (p := ⟨gs, 1, none⟩) (blk_far (p := ⟨gs, 0, none⟩) (f17) (by show G ≠ gs; omega) (.int .i64 n0)) (by show G ≠ gs; omega) (.int .i64 n1)) (by show G ≠ gs; omega) (.bool n2)
    have f28 : (_ : World).heap[gs]? = some (.cells #[.int .i64 n0, .int .i64 n1, .bool n2] 29 (0, 0)) := blk_put (blk_put (blk_put (h15) 0 (.int .i64 n0) rfl) 1 (.int .i64 n1) rfl) 2 (.bool n2) rfl
    have b31 := below_set (g := gs) (j := 2) (v := .bool n2) (below_set (g := gs) (j := 1) (v := .int .i64 n1) (below_set (g := gs) (j := 0) (v := .int .i64 n0) (b20) ge_gs) ge_gs) ge_gs
    generalize (((w13.setCell _ _).setCell _ _).setCell _ _) = w32 at f27 f28 b31 ⊢
    refine hK.out _ _ f27 (fun hHeld => ?_)
    clear hK K
    refine pu_ 37 4 #[true, true, true, true, true, true, true, true, true, true, true, true, true, true, true, true, true, true, true, true, true, true, true, true, true, true, true, true, true, true, true, true, true, true, true, true, true, true] ?_
    refine done_ (by kernel_rfl) ?_
    (try go_wp2)
    go_meet
    exact ⟨gs, rfl, rfl, f27, f28, by omega, b31⟩
   ·skip
    refine box_step ?hg (N := 3) ?hd (cs := #[.int .i64 0, .int .i64 0, .bool false]) (t := 29) ?hr ?_; (case hd => rfl); (case hg => rfl); (case hr => first | (go_simp; done) | (go_simp; rfl))
    intro gs e36 w33 h35 hb34
    have lt_G_gs : G < gs := by rw [e36]; exact blk_lt f3
    have ge_gs : w.heap.size ≤ gs := by rw [e36]; exact b6.size
    clear e36
    have f37 := blk_below f3 hb34
    have f38 := Kd.C_below f4 hb34
    have f39 := Kd.C_below f5 hb34
    have b40 := below_step b6 hb34
    refine hK.out _ _ f37 (fun hHeld => ?_)
    clear hK K
    refine no_ 3 ?_
    refine one_ (i := 31) (N := some 37) #[true, true, true, true, true, true, true, true, true, true, true, true, true, true, true, true, true, true, true, true, true, true, true, true, true, true, true, true, true, true, true, true, false, false, false, true, false, false] rfl rfl (by kernel_rfl) (by decide) (fun K hK => ?_)
    refine goes_ Try.func51 (by kernel_rfl) rfl #[.agg #[.int .i64 p0, .int .i64 p1, .slice A2 l2.length c2, .int .i64 p3, .int .i64 p4, .int .i64 p5, .int .i64 p6, .slice A7 l7.length c7], .agg #[.int .i64 s0, .int .i64 s1, .bool s2], .int .i64 cur, .int .i64 ut, .int .i64 now] (by rfl) rfl rfl (by (try simp only [List.map_toArray, List.map_cons, List.map_nil]); first | done | rfl) ?_
    refine (policy_Next.calls k _ _ _ _ _ _ _ _ _ _ _ _ _ _ _ _ _ _ _ _ _ _ _ f38 hc2 f39 hc7 HN.out).mono ?_
    rintro e_ w41 ⟨rfl, hb42⟩
    refine ⟨_, rfl, ?_⟩
    have f43 := blk_below f37 hb42
    have f44 := blk_below h35 hb42
    have f45 := Kd.C_below f38 hb42
    have f46 := Kd.C_below f39 hb42
    have b47 := below_step b40 hb42
    refine hK.out _ _ f43 (fun hHeld => ?_)
    clear hK K
    refine no_ 37 ?_
    refine pu_ 32 5 #[true, true, true, true, true, true, true, true, true, true, true, true, true, true, true, true, true, true, true, true, true, true, true, true, true, true, true, true, true, true, true, true, true, false, false, true, false, false] ?_
    refine pu_ 33 38 #[true, true, true, true, true, true, true, true, true, true, true, true, true, true, true, true, true, true, true, true, true, true, true, true, true, true, true, true, true, true, true, true, true, true, false, true, false, false] ?_
    refine pu_ 34 39 #[true, true, true, true, true, true, true, true, true, true, true, true, true, true, true, true, true, true, true, true, true, true, true, true, true, true, true, true, true, true, true, true, true, true, true, true, false, false] ?_
    refine one_ (i := 36) (N := none) #[true, true, true, true, true, true, true, true, true, true, true, true, true, true, true, true, true, true, true, true, true, true, true, true, true, true, true, true, true, true, true, true, true, true, true, true, true, false] rfl rfl (by kernel_rfl) (by decide) (fun K hK => ?_)
    have z48 := blk_cell f44 0
    have z51 := blk_frozen f44 0
    have z49 := blk_cell f44 1
    have z52 := blk_frozen f44 1
    have z50 := blk_cell f44 2
    have z53 := blk_frozen f44 2
    simp only [List.getElem?_toArray, List.getElem?_cons_zero, List.getElem?_cons_succ] at z48 z49 z50
    refine skip_ (w1 := ?_) (by rfl) rfl ?_ ?_
    rotate_left
    ·go_simp
     rfl
    clear z48 z49 z50 z51 z52 z53
    have f54 := blk_far (p := ⟨gs, 2, none⟩) (blk_far (p := ⟨gs, 1, none⟩) (blk_far (p := ⟨gs, 0, none⟩) (f43) (by show G ≠ gs; omega) (.int .i64 n0)) (by show G ≠ gs; omega) (.int .i64 n1)) (by show G ≠ gs; omega) (.bool n2)
    have f55 : (_ : World).heap[gs]? = some (.cells #[.int .i64 n0, .int .i64 n1, .bool n2] 29 (0, 0)) := blk_put (blk_put (blk_put (f44) 0 (.int .i64 n0) rfl) 1 (.int .i64 n1) rfl) 2 (.bool n2) rfl
    have b58 := below_set (g := gs) (j := 2) (v := .bool n2) (below_set (g := gs) (j := 1) (v := .int .i64 n1) (below_set (g := gs) (j := 0) (v := .int .i64 n0) (b47) ge_gs) ge_gs) ge_gs
    generalize (((w41.setCell _ _).setCell _ _).setCell _ _) = w59 at f54 f55 b58 ⊢
    refine hK.out _ _ f54 (fun hHeld => ?_)
    clear hK K
    refine pu_ 37 4 #[true, true, true, true, true, true, true, true, true, true, true, true, true, true, true, true, true, true, true, true, true, true, true, true, true, true, true, true, true, true, true, true, true, true, true, true, true, true] ?_
    refine done_ (by kernel_rfl) ?_
    (try go_wp2)
    go_meet
    exact ⟨gs, rfl, rfl, f54, f55, by omega, b58⟩
  ·skip
   refine box_step ?hg (N := 3) ?hd (cs := #[.int .i64 0, .int .i64 0, .bool false]) (t := 29) ?hr ?_; (case hd => rfl); (case hg => rfl); (case hr => first | (go_simp; done) | (go_simp; rfl))
   intro gs e63 w60 h62 hb61
   have lt_G_gs : G < gs := by rw [e63]; exact blk_lt FG
   have ge_gs : w.heap.size ≤ gs := by rw [e63]; exact FB.size
   clear e63
   have f64 := blk_below FG hb61
   have f65 := Kd.C_below FC2 hb61
   have f66 := Kd.C_below FC7 hb61
   have b67 := below_step FB hb61
   refine hK.out _ _ f64 (fun hHeld => ?_)
   clear hK K
   refine no_ 3 ?_
   refine one_ (i := 19) (N := some 25) #[true, true, true, true, true, true, true, true, true, true, true, true, true, true, true, true, true, true, true, true, false, true, true, true, true, true, true, true, true, true, true, false, false, false, false, true, false, false] rfl rfl (by kernel_rfl) (by decide) (fun K hK => ?_)
   refine goes_ Try.func52 (by kernel_rfl) rfl #[.agg #[.int .i64 q0, .int .i64 q1, .int .i64 q2, .int .i64 q3, .int .i64 q4, .int .i64 q5, .int .i64 q6, .int .i64 q7, .int .i64 q8, .int .i64 q9, .int .i64 q10, .int .i64 q11], .agg #[.int .i64 h0, .int .i64 h1, .bool h2]] (by rfl) rfl rfl (by (try simp only [List.map_toArray, List.map_cons, List.map_nil]); first | done | rfl) ?_
   refine (limit_Into.calls _ _ _ _ _ _ _ _ _ _ _ _ _ _ _ _ _ _ _ HI.out).mono ?_
   rintro e_ w68 ⟨rfl, hb69⟩
   refine ⟨_, rfl, ?_⟩
   have f70 := blk_below f64 hb69
   have f71 := blk_below h62 hb69
   have f72 := Kd.C_below f65 hb69
   have f73 := Kd.C_below f66 hb69
   have b74 := below_step b67 hb69
   refine hK.out _ _ f70 (fun hHeld => ?_)
   clear hK K
   refine no_ 25 ?_
   refine pu_ 20 26 #[true, true, true, true, true, true, true, true, true, true, true, true, true, true, true, true, true, true, true, true, true, true, true, true, true, true, true, true, true, true, true, false, false, false, false, true, false, false] ?_
   refine one_ (i := 31) (N := some 37) #[true, true, true, true, true, true, true, true, true, true, true, true, true, true, true, true, true, true, true, true, true, true, true, true, true, true, true, true, true, true, true, true, false, false, false, true, false, false] rfl rfl (by kernel_rfl) (by decide) (fun K hK => ?_)
   refine goes_ Try.func51 (by kernel_rfl) rfl #[.agg #[.int .i64 p0, .int .i64 p1, .slice A2 l2.length c2, .int .i64 p3, .int .i64 p4, .int .i64 p5, .int .i64 p6, .slice A7 l7.length c7], .agg #[.int .i64 s0, .int .i64 s1, .bool s2], .int .i64 cur, .int .i64 ut, .int .i64 now] (by rfl) rfl rfl (by (try simp only [List.map_toArray, List.map_cons, List.map_nil]); first | done | rfl) ?_
   refine (policy_Next.calls k _ _ _ _ _ _ _ _ _ _ _ _ _ _ _ _ _ _ _ _ _ _ _ f72 hc2 f73 hc7 HN.out).mono ?_
   rintro e_ w75 ⟨rfl, hb76⟩
   refine ⟨_, rfl, ?_⟩
   have f77 := blk_below f70 hb76
   have f78 := blk_below f71 hb76
   have f79 := Kd.C_below f72 hb76
   have f80 := Kd.C_below f73 hb76
   have b81 := below_step b74 hb76
   refine hK.out _ _ f77 (fun hHeld => ?_)
   clear hK K
   refine no_ 37 ?_
   refine pu_ 32 5 #[true, true, true, true, true, true, true, true, true, true, true, true, true, true, true, true, true, true, true, true, true, true, true, true, true, true, true, true, true, true, true, true, true, false, false, true, false, false] ?_
   refine pu_ 33 38 #[true, true, true, true, true, true, true, true, true, true, true, true, true, true, true, true, true, true, true, true, true, true, true, true, true, true, true, true, true, true, true, true, true, true, false, true, false, false] ?_
   refine pu_ 34 39 #[true, true, true, true, true, true, true, true, true, true, true, true, true, true, true, true, true, true, true, true, true, true, true, true, true, true, true, true, true, true, true, true, true, true, true, true, false, false] ?_
   refine one_ (i := 36) (N := none) #[true, true, true, true, true, true, true, true, true, true, true, true, true, true, true, true, true, true, true, true, true, true, true, true, true, true, true, true, true, true, true, true, true, true, true, true, true, false] rfl rfl (by kernel_rfl) (by decide) (fun K hK => ?_)
   have z82 := blk_cell f78 0
   have z85 := blk_frozen f78 0
   have z83 := blk_cell f78 1
   have z86 := blk_frozen f78 1
   have z84 := blk_cell f78 2
   have z87 := blk_frozen f78 2
   simp only [List.getElem?_toArray, List.getElem?_cons_zero, List.getElem?_cons_succ] at z82 z83 z84
   refine skip_ (w1 := ?_) (by rfl) rfl ?_ ?_
   rotate_left
   ·go_simp
    rfl
   clear z82 z83 z84 z85 z86 z87
   have f88 := blk_far (p := ⟨gs, 2, none⟩) (blk_far (p := ⟨gs, 1, none⟩) (blk_far (p := ⟨gs, 0, none⟩) (f77) (by show G ≠ gs; omega) (.int .i64 n0)) (by show G ≠ gs; omega) (.int .i64 n1)) (by show G ≠ gs; omega) (.bool n2)
   have f89 : (_ : World).heap[gs]? = some (.cells #[.int .i64 n0, .int .i64 n1, .bool n2] 29 (0, 0)) := blk_put (blk_put (blk_put (f78) 0 (.int .i64 n0) rfl) 1 (.int .i64 n1) rfl) 2 (.bool n2) rfl
   have b92 := below_set (g := gs) (j := 2) (v := .bool n2) (below_set (g := gs) (j := 1) (v := .int .i64 n1) (below_set (g := gs) (j := 0) (v := .int .i64 n0) (b81) ge_gs) ge_gs) ge_gs
   generalize (((w75.setCell _ _).setCell _ _).setCell _ _) = w93 at f88 f89 b92 ⊢
   refine hK.out _ _ f88 (fun hHeld => ?_)
   clear hK K
   refine pu_ 37 4 #[true, true, true, true, true, true, true, true, true, true, true, true, true, true, true, true, true, true, true, true, true, true, true, true, true, true, true, true, true, true, true, true, true, true, true, true, true, true] ?_
   refine done_ (by kernel_rfl) ?_
   (try go_wp2)
   go_meet
   exact ⟨gs, rfl, rfl, f88, f89, by omega, b92⟩
 case rest =>
  obtain ⟨gs, rfl, rfl, FG, FS, hlt, FB⟩ := hcut
  clear hG hr2 hr7 HI HN
  have g8 := blk_cell FG 8
  have e8 := blk_frozen FG 8
  have g9 := blk_cell FG 9
  have e9 := blk_frozen FG 9
  have g10 := blk_cell FG 10
  have e10 := blk_frozen FG 10
  have z0 := blk_cell FS 0
  have z1 := blk_cell FS 1
  have z2 := blk_cell FS 2
  simp only [List.getElem?_toArray, List.getElem?_cons_zero, List.getElem?_cons_succ] at g8 g9 g10 z0 z1 z2
  have hne : gs ≠ G := by omega
  have HG := Aside0.mk FG
  have HB := Aside0.mk FB
  clear FG FS FB
  go_upto_region 3 with (fail)
  have HG3 := Aside0.mk (blk_put (blk_put (blk_put HG.out 8 (.int .i64 n0) rfl) 9 (.int .i64 n1) rfl) 10 (.bool n2) rfl)
  have HK3 := Aside0.mk (Kept.setCell (p := ⟨G, 10, none⟩) (Kept.setCell (p := ⟨G, 9, none⟩) (Kept.setCell (p := ⟨G, 8, none⟩) (Kept.of_below HB.out (fun k => k = G)) (.inl rfl) (.int .i64 n0)) (.inl rfl) (.int .i64 n1)) (.inl rfl) (.bool n2))
  have HO3 := Aside0.mk (show ((((wc.setCell ⟨G, 8, none⟩ (.int .i64 n0)).setCell ⟨G, 9, none⟩ (.int .i64 n1)).setCell ⟨G, 10, none⟩ (.bool n2)).os = w.os ∧ (((wc.setCell ⟨G, 8, none⟩ (.int .i64 n0)).setCell ⟨G, 9, none⟩ (.int .i64 n1)).setCell ⟨G, 10, none⟩ (.bool n2)).tape = w.tape ∧ (((wc.setCell ⟨G, 8, none⟩ (.int .i64 n0)).setCell ⟨G, 9, none⟩ (.int .i64 n1)).setCell ⟨G, 10, none⟩ (.bool n2)).output = w.output) from ⟨HB.out.os, HB.out.tape, HB.out.output⟩)
  generalize ((wc.setCell _ _).setCell _ _).setCell _ _ = w3 at HG3 HK3 HO3 ⊢
  clear HG HB
  go_wp2
  go_ret
  exact ⟨rfl, HG3.out, HK3.out, HO3.out⟩
/-! ### fleet_Step: function 14 -/
def fleet_Step.f (k : Nat) (q0 q1 q2 q3 q4 q5 q6 q7 q8 q9 q10 q11 : Int) (p0 p1 : Int) (l2 : List (S56)) (p3 p4 p5 p6 : Int) (l7 : List (S58)) (s0 s1 : Int) (s2 : Bool) (h0 h1 : Int) (h2 : Bool) (R : Int) (l15 : List Int) (wt ut : Int) (l18 : List (S52)) (demand now : Int) : Option (Int × Int × (List (S56)) × Int × Int × Int × Int × (List (S58)) × Int × Int × Bool × Int × Int × Bool × Int × List Int × Int × Int × (List (S52))) :=
 if l2.length < 8796093022208 ∧ l7.length < 8796093022208 ∧ l15.length < 17592186044416 ∧ l18.length < 8796093022208 then (if (p0 == 0) = true then some (p0, p1, l2, p3, p4, p5, p6, l7, s0, s1, s2, h0, h1, h2, R, l15, wt, ut, l18) else
  (limit_Into.f q0 q1 q2 q3 q4 q5 q6 q7 q8 q9 q10 q11 h0 h1 h2).bind fun b1 => (policy_Next.f k p0 p1 l2 p3 p4 p5 p6 l7 s0 s1 s2 b1.1 ut now).bind fun b2 => (limit_Next.f q0 q1 q2 q3 q4 q5 q6 q7 q8 q9 q10 q11 h0 h1 h2 b2.2.2.2 now).bind fun b3 =>
  (plant_Step.f q0 q1 q2 q3 q4 q5 q6 q7 q8 q9 q10 q11 R l15 wt ut b3.1 demand).bind fun b4 => (score_Add.f q7 l18 b4.2.2.2.2.1 b4.2.2.2.2.2).bind fun b5 =>
   some (p0, p1, l2, p3, p4, p5, p6, l7, b2.1, b2.2.1, b2.2.2.1, b3.1, b3.2.1, b3.2.2, b4.1, b4.2.1, b4.2.2.1, b4.2.2.2.1, b5)) else none
theorem range_pre {w : World} {g t : Nat} {cs : Array Value} {more : List Value} (h : w.heap[g]? = some (.cells (cs.toList ++ more).toArray t (0, 0))) : w.rangeAt g 0 cs.toList := by
 intro j v hv
 rw [Nat.zero_add, cell_of_row w g j _ t (0, 0) h, List.getElem?_toArray]
 have hj : j < cs.toList.length := by
  by_cases hj : j < cs.toList.length
  ·exact hj
  ·rw [List.getElem?_eq_none (by omega)] at hv; cases hv
 rw [List.getElem?_append_left hj]; exact hv
theorem load_pre {P : Program} {ops : Array Oper} {rest : List Oper} {op : Oper} {a : Act} {w : World} {Q : Exit → Act → World → Prop} (hgd : op.guard = none) (ty : TypeId) (x : Operand) (ho : op.op = .load ty x)
  (b : Nat) (hx : a.eval x = .pointer (some ⟨b, 0, none⟩)) (cs : Array Value) (d : TypeDesc) (hc : w.rangeAt b 0 cs.toList)
  (hu : P.underlying ty = some d) (hd : d.isRow = true) (hi : (P.info? ty).map (·.size) = some cs.size)
  (h : wpList P ops Q rest (a.put op.dst (.agg cs)) w) : wpList P ops Q (op :: rest) a w :=
 wpList_load_mid hgd ty x ho b 0 hx cs.toList d hc hu hd (by rw [hi, Array.length_toList]) (by have e : cs.toList.toArray = cs := (by simp); rw [e]; exact h)
theorem range_row {w : World} {g t : Nat} {cs : Array Value} (h : w.heap[g]? = some (.cells cs t (0, 0))) : w.rangeAt g 0 cs.toList := range_pre (t := t) (more := []) (by simpa using h)
theorem yields_row {P : Program} {ops : Array Oper} {S : World → Prop} {op : Oper} {a : Act} (hw : Region.wanted op (yielded ops a.tmps) = true) (ty : TypeId) (x : Operand) (ho : op.op = .load ty x)
  (b : Nat) (hx : a.eval x = .pointer (some ⟨b, 0, none⟩)) (cs : Array Value) (d : TypeDesc) (hS : ∀ w, S w → w.rangeAt b 0 cs.toList)
  (hu : P.underlying ty = some d) (hd : d.isRow = true) (hi : (P.info? ty).map (·.size) = some cs.size) : YieldsIf P ops S op (.agg cs) a := by
 have e : cs.toList.toArray = cs := (by simp)
 have z := yieldsIf_load_mid (P := P) (ops := ops) hw ty x ho b 0 hx cs.toList d hS hu hd (by rw [hi, Array.length_toList])
 rwa [e] at z
theorem below_kept {w W W2 : World} {G : Nat} (h : Below w.heap.size w W) (k : Kept W W2 (fun k => k = G)) (hG : w.heap.size ≤ G) (ho : W2.os = W.os ∧ W2.tape = W.tape ∧ W2.output = W.output) : Below w.heap.size w W2 :=
 ⟨ho.1.trans h.os, ho.2.1.trans h.tape, ho.2.2.trans h.output, Nat.le_trans h.size k.1, fun i hi => (k.2 i (Nat.lt_of_lt_of_le hi h.size) (by omega)).trans (h.block i hi)⟩
set_option maxHeartbeats 8000000 in
set_option maxRecDepth 100000 in
theorem fleet_Step.calls (k : Nat) (q0 q1 q2 q3 q4 q5 q6 q7 q8 q9 q10 q11 : Int) (p0 p1 : Int) (E2 : Option Addr) (e2 : Nat) (l2 : List (S56)) (p3 p4 p5 p6 : Int) (E7 : Option Addr) (e7 : Nat) (l7 : List (S58)) (s0 s1 : Int) (s2 : Bool) (h0 h1 : Int) (h2 : Bool) (R : Int) (E15 : Option Addr) (e15 : Nat) (l15 : List Int) (wt ut : Int) (E18 : Option Addr) (e18 : Nat) (l18 : List (S52)) (demand now : Int) (r1 : Int) (r2 : Int) (r3 : List (S56)) (r4 : Int) (r5 : Int) (r6 : Int) (r7 : Int) (r8 : List (S58)) (r9 : Int) (r10 : Int) (r11 : Bool) (r12 : Int) (r13 : Int) (r14 : Bool) (r15 : Int) (r16 : List Int) (r17 : Int) (r18 : Int) (r19 : List (S52)) (w : World) (hr2 : Kd.C k56 w E2 l2.length l2) (hc2 : l2.length ≤ e2) (hr7 : Kd.C k58 w E7 l7.length l7) (hc7 : l7.length ≤ e7) (hr15 : Kd.C (Kd.int .i64) w E15 l15.length l15) (hc15 : l15.length ≤ e15) (hr18 : Kd.C k52 w E18 l18.length l18) (hc18 : l18.length ≤ e18) (h : fleet_Step.f k q0 q1 q2 q3 q4 q5 q6 q7 q8 q9 q10 q11 p0 p1 l2 p3 p4 p5 p6 l7 s0 s1 s2 h0 h1 h2 R l15 wt ut l18 demand now = some (r1, r2, r3, r4, r5, r6, r7, r8, r9, r10, r11, r12, r13, r14, r15, r16, r17, r18, r19)) :
  Calls Try.prog 14 #[.agg #[.int .i64 q0, .int .i64 q1, .int .i64 q2, .int .i64 q3, .int .i64 q4, .int .i64 q5, .int .i64 q6, .int .i64 q7, .int .i64 q8, .int .i64 q9, .int .i64 q10, .int .i64 q11], .agg #[.int .i64 p0, .int .i64 p1, .slice E2 l2.length e2, .int .i64 p3, .int .i64 p4, .int .i64 p5, .int .i64 p6, .slice E7 l7.length e7, .int .i64 s0, .int .i64 s1, .bool s2, .int .i64 h0, .int .i64 h1, .bool h2, .int .i64 R, .slice E15 l15.length e15, .int .i64 wt, .int .i64 ut, .slice E18 l18.length e18], .int .i64 demand, .int .i64 now] w fun e w' => ∃ v2_ v7_ v15_ v18_ : Value, e = .returned (.agg #[.int .i64 r1, .int .i64 r2, v2_, .int .i64 r4, .int .i64 r5, .int .i64 r6, .int .i64 r7, v7_, .int .i64 r9, .int .i64 r10, .bool r11, .int .i64 r12, .int .i64 r13, .bool r14, .int .i64 r15, v15_, .int .i64 r17, .int .i64 r18, v18_]) ∧ Kd.R k56 56 w' w.heap.size (fun _ => True) v2_ r3 ∧ Kd.R k58 58 w' w.heap.size (fun _ => True) v7_ r8 ∧ Kd.Q (Kd.int .i64) 3 w' w.heap.size (fun _ => True) v15_ r16 ∧ Kd.Q k52 52 w' w.heap.size (fun _ => True) v18_ r19 ∧ Below w.heap.size w w' := by
 have hu0 := Try.underlying69
 have hu1 := Try.underlying37
 have hu2 := Try.underlying27
 have hu3 := Try.underlying29
 have hu4 := Try.underlying23
 have hu5 := Try.underlying31
 have hu6 := Try.underlying34
 have hu7 := Try.underlying52
 unfold fleet_Step.f at h
 by_cases hD : l2.length < 8796093022208 ∧ l7.length < 8796093022208 ∧ l15.length < 17592186044416 ∧ l18.length < 8796093022208
 rotate_left
 ·rw [if_neg hD] at h; cases h
 rw [if_pos hD] at h
 have HO := Aside0.mk (show fleet_Own.f p0 p1 l2 p3 p4 p5 p6 l7 s0 s1 s2 h0 h1 h2 R l15 wt ut l18 = some (p0, p1, l2, p3, p4, p5, p6, l7, s0, s1, s2, h0, h1, h2, R, l15, wt, ut, l18) by unfold fleet_Own.f; rw [if_pos hD])
 have HH := Aside0.mk h
 clear h hD
 have HC2 := Aside0.mk hc2
 clear hc2
 have HC7 := Aside0.mk hc7
 clear hc7
 have HC15 := Aside0.mk hc15
 clear hc15
 have HC18 := Aside0.mk hc18
 clear hc18
 go_enter Try.func14, Try.ntmps14
 go_upto_region 1 with (fail)
 obtain ⟨FB, FC, FX, FR⟩ : Below w.heap.size w (((w.alloc (.cells #[.int .i64 q0, .int .i64 q1, .int .i64 q2, .int .i64 q3, .int .i64 q4, .int .i64 q5, .int .i64 q6, .int .i64 q7, .int .i64 q8, .int .i64 q9, .int .i64 q10, .int .i64 q11] 23)).alloc (.cells #[.int .i64 p0, .int .i64 p1, .slice E2 l2.length e2, .int .i64 p3, .int .i64 p4, .int .i64 p5, .int .i64 p6, .slice E7 l7.length e7, .int .i64 s0, .int .i64 s1, .bool s2, .int .i64 h0, .int .i64 h1, .bool h2, .int .i64 R, .slice E15 l15.length e15, .int .i64 wt, .int .i64 ut, .slice E18 l18.length e18] 37)).alloc (.cells #[.int .i64 0, .int .i64 0, .slice none 0 0, .int .i64 0, .int .i64 0, .int .i64 0, .int .i64 0, .slice none 0 0, .int .i64 0, .int .i64 0, .bool false, .int .i64 0, .int .i64 0, .bool false, .int .i64 0, .slice none 0 0, .int .i64 0, .int .i64 0, .slice none 0 0] 37)) ∧ (((w.alloc (.cells #[.int .i64 q0, .int .i64 q1, .int .i64 q2, .int .i64 q3, .int .i64 q4, .int .i64 q5, .int .i64 q6, .int .i64 q7, .int .i64 q8, .int .i64 q9, .int .i64 q10, .int .i64 q11] 23)).alloc (.cells #[.int .i64 p0, .int .i64 p1, .slice E2 l2.length e2, .int .i64 p3, .int .i64 p4, .int .i64 p5, .int .i64 p6, .slice E7 l7.length e7, .int .i64 s0, .int .i64 s1, .bool s2, .int .i64 h0, .int .i64 h1, .bool h2, .int .i64 R, .slice E15 l15.length e15, .int .i64 wt, .int .i64 ut, .slice E18 l18.length e18] 37)).alloc (.cells #[.int .i64 0, .int .i64 0, .slice none 0 0, .int .i64 0, .int .i64 0, .int .i64 0, .int .i64 0, .slice none 0 0, .int .i64 0, .int .i64 0, .bool false, .int .i64 0, .int .i64 0, .bool false, .int .i64 0, .slice none 0 0, .int .i64 0, .int .i64 0, .slice none 0 0] 37)).heap[w.heap.size]? = some (.cells #[.int .i64 q0, .int .i64 q1, .int .i64 q2, .int .i64 q3, .int .i64 q4, .int .i64 q5, .int .i64 q6, .int .i64 q7, .int .i64 q8, .int .i64 q9, .int .i64 q10, .int .i64 q11] 23 (0, 0)) ∧ (((w.alloc (.cells #[.int .i64 q0, .int .i64 q1, .int .i64 q2, .int .i64 q3, .int .i64 q4, .int .i64 q5, .int .i64 q6, .int .i64 q7, .int .i64 q8, .int .i64 q9, .int .i64 q10, .int .i64 q11] 23)).alloc (.cells #[.int .i64 p0, .int .i64 p1, .slice E2 l2.length e2, .int .i64 p3, .int .i64 p4, .int .i64 p5, .int .i64 p6, .slice E7 l7.length e7, .int .i64 s0, .int .i64 s1, .bool s2, .int .i64 h0, .int .i64 h1, .bool h2, .int .i64 R, .slice E15 l15.length e15, .int .i64 wt, .int .i64 ut, .slice E18 l18.length e18] 37)).alloc (.cells #[.int .i64 0, .int .i64 0, .slice none 0 0, .int .i64 0, .int .i64 0, .int .i64 0, .int .i64 0, .slice none 0 0, .int .i64 0, .int .i64 0, .bool false, .int .i64 0, .int .i64 0, .bool false, .int .i64 0, .slice none 0 0, .int .i64 0, .int .i64 0, .slice none 0 0] 37)).heap[(w.heap.size + 1)]? = some (.cells #[.int .i64 p0, .int .i64 p1, .slice E2 l2.length e2, .int .i64 p3, .int .i64 p4, .int .i64 p5, .int .i64 p6, .slice E7 l7.length e7, .int .i64 s0, .int .i64 s1, .bool s2, .int .i64 h0, .int .i64 h1, .bool h2, .int .i64 R, .slice E15 l15.length e15, .int .i64 wt, .int .i64 ut, .slice E18 l18.length e18] 37 (0, 0)) ∧ (((w.alloc (.cells #[.int .i64 q0, .int .i64 q1, .int .i64 q2, .int .i64 q3, .int .i64 q4, .int .i64 q5, .int .i64 q6, .int .i64 q7, .int .i64 q8, .int .i64 q9, .int .i64 q10, .int .i64 q11] 23)).alloc (.cells #[.int .i64 p0, .int .i64 p1, .slice E2 l2.length e2, .int .i64 p3, .int .i64 p4, .int .i64 p5, .int .i64 p6, .slice E7 l7.length e7, .int .i64 s0, .int .i64 s1, .bool s2, .int .i64 h0, .int .i64 h1, .bool h2, .int .i64 R, .slice E15 l15.length e15, .int .i64 wt, .int .i64 ut, .slice E18 l18.length e18] 37)).alloc (.cells #[.int .i64 0, .int .i64 0, .slice none 0 0, .int .i64 0, .int .i64 0, .int .i64 0, .int .i64 0, .slice none 0 0, .int .i64 0, .int .i64 0, .bool false, .int .i64 0, .int .i64 0, .bool false, .int .i64 0, .slice none 0 0, .int .i64 0, .int .i64 0, .slice none 0 0] 37)).heap[(w.heap.size + 2)]? = some (.cells #[.int .i64 0, .int .i64 0, .slice none 0 0, .int .i64 0, .int .i64 0, .int .i64 0, .int .i64 0, .slice none 0 0, .int .i64 0, .int .i64 0, .bool false, .int .i64 0, .int .i64 0, .bool false, .int .i64 0, .slice none 0 0, .int .i64 0, .int .i64 0, .slice none 0 0] 37 (0, 0)) := by
  have z1 := blk_new (w.alloc (.cells #[.int .i64 q0, .int .i64 q1, .int .i64 q2, .int .i64 q3, .int .i64 q4, .int .i64 q5, .int .i64 q6, .int .i64 q7, .int .i64 q8, .int .i64 q9, .int .i64 q10, .int .i64 q11] 23)) (.cells #[.int .i64 p0, .int .i64 p1, .slice E2 l2.length e2, .int .i64 p3, .int .i64 p4, .int .i64 p5, .int .i64 p6, .slice E7 l7.length e7, .int .i64 s0, .int .i64 s1, .bool s2, .int .i64 h0, .int .i64 h1, .bool h2, .int .i64 R, .slice E15 l15.length e15, .int .i64 wt, .int .i64 ut, .slice E18 l18.length e18] 37)
  rw [World.size_alloc] at z1
  have z2 := blk_new ((w.alloc (.cells #[.int .i64 q0, .int .i64 q1, .int .i64 q2, .int .i64 q3, .int .i64 q4, .int .i64 q5, .int .i64 q6, .int .i64 q7, .int .i64 q8, .int .i64 q9, .int .i64 q10, .int .i64 q11] 23)).alloc (.cells #[.int .i64 p0, .int .i64 p1, .slice E2 l2.length e2, .int .i64 p3, .int .i64 p4, .int .i64 p5, .int .i64 p6, .slice E7 l7.length e7, .int .i64 s0, .int .i64 s1, .bool s2, .int .i64 h0, .int .i64 h1, .bool h2, .int .i64 R, .slice E15 l15.length e15, .int .i64 wt, .int .i64 ut, .slice E18 l18.length e18] 37)) (.cells #[.int .i64 0, .int .i64 0, .slice none 0 0, .int .i64 0, .int .i64 0, .int .i64 0, .int .i64 0, .slice none 0 0, .int .i64 0, .int .i64 0, .bool false, .int .i64 0, .int .i64 0, .bool false, .int .i64 0, .slice none 0 0, .int .i64 0, .int .i64 0, .slice none 0 0] 37)
  rw [World.size_alloc, World.size_alloc] at z2
  exact ⟨below_alloc (below_alloc (below_alloc (Below.refl _ _) _) _) _, blk_alloc (blk_alloc (blk_new w _) _) _, blk_alloc z1 _, z2⟩
 replace hr2 := Kd.C_below hr2 (below_alloc (below_alloc (below_alloc (Below.refl _ _) (.cells #[.int .i64 q0, .int .i64 q1, .int .i64 q2, .int .i64 q3, .int .i64 q4, .int .i64 q5, .int .i64 q6, .int .i64 q7, .int .i64 q8, .int .i64 q9, .int .i64 q10, .int .i64 q11] 23)) (.cells #[.int .i64 p0, .int .i64 p1, .slice E2 l2.length e2, .int .i64 p3, .int .i64 p4, .int .i64 p5, .int .i64 p6, .slice E7 l7.length e7, .int .i64 s0, .int .i64 s1, .bool s2, .int .i64 h0, .int .i64 h1, .bool h2, .int .i64 R, .slice E15 l15.length e15, .int .i64 wt, .int .i64 ut, .slice E18 l18.length e18] 37)) (.cells #[.int .i64 0, .int .i64 0, .slice none 0 0, .int .i64 0, .int .i64 0, .int .i64 0, .int .i64 0, .slice none 0 0, .int .i64 0, .int .i64 0, .bool false, .int .i64 0, .int .i64 0, .bool false, .int .i64 0, .slice none 0 0, .int .i64 0, .int .i64 0, .slice none 0 0] 37))
 replace hr7 := Kd.C_below hr7 (below_alloc (below_alloc (below_alloc (Below.refl _ _) (.cells #[.int .i64 q0, .int .i64 q1, .int .i64 q2, .int .i64 q3, .int .i64 q4, .int .i64 q5, .int .i64 q6, .int .i64 q7, .int .i64 q8, .int .i64 q9, .int .i64 q10, .int .i64 q11] 23)) (.cells #[.int .i64 p0, .int .i64 p1, .slice E2 l2.length e2, .int .i64 p3, .int .i64 p4, .int .i64 p5, .int .i64 p6, .slice E7 l7.length e7, .int .i64 s0, .int .i64 s1, .bool s2, .int .i64 h0, .int .i64 h1, .bool h2, .int .i64 R, .slice E15 l15.length e15, .int .i64 wt, .int .i64 ut, .slice E18 l18.length e18] 37)) (.cells #[.int .i64 0, .int .i64 0, .slice none 0 0, .int .i64 0, .int .i64 0, .int .i64 0, .int .i64 0, .slice none 0 0, .int .i64 0, .int .i64 0, .bool false, .int .i64 0, .int .i64 0, .bool false, .int .i64 0, .slice none 0 0, .int .i64 0, .int .i64 0, .slice none 0 0] 37))
 replace hr15 := Kd.C_below hr15 (below_alloc (below_alloc (below_alloc (Below.refl _ _) (.cells #[.int .i64 q0, .int .i64 q1, .int .i64 q2, .int .i64 q3, .int .i64 q4, .int .i64 q5, .int .i64 q6, .int .i64 q7, .int .i64 q8, .int .i64 q9, .int .i64 q10, .int .i64 q11] 23)) (.cells #[.int .i64 p0, .int .i64 p1, .slice E2 l2.length e2, .int .i64 p3, .int .i64 p4, .int .i64 p5, .int .i64 p6, .slice E7 l7.length e7, .int .i64 s0, .int .i64 s1, .bool s2, .int .i64 h0, .int .i64 h1, .bool h2, .int .i64 R, .slice E15 l15.length e15, .int .i64 wt, .int .i64 ut, .slice E18 l18.length e18] 37)) (.cells #[.int .i64 0, .int .i64 0, .slice none 0 0, .int .i64 0, .int .i64 0, .int .i64 0, .int .i64 0, .slice none 0 0, .int .i64 0, .int .i64 0, .bool false, .int .i64 0, .int .i64 0, .bool false, .int .i64 0, .slice none 0 0, .int .i64 0, .int .i64 0, .slice none 0 0] 37))
 replace hr18 := Kd.C_below hr18 (below_alloc (below_alloc (below_alloc (Below.refl _ _) (.cells #[.int .i64 q0, .int .i64 q1, .int .i64 q2, .int .i64 q3, .int .i64 q4, .int .i64 q5, .int .i64 q6, .int .i64 q7, .int .i64 q8, .int .i64 q9, .int .i64 q10, .int .i64 q11] 23)) (.cells #[.int .i64 p0, .int .i64 p1, .slice E2 l2.length e2, .int .i64 p3, .int .i64 p4, .int .i64 p5, .int .i64 p6, .slice E7 l7.length e7, .int .i64 s0, .int .i64 s1, .bool s2, .int .i64 h0, .int .i64 h1, .bool h2, .int .i64 R, .slice E15 l15.length e15, .int .i64 wt, .int .i64 ut, .slice E18 l18.length e18] 37)) (.cells #[.int .i64 0, .int .i64 0, .slice none 0 0, .int .i64 0, .int .i64 0, .int .i64 0, .int .i64 0, .slice none 0 0, .int .i64 0, .int .i64 0, .bool false, .int .i64 0, .int .i64 0, .bool false, .int .i64 0, .slice none 0 0, .int .i64 0, .int .i64 0, .slice none 0 0] 37))
 generalize ((w.alloc _).alloc _).alloc _ = W0 at FB FC FX FR hr2 hr7 hr15 hr18 ⊢
 obtain ⟨ca, hca⟩ : ∃ ca : Array Value, ca = #[.int .i64 p0, .int .i64 p1, .slice E2 l2.length e2, .int .i64 p3, .int .i64 p4, .int .i64 p5, .int .i64 p6, .slice E7 l7.length e7, .int .i64 s0, .int .i64 s1, .bool s2, .int .i64 h0, .int .i64 h1, .bool h2, .int .i64 R, .slice E15 l15.length e15, .int .i64 wt, .int .i64 ut, .slice E18 l18.length e18] := ⟨_, rfl⟩
 rw [← hca] at FX
 have hcz : ca.size = 19 := by rw [hca]; rfl
 have hci : (Try.prog.info? 37).map (·.size) = some ca.size := by rw [hcz]; kernel_rfl
 have HCA := Aside0.mk hca
 have HCI := Aside0.mk hci
 clear hca hcz hci
 go_cut [9] (fun x9 wx => ∃ (G : Nat) (A2 : Option Addr) (c2 : Nat) (A7 : Option Addr) (c7 : Nat) (A15 : Option Addr) (c15 : Nat) (A18 : Option Addr) (c18 : Nat), x9 = .pointer (some ⟨G, 0, none⟩) ∧ wx.heap[G]? = some (.cells #[.int .i64 p0, .int .i64 p1, .slice A2 l2.length c2, .int .i64 p3, .int .i64 p4, .int .i64 p5, .int .i64 p6, .slice A7 l7.length c7, .int .i64 s0, .int .i64 s1, .bool s2, .int .i64 h0, .int .i64 h1, .bool h2, .int .i64 R, .slice A15 l15.length c15, .int .i64 wt, .int .i64 ut, .slice A18 l18.length c18, .int .i64 q0, .int .i64 q1, .int .i64 q2, .int .i64 q3, .int .i64 q4, .int .i64 q5, .int .i64 q6, .int .i64 q7, .int .i64 q8, .int .i64 q9, .int .i64 q10, .int .i64 q11, .int .i64 now] 69 (0, 0)) ∧ wx.heap[(w.heap.size + 1)]? = some (.cells #[.int .i64 p0, .int .i64 p1, .slice E2 l2.length e2, .int .i64 p3, .int .i64 p4, .int .i64 p5, .int .i64 p6, .slice E7 l7.length e7, .int .i64 s0, .int .i64 s1, .bool s2, .int .i64 h0, .int .i64 h1, .bool h2, .int .i64 R, .slice E15 l15.length e15, .int .i64 wt, .int .i64 ut, .slice E18 l18.length e18] 37 (0, 0)) ∧ wx.heap[(w.heap.size + 2)]? = some (.cells #[.int .i64 0, .int .i64 0, .slice none 0 0, .int .i64 0, .int .i64 0, .int .i64 0, .int .i64 0, .slice none 0 0, .int .i64 0, .int .i64 0, .bool false, .int .i64 0, .int .i64 0, .bool false, .int .i64 0, .slice none 0 0, .int .i64 0, .int .i64 0, .slice none 0 0] 37 (0, 0)) ∧ Kd.R k56 56 wx w.heap.size (fun _ => True) (.slice A2 l2.length c2) l2 ∧ Kd.R k58 58 wx w.heap.size (fun _ => True) (.slice A7 l7.length c7) l7 ∧ Kd.R (Kd.int .i64) 3 wx w.heap.size (fun _ => True) (.slice A15 l15.length c15) l15 ∧ Kd.R k52 52 wx w.heap.size (fun _ => True) (.slice A18 l18.length c18) l18 ∧ Kd.C k56 wx E2 l2.length l2 ∧ Kd.C k58 wx E7 l7.length l7 ∧ w.heap.size + 2 < G ∧ Below w.heap.size w wx)
 case first =>
  refine start_ (n := 7) (S := fun w' => w'.heap[(w.heap.size + 1)]? = some (.cells ca 37 (0, 0)) ∧ w'.heap[w.heap.size]? = some (.cells #[.int .i64 q0, .int .i64 q1, .int .i64 q2, .int .i64 q3, .int .i64 q4, .int .i64 q5, .int .i64 q6, .int .i64 q7, .int .i64 q8, .int .i64 q9, .int .i64 q10, .int .i64 q11] 23 (0, 0))) (ds := []) #[false, false, false, false, false, false, false] (by kernel_rfl) rfl rfl ⟨FX, FC⟩ (fun hHeld => ?_)
  replace FB := below_step FB (below_drew1 (Below.refl _ _))
  replace FC := blk_below FC (below_drew1 (Below.refl _ _))
  replace FX := blk_below FX (below_drew1 (Below.refl _ _))
  replace FR := blk_below FR (below_drew1 (Below.refl _ _))
  replace hr2 := Kd.C_below hr2 (below_drew1 (Below.refl _ _))
  replace hr7 := Kd.C_below hr7 (below_drew1 (Below.refl _ _))
  replace hr15 := Kd.C_below hr15 (below_drew1 (Below.refl _ _))
  replace hr18 := Kd.C_below hr18 (below_drew1 (Below.refl _ _))
  generalize W0.drew = w9 at FB FC FX FR hr2 hr7 hr15 hr18 hHeld ⊢
  refine take_ (i := 0) (N := some 10) (v := .agg ca) (a' := ?_) #[true, false, false, false, false, false, false] rfl rfl (by kernel_rfl) (fun _ _ _ h => h) (yields_row (by rfl) 37 (.tmp 5) rfl (w.heap.size + 1) rfl ca _ (fun w' hS => range_row hS.1) hu1 rfl HCI.out) hHeld ?_ ?_
  rotate_left
  ·simp only [Act.put, List.setIfInBounds_toArray, List.set_cons_zero, List.set_cons_succ, i64_w, i32_w]
   rfl
  refine ta_ 2 12 #[true, false, true, false, false, false, false] hHeld (v := ?_) ?_ ?_
  rotate_left
  ·intro w' hS
   have s0 := blk_cell hS.2 0
   have s1 := blk_cell hS.2 1
   have s2 := blk_cell hS.2 2
   have s3 := blk_cell hS.2 3
   have s4 := blk_cell hS.2 4
   have s5 := blk_cell hS.2 5
   have s6 := blk_cell hS.2 6
   have s7 := blk_cell hS.2 7
   have s8 := blk_cell hS.2 8
   have s9 := blk_cell hS.2 9
   have s10 := blk_cell hS.2 10
   have s11 := blk_cell hS.2 11
   simp only [List.getElem?_toArray, List.getElem?_cons_zero, List.getElem?_cons_succ] at s0 s1 s2 s3 s4 s5 s6 s7 s8 s9 s10 s11
   clear hS
   go_simp
   with_reducible rfl
  refine pu_ 3 13 #[true, false, true, true, false, false, false] ?_
  refine one_ (i := 1) (N := some 11) #[true, true, true, true, false, false, false] rfl rfl (by kernel_rfl) (by decide) (fun K hK => ?_)
  rw [HCA.out]
  refine goes_ Try.func18 (by kernel_rfl) rfl #[.agg #[.int .i64 p0, .int .i64 p1, .slice E2 l2.length e2, .int .i64 p3, .int .i64 p4, .int .i64 p5, .int .i64 p6, .slice E7 l7.length e7, .int .i64 s0, .int .i64 s1, .bool s2, .int .i64 h0, .int .i64 h1, .bool h2, .int .i64 R, .slice E15 l15.length e15, .int .i64 wt, .int .i64 ut, .slice E18 l18.length e18]] (by rfl) rfl rfl (by (try simp only [List.map_toArray, List.map_cons, List.map_nil]); first | done | rfl) ?_
  refine (fleet_Own.calls _ _ _ _ _ _ _ _ _ _ _ _ _ _ _ _ _ _ _ _ _ _ _ _ _ _ _ _ _ _ _ _ _ _ _ _ _ _ _ _ _ _ _ _ _ _ _ hr2 HC2.out hr7 HC7.out hr15 HC15.out hr18 HC18.out HO.out).mono ?_
  rintro e_ w1 ⟨v2, v7, v15, v18, rfl, r2, r3, r4, r5, hb6⟩
  refine ⟨_, rfl, ?_⟩
  have f7 := blk_below FX hb6
  have f8 := blk_below FC hb6
  have f9 := blk_below FR hb6
  have f10 := Kd.C_below hr2 hb6
  have f11 := Kd.C_below hr7 hb6
  have f12 := Kd.C_below hr15 hb6
  have f13 := Kd.C_below hr18 hb6
  have b14 := below_step FB hb6
  replace r2 := Kd.R_lower r2 FB.size
  obtain ⟨A2, c2, rfl⟩ := Kd.R_slice r2
  replace r3 := Kd.R_lower r3 FB.size
  obtain ⟨A7, c7, rfl⟩ := Kd.R_slice r3
  replace r4 := Kd.R_lower r4 FB.size
  obtain ⟨A15, c15, rfl⟩ := Kd.R_slice r4
  replace r5 := Kd.R_lower r5 FB.size
  obtain ⟨A18, c18, rfl⟩ := Kd.R_slice r5
  refine hK.out _ _ ⟨f7, f8⟩ (fun hHeld => ?_)
  clear hK K
  refine no_ 11 ?_
  refine pu_ 4 14 #[true, true, true, true, true, false, false] ?_
  refine one_ (i := 5) (N := some 15) #[true, true, true, true, true, true, false] rfl rfl (by kernel_rfl) (by decide) (fun K hK => ?_)
  refine box_step ?hg (N := 15) ?hd (cs := #[.int .i64 p0, .int .i64 p1, .slice A2 l2.length c2, .int .i64 p3, .int .i64 p4, .int .i64 p5, .int .i64 p6, .slice A7 l7.length c7, .int .i64 s0, .int .i64 s1, .bool s2, .int .i64 h0, .int .i64 h1, .bool h2, .int .i64 R, .slice A15 l15.length c15, .int .i64 wt, .int .i64 ut, .slice A18 l18.length c18, .int .i64 q0, .int .i64 q1, .int .i64 q2, .int .i64 q3, .int .i64 q4, .int .i64 q5, .int .i64 q6, .int .i64 q7, .int .i64 q8, .int .i64 q9, .int .i64 q10, .int .i64 q11, .int .i64 now]) (t := 69) ?hr ?_; (case hd => rfl); (case hg => rfl); (case hr => first | (go_simp; done) | (go_simp; rfl))
  intro gG e18 w15 h17 hb16
  have lt_wheapsize1_gG : (w.heap.size + 1) < gG := by rw [e18]; exact blk_lt f7
  have lt_wheapsize_gG : w.heap.size < gG := by rw [e18]; exact blk_lt f8
  have lt_wheapsize2_gG : (w.heap.size + 2) < gG := by rw [e18]; exact blk_lt f9
  have ge_gG : w.heap.size ≤ gG := by rw [e18]; exact b14.size
  clear e18
  have f19 := blk_below f7 hb16
  have f20 := blk_below f8 hb16
  have f21 := blk_below f9 hb16
  have f22 := Kd.C_below f10 hb16
  have f23 := Kd.C_below f11 hb16
  have f24 := Kd.C_below f12 hb16
  have f25 := Kd.C_below f13 hb16
  have f26 := Kd.R_below r2 hb16
  have f27 := Kd.R_below r3 hb16
  have f28 := Kd.R_below r4 hb16
  have f29 := Kd.R_below r5 hb16
  have b30 := below_step b14 hb16
  refine hK.out _ _ ⟨f19, f20⟩ (fun hHeld => ?_)
  clear hK K
  refine no_ 15 ?_
  refine pu_ 6 9 #[true, true, true, true, true, true, true] ?_
  refine done_ (by kernel_rfl) ?_
  rw [HCA.out] at f19
  (try go_wp2)
  go_meet
  exact ⟨gG, _, _, _, _, _, _, _, _, rfl, h17, f19, f21, f26, f27, f28, f29, f22, f23, by omega, b30⟩
 case rest =>
  obtain ⟨G, A2, c2, A7, c7, A15, c15, A18, c18, rfl, FG, FX, FR, U2, U7, U15, U18, T2, T7, hlt, FB⟩ := hcut
  try clear FC hr2 hr7 hr15 hr18 HCA HCI
  clear HO
  have z0 := blk_cell FX 0
  have z1 := blk_cell FX 1
  have z2 := blk_cell FX 2
  have z3 := blk_cell FX 3
  have z4 := blk_cell FX 4
  have z5 := blk_cell FX 5
  have z6 := blk_cell FX 6
  have z7 := blk_cell FX 7
  simp only [List.getElem?_toArray, List.getElem?_cons_zero, List.getElem?_cons_succ] at z0 z1 z2 z3 z4 z5 z6 z7
  have HFG := Aside0.mk FG
  clear FG
  have HFR := Aside0.mk FR
  clear FR
  have HU2 := Aside0.mk U2
  clear U2
  have HU7 := Aside0.mk U7
  clear U7
  have HU15 := Aside0.mk U15
  clear U15
  have HU18 := Aside0.mk U18
  clear U18
  have HT2 := Aside0.mk T2
  clear T2
  have HT7 := Aside0.mk T7
  clear T7
  have HFB := Aside0.mk FB
  clear FB
  clear FX
  by_cases hz : (p0 == 0) = true
  ·have h := HH.out
   rw [if_pos hz] at h
   simp only [Option.some.injEq, Prod.mk.injEq] at h
   obtain ⟨rfl, rfl, rfl, rfl, rfl, rfl, rfl, rfl, rfl, rfl, rfl, rfl, rfl, rfl, rfl, rfl, rfl, rfl, rfl⟩ := h
   have HZ := Aside0.mk hz
   clear hz HH
   go_upto_region 4 with ((go_at_call 28; refine (policy_Zero.calls p0 p1 E2 e2 l2 p3 p4 p5 p6 E7 e7 l7 true _ HT2.out HC2.out HT7.out HC7.out (by unfold policy_Zero.f; rw [HZ.out])).mono ?_; rintro e_ w1 ⟨rfl, hb⟩; have HB1 := Aside0.mk hb; clear hb))
   have HG1 := Aside0.mk (blk_below HFG.out HB1.out)
   have HR1 := Aside0.mk (blk_below HFR.out HB1.out)
   have HD1 := Aside0.mk (below_step HFB.out HB1.out)
   have HV2 := Aside0.mk (Kd.R_below HU2.out HB1.out)
   have HV7 := Aside0.mk (Kd.R_below HU7.out HB1.out)
   have HV15 := Aside0.mk (Kd.R_below HU15.out HB1.out)
   have HV18 := Aside0.mk (Kd.R_below HU18.out HB1.out)
   clear HFG HFR HFB HU2 HU7 HU15 HU18 HT2 HT7 HB1 z0 z1 z2 z3 z4 z5 z6 z7
   obtain ⟨cs, hcs⟩ : ∃ cs : Array Value, cs = #[.int .i64 p0, .int .i64 p1, .slice A2 l2.length c2, .int .i64 p3, .int .i64 p4, .int .i64 p5, .int .i64 p6, .slice A7 l7.length c7, .int .i64 s0, .int .i64 s1, .bool s2, .int .i64 h0, .int .i64 h1, .bool h2, .int .i64 R, .slice A15 l15.length c15, .int .i64 wt, .int .i64 ut, .slice A18 l18.length c18] := ⟨_, rfl⟩
   have hsz : cs.size = 19 := by rw [hcs]; rfl
   have hinfo : (Try.prog.info? 37).map (·.size) = some cs.size := by rw [hsz]; kernel_rfl
   have h1c : ∀ v ∈ cs.toList, v.oneCell' = true := by rw [hcs]; intro v hv; simp only [List.mem_cons, List.not_mem_nil, or_false] at hv; rcases hv with rfl | rfl | rfl | rfl | rfl | rfl | rfl | rfl | rfl | rfl | rfl | rfl | rfl | rfl | rfl | rfl | rfl | rfl | rfl <;> rfl
   have hrg : w1.rangeAt G 0 cs.toList := range_pre (t := 69) (more := [.int .i64 q0, .int .i64 q1, .int .i64 q2, .int .i64 q3, .int .i64 q4, .int .i64 q5, .int .i64 q6, .int .i64 q7, .int .i64 q8, .int .i64 q9, .int .i64 q10, .int .i64 q11, .int .i64 now]) (by rw [hcs]; exact HG1.out)
   have cp := cp_row (P := Try.prog) HR1.out (by rw [hsz]; rfl) h1c
   have hst := cp.1
   have HCP := Aside0.mk cp.2.1
   have HI := Aside0.mk hinfo
   have HCS := Aside0.mk hcs
   have HRG := Aside0.mk hrg
   clear cp hinfo hcs h1c hrg
   have hne : G ≠ w.heap.size + 2 := by omega
   go_wp2_with ((with_reducible refine gate_dst (N := 28) rfl ?_); refine load_pre rfl 37 (.tmp 27) rfl G rfl cs _ HRG.out hu1 rfl HI.out ?_)
   have hB := Aside0.mk (below_cells (g := w.heap.size + 2) (vs := cs.toList) HD1.out (by omega))
   have V2 := Aside0.mk (Kd.R_cells (vs := cs.toList) HV2.out HR1.out (by decide))
   have V7 := Aside0.mk (Kd.R_cells (vs := cs.toList) HV7.out HR1.out (by decide))
   have V15 := Aside0.mk (Kd.R_cells (vs := cs.toList) HV15.out HR1.out (by decide))
   have V18 := Aside0.mk (Kd.R_cells (vs := cs.toList) HV18.out HR1.out (by decide))
   generalize w1.setCells _ _ _ = W5 at HCP hB V2 V7 V15 V18 ⊢
   refine bodyPost_ret (results_cell_row rfl _ _ (w.heap.size + 2) 37 cs (0, 0) _ rfl HCP.out hu1 rfl HI.out) rfl ?_
   exact ⟨_, _, _, _, by rw [HCS.out], V2.out, V7.out, Kd.Q_of_R V15.out, Kd.Q_of_R V18.out, hB.out⟩
  ·have h := HH.out
   rw [if_neg hz] at h
   obtain ⟨⟨cur, la, gr⟩, hI, h⟩ := Option.bind_eq_some_iff.1 h
   obtain ⟨⟨n0, n1, n2, n⟩, hN, h⟩ := Option.bind_eq_some_iff.1 h
   obtain ⟨⟨k0, k1, k2⟩, hL, h⟩ := Option.bind_eq_some_iff.1 h
   obtain ⟨⟨R', l15', wt', ut', cost, bad⟩, hP, h⟩ := Option.bind_eq_some_iff.1 h
   obtain ⟨l18', hA, h⟩ := Option.bind_eq_some_iff.1 h
   simp only [Option.some.injEq, Prod.mk.injEq] at h
   obtain ⟨rfl, rfl, rfl, rfl, rfl, rfl, rfl, rfl, rfl, rfl, rfl, rfl, rfl, rfl, rfl, rfl, rfl, rfl, rfl⟩ := h
   have HZ := Aside0.mk (Bool.eq_false_iff.2 hz)
   clear hz HH
   have FI := Aside0.mk hI
   clear hI
   have FN := Aside0.mk hN
   clear hN
   have FL := Aside0.mk hL
   clear hL
   have FP := Aside0.mk hP
   clear hP
   have FA := Aside0.mk hA
   clear hA
   go_upto_region 3 with ((go_at_call 28; refine (policy_Zero.calls p0 p1 E2 e2 l2 p3 p4 p5 p6 E7 e7 l7 false _ HT2.out HC2.out HT7.out HC7.out (by unfold policy_Zero.f; rw [HZ.out])).mono ?_; rintro e_ w1 ⟨rfl, hb⟩; have HB1 := Aside0.mk hb; clear hb))
   have HG1 := Aside0.mk (blk_below HFG.out HB1.out)
   have HR1 := Aside0.mk (blk_below HFR.out HB1.out)
   have HD1 := Aside0.mk (below_step HFB.out HB1.out)
   have HV2 := Aside0.mk (Kd.R_below HU2.out HB1.out)
   have HV7 := Aside0.mk (Kd.R_below HU7.out HB1.out)
   have HV15 := Aside0.mk (Kd.R_below HU15.out HB1.out)
   have HV18 := Aside0.mk (Kd.R_below HU18.out HB1.out)
   clear HFG HFR HFB HU2 HU7 HU15 HU18 HT2 HT7 HB1 z0 z1 z2 z3 z4 z5 z6 z7
   go_upto_region 4 with (first
    | (go_at_call 30; go_loud (refine (fleet_want k _ _ _ _ _ _ _ _ _ _ _ _ _ _ _ _ _ _ _ _ _ _ _ _ _ _ _ _ _ _ _ _ _ _ _ _ _ _ _ _ _ _ HG1.out (Kd.R_reads' HV2.out).2.2 (Kd.R_reads' HV2.out).2.1 (Kd.R_reads' HV7.out).2.2 (Kd.R_reads' HV7.out).2.1 _ _ _ FI.out _ _ _ _ FN.out).mono ?_; rintro e_ w2 ⟨rfl, hg2, hk2, ho2⟩; have HG2 := Aside0.mk hg2; have HR2 := Aside0.mk (blk_kept HR1.out hk2 (by show ¬ (w.heap.size + 2 = G); omega)); have HD2 := Aside0.mk (below_kept HD1.out hk2 (by omega) ho2); have HY2 := Aside0.mk (Kd.R_mono (ok' := fun _ => True) (Kd.R_kept (Kd.R_types HV2.out HG1.out (by decide)) hk2 (fun k hk => hk.2)) (fun _ _ => trivial)); have HY7 := Aside0.mk (Kd.R_mono (ok' := fun _ => True) (Kd.R_kept (Kd.R_types HV7.out HG1.out (by decide)) hk2 (fun k hk => hk.2)) (fun _ _ => trivial)); have HY15 := Aside0.mk (Kd.R_mono (ok' := fun _ => True) (Kd.R_kept (Kd.R_types HV15.out HG1.out (by decide)) hk2 (fun k hk => hk.2)) (fun _ _ => trivial)); have HY18 := Aside0.mk (Kd.R_mono (ok' := fun _ => True) (Kd.R_kept (Kd.R_types HV18.out HG1.out (by decide)) hk2 (fun k hk => hk.2)) (fun _ _ => trivial)); clear hg2 hk2 ho2))
    | (go_at_call 29; refine (fleet_run _ _ _ _ _ _ _ _ _ _ _ _ _ _ _ _ _ _ _ _ _ _ _ _ _ _ _ _ _ _ _ _ _ _ _ _ _ _ _ _ _ w.heap.size _ _ _ HG2.out (Kd.Q_of_R HY15.out) (Kd.Q_of_R HY18.out) HD2.out.size _ _ _ FL.out _ _ _ _ _ _ FP.out _ FA.out).mono ?_; rintro e_ w3 ⟨B15, d15, B18, d18, rfl, hg3, hq15, hq18, hk3, ho3⟩; have HG3 := Aside0.mk hg3; have HR3 := Aside0.mk (blk_kept HR2.out hk3 (by show ¬ (w.heap.size + 2 = G); omega)); have HD3 := Aside0.mk (below_kept HD2.out hk3 (by omega) ho3); have HX2 := Aside0.mk (Kd.R_mono (ok' := fun _ => True) (Kd.R_kept (Kd.R_types HY2.out HG2.out (by decide)) hk3 (fun k hk => hk.2)) (fun _ _ => trivial)); have HX7 := Aside0.mk (Kd.R_mono (ok' := fun _ => True) (Kd.R_kept (Kd.R_types HY7.out HG2.out (by decide)) hk3 (fun k hk => hk.2)) (fun _ _ => trivial)); have HX15 := Aside0.mk hq15; have HX18 := Aside0.mk hq18; clear hg3 hq15 hq18 hk3 ho3))
   clear HG1 HR1 HD1 HV2 HV7 HV15 HV18 HG2 HR2 HD2 HY2 HY7 HY15 HY18 FI FN FL FP FA
   obtain ⟨cs, hcs⟩ : ∃ cs : Array Value, cs = #[.int .i64 p0, .int .i64 p1, .slice A2 l2.length c2, .int .i64 p3, .int .i64 p4, .int .i64 p5, .int .i64 p6, .slice A7 l7.length c7, .int .i64 n0, .int .i64 n1, .bool n2, .int .i64 k0, .int .i64 k1, .bool k2, .int .i64 R', .slice B15 l15'.length d15, .int .i64 wt', .int .i64 ut', .slice B18 l18'.length d18] := ⟨_, rfl⟩
   have hsz : cs.size = 19 := by rw [hcs]; rfl
   have hinfo : (Try.prog.info? 37).map (·.size) = some cs.size := by rw [hsz]; kernel_rfl
   have h1c : ∀ v ∈ cs.toList, v.oneCell' = true := by rw [hcs]; intro v hv; simp only [List.mem_cons, List.not_mem_nil, or_false] at hv; rcases hv with rfl | rfl | rfl | rfl | rfl | rfl | rfl | rfl | rfl | rfl | rfl | rfl | rfl | rfl | rfl | rfl | rfl | rfl | rfl <;> rfl
   have hrg : w3.rangeAt G 0 cs.toList := range_pre (t := 69) (more := [.int .i64 q0, .int .i64 q1, .int .i64 q2, .int .i64 q3, .int .i64 q4, .int .i64 q5, .int .i64 q6, .int .i64 q7, .int .i64 q8, .int .i64 q9, .int .i64 q10, .int .i64 q11, .int .i64 now]) (by rw [hcs]; exact HG3.out)
   have cp := cp_row (P := Try.prog) HR3.out (by rw [hsz]; rfl) h1c
   have hst := cp.1
   have HCP := Aside0.mk cp.2.1
   have HI := Aside0.mk hinfo
   have HCS := Aside0.mk hcs
   have HRG := Aside0.mk hrg
   clear cp hinfo hcs h1c hrg
   have hne : G ≠ w.heap.size + 2 := by omega
   go_wp2_with ((with_reducible refine gate_dst (N := 28) rfl ?_); refine load_pre rfl 37 (.tmp 27) rfl G rfl cs _ HRG.out hu1 rfl HI.out ?_)
   have hB := Aside0.mk (below_cells (g := w.heap.size + 2) (vs := cs.toList) HD3.out (by omega))
   have V2 := Aside0.mk (Kd.R_cells (vs := cs.toList) HX2.out HR3.out (by decide))
   have V7 := Aside0.mk (Kd.R_cells (vs := cs.toList) HX7.out HR3.out (by decide))
   have V15 := Aside0.mk (Kd.Q_cells (vs := cs.toList) HX15.out HR3.out (by decide))
   have V18 := Aside0.mk (Kd.Q_cells (vs := cs.toList) HX18.out HR3.out (by decide))
   generalize w3.setCells _ _ _ = W5 at HCP hB V2 V7 V15 V18 ⊢
   refine bodyPost_ret (results_cell_row rfl _ _ (w.heap.size + 2) 37 cs (0, 0) _ rfl HCP.out hu1 rfl HI.out) rfl ?_
   exact ⟨_, _, _, _, by rw [HCS.out], V2.out, V7.out, V15.out, V18.out, hB.out⟩
/-! ### plant_New: function 37 -/
def plant_New.f (a0 : Int) : Option (Int × List Int × Int × Int) := some (mx 0 (mn a0 1000), ([] : List Int), 0, 0)
set_option maxHeartbeats 8000000 in
set_option maxRecDepth 100000 in
theorem plant_New.calls (a0 : Int) (r1 : Int) (r2 : List Int) (r3 : Int) (r4 : Int) (w : World) (h : plant_New.f a0 = some (r1, r2, r3, r4)) :
  Calls Try.prog 37 #[.int .i64 a0] w fun e w' => ∃ v1_ : Value, e = .returned (.agg #[.int .i64 r1, v1_, .int .i64 r3, .int .i64 r4]) ∧ Kd.R (Kd.int .i64) 3 w' w.heap.size (fun _ => True) v1_ r2 ∧ Below w.heap.size w w' := by
 have hu34 := Try.underlying34
 have HB := Aside0.mk (Below.refl w.heap.size w)
 have H : (some (mx 0 (mn a0 1000), ([] : List Int), 0, 0)) = some (r1, r2, r3, r4) := h
 clear h
 obtain ⟨ji2, hji2⟩ : ∃ j_ : Int, (mn a0 1000) = j_ := ⟨_, rfl⟩
 replace H : (some (mx 0 (ji2), ([] : List Int), 0, 0)) = some (r1, r2, r3, r4) := by first | (rw [hji2] at H; exact H) | (simp only [hji2] at H ⊢; exact H)
 (try (have hji2h : ji2 ≤ 1000 := by (rw [← hji2]; unfold mn; (repeat' split) <;> omega)))
 (try (have hji2g : ji2 ≤ 64 := by omega))
 have hji2_ : (if 1000 < a0 then 1000 else a0) = ji2 := hji2
 obtain ⟨ji3, hji3⟩ : ∃ j_ : Int, (mx 0 (ji2)) = j_ := ⟨_, rfl⟩
 replace H : (some (ji3, ([] : List Int), 0, 0)) = some (r1, r2, r3, r4) := by first | (rw [hji3] at H; exact H) | (simp only [hji3] at H ⊢; exact H)
 have hji3_ : (if 0 < (ji2) then (ji2) else 0) = ji3 := hji3
 simp only [Option.some.injEq, Prod.mk.injEq] at H
 obtain ⟨rfl, rfl, rfl, rfl⟩ := H
 go_enter Try.func37, Try.ntmps37
 go_wp2_with (first | ((with_reducible refine gate_dst (N := 2) rfl ?_); refine box_event ?hg (N := 2) ?hd (cs := #[.int .i64 0, .slice none 0 0, .int .i64 0, .int .i64 0]) (t := 34) ?hr ?_; (case hd => rfl); (case hg => rfl); (case hr => first | (go_simp; done) | (go_simp; rfl)); intro gb165 hg w4 hbox hb; have n0_ := Aside0.mk (below_step (by repeat (first | (with_reducible first | exact HB.out | apply below_alloc | apply pw_below_drewN | apply below_drew1) | exact HB.out)) hb); have n1_ := Aside0.mk (hbox); have n2_ := Aside0.mk ((by rw [hg]; exact (below_size (by repeat (first | (with_reducible first | exact HB.out | apply below_alloc | apply pw_below_drewN | apply below_drew1) | exact HB.out))) : w.heap.size ≤ gb165)); have n3_ := Aside0.mk ((by rw [hg]; exact (below_size (by repeat (first | (with_reducible first | exact HB.out | apply below_alloc | apply pw_below_drewN | apply below_drew1) | exact HB.out))) : w.heap.size ≤ gb165)); clear HB; have HB := n0_; have BK165 := n1_; have GW165 := n2_; have GE165 := n3_; clear n0_ n1_ n2_ n3_; clear hb hbox hg; have hcz5_0 : w4.cell? ⟨gb165, 0, none⟩ = some (.int .i64 0) := (blk_cell BK165.out 0).trans rfl; have hcz5_1 : w4.cell? ⟨gb165, 1, none⟩ = some (.slice none 0 0) := (blk_cell BK165.out 1).trans rfl; have hcz5_2 : w4.cell? ⟨gb165, 2, none⟩ = some (.int .i64 0) := (blk_cell BK165.out 2).trans rfl; have hcz5_3 : w4.cell? ⟨gb165, 3, none⟩ = some (.int .i64 0) := (blk_cell BK165.out 3).trans rfl; have hfz5_0 := blk_frozen BK165.out 0; have hfz5_1 := blk_frozen BK165.out 1; have hfz5_2 := blk_frozen BK165.out 2; have hfz5_3 := blk_frozen BK165.out 3))
 refine bodyPost_ret (results_cell_row rfl _ _ gb165 34 #[.int .i64 ji3, .slice none 0 0, .int .i64 0, .int .i64 0] (0, 0) _ rfl (by (with_reducible repeat (first | refine blk_drewN ?_ _ | refine blk_drew ?_ | refine blk_alloc ?_ _)); refine blk_put (cs := #[.int .i64 ji3, .slice none 0 0, .int .i64 0, .int .i64 0]) ?_ 3 _ rfl; (with_reducible repeat (first | refine blk_drewN ?_ _ | refine blk_drew ?_ | refine blk_alloc ?_ _)); refine blk_put (cs := #[.int .i64 ji3, .slice none 0 0, .int .i64 0, .int .i64 0]) ?_ 2 _ rfl; (with_reducible repeat (first | refine blk_drewN ?_ _ | refine blk_drew ?_ | refine blk_alloc ?_ _)); refine blk_put (cs := #[.int .i64 ji3, .slice none 0 0, .int .i64 0, .int .i64 0]) ?_ 1 _ rfl; (with_reducible repeat (first | refine blk_drewN ?_ _ | refine blk_drew ?_ | refine blk_alloc ?_ _)); refine blk_put (cs := #[.int .i64 0, .slice none 0 0, .int .i64 0, .int .i64 0]) ?_ 0 _ rfl; (with_reducible repeat (first | refine blk_drewN ?_ _ | refine blk_drew ?_ | refine blk_alloc ?_ _)); exact BK165.out) Try.underlying34 rfl (by kernel_rfl)) rfl ?_
 exact ⟨_, by first | rfl | (simp [errW_none, errW_some] <;> rfl) | (simp only [← hji2, ← hji3]; first | rfl | (simp [errW_none, errW_some] <;> rfl)) | (simp [*, errW_none, errW_some] <;> rfl) | (have e_ : ji2 = ji3 := (by omega); subst e_; rfl), by first | exact Kd.R_nil _ _ _ _ _ | exact Kd.N_nil _ _ _ _ _ | exact Kd.V_nil _ _ _ _ _ | exact Kd.Q_nil _ _ _ _ _ | exact Kd.S_nil _ _ _ _ _, by repeat (first | (with_reducible first | exact HB.out | apply below_alloc | apply pw_below_drewN | apply below_drew1 | refine below_set ?_ GE165.out) | exact HB.out)⟩
/-! ### fleet_New: function 16 -/
def fleet_New.f (p0 p1 : Int) (l2 : List (S56)) (p3 p4 p5 p6 : Int) (l7 : List (S58)) (s0 s1 : Int) (s2 : Bool) (h0 h1 : Int) (h2 : Bool) : Option (Int × Int × (List (S56)) × Int × Int × Int × Int × (List (S58)) × Int × Int × Bool × Int × Int × Bool × Int × List Int × Int × Int × (List (S52))) := (plant_New.f h0).bind fun b => fleet_Own.f p0 p1 l2 p3 p4 p5 p6 l7 s0 s1 s2 h0 h1 h2 b.1 b.2.1 b.2.2.1 b.2.2.2 ([] : List (S52))
set_option maxHeartbeats 8000000 in
set_option maxRecDepth 100000 in
theorem fleet_New.calls (p0 p1 : Int) (E2 : Option Addr) (e2 : Nat) (l2 : List (S56)) (p3 p4 p5 p6 : Int) (E7 : Option Addr) (e7 : Nat) (l7 : List (S58)) (s0 s1 : Int) (s2 : Bool) (h0 h1 : Int) (h2 : Bool) (r1 : Int) (r2 : Int) (r3 : List (S56)) (r4 : Int) (r5 : Int) (r6 : Int) (r7 : Int) (r8 : List (S58)) (r9 : Int) (r10 : Int) (r11 : Bool) (r12 : Int) (r13 : Int) (r14 : Bool) (r15 : Int) (r16 : List Int) (r17 : Int) (r18 : Int) (r19 : List (S52)) (w : World) (hr2 : Kd.C k56 w E2 l2.length l2) (hc2 : l2.length ≤ e2) (hr7 : Kd.C k58 w E7 l7.length l7) (hc7 : l7.length ≤ e7) (h : fleet_New.f p0 p1 l2 p3 p4 p5 p6 l7 s0 s1 s2 h0 h1 h2 = some (r1, r2, r3, r4, r5, r6, r7, r8, r9, r10, r11, r12, r13, r14, r15, r16, r17, r18, r19)) :
  Calls Try.prog 16 #[.agg #[.int .i64 p0, .int .i64 p1, .slice E2 l2.length e2, .int .i64 p3, .int .i64 p4, .int .i64 p5, .int .i64 p6, .slice E7 l7.length e7], .agg #[.int .i64 s0, .int .i64 s1, .bool s2], .agg #[.int .i64 h0, .int .i64 h1, .bool h2]] w fun e w' => ∃ v2_ v7_ v15_ v18_ : Value, e = .returned (.agg #[.int .i64 r1, .int .i64 r2, v2_, .int .i64 r4, .int .i64 r5, .int .i64 r6, .int .i64 r7, v7_, .int .i64 r9, .int .i64 r10, .bool r11, .int .i64 r12, .int .i64 r13, .bool r14, .int .i64 r15, v15_, .int .i64 r17, .int .i64 r18, v18_]) ∧ Kd.R k56 56 w' w.heap.size (fun _ => True) v2_ r3 ∧ Kd.R k58 58 w' w.heap.size (fun _ => True) v7_ r8 ∧ Kd.R (Kd.int .i64) 3 w' w.heap.size (fun _ => True) v15_ r16 ∧ Kd.R k52 52 w' w.heap.size (fun _ => True) v18_ r19 ∧ Below w.heap.size w w' := by
 have hu0 := Try.underlying69
 have hu1 := Try.underlying37
 have hu2 := Try.underlying27
 have hu3 := Try.underlying29
 have hu4 := Try.underlying23
 have hu5 := Try.underlying31
 have hu6 := Try.underlying34
 have hu7 := Try.underlying52
 unfold fleet_New.f at h
 obtain ⟨⟨R, l15, wt, ut⟩, hN, h⟩ := Option.bind_eq_some_iff.1 h
 have HN := Aside0.mk hN
 have HO : Aside0 (fleet_Own.f p0 p1 l2 p3 p4 p5 p6 l7 s0 s1 s2 h0 h1 h2 R l15 wt ut ([] : List (S52)) = some (r1, r2, r3, r4, r5, r6, r7, r8, r9, r10, r11, r12, r13, r14, r15, r16, r17, r18, r19)) := Aside0.mk h
 clear h hN
 have HC2 := Aside0.mk hc2
 have HC7 := Aside0.mk hc7
 clear hc2 hc7
 go_enter Try.func16, Try.ntmps16
 go_upto_region 1 with (fail)
 obtain ⟨FB, F0, F1, F2, F3⟩ : Below w.heap.size w ((((w.alloc (.cells #[.int .i64 p0, .int .i64 p1, .slice E2 l2.length e2, .int .i64 p3, .int .i64 p4, .int .i64 p5, .int .i64 p6, .slice E7 l7.length e7] 27)).alloc (.cells #[.int .i64 s0, .int .i64 s1, .bool s2] 29)).alloc (.cells #[.int .i64 h0, .int .i64 h1, .bool h2] 31)).alloc (.cells #[.int .i64 0, .int .i64 0, .slice none 0 0, .int .i64 0, .int .i64 0, .int .i64 0, .int .i64 0, .slice none 0 0, .int .i64 0, .int .i64 0, .bool false, .int .i64 0, .int .i64 0, .bool false, .int .i64 0, .slice none 0 0, .int .i64 0, .int .i64 0, .slice none 0 0] 37)) ∧ ((((w.alloc (.cells #[.int .i64 p0, .int .i64 p1, .slice E2 l2.length e2, .int .i64 p3, .int .i64 p4, .int .i64 p5, .int .i64 p6, .slice E7 l7.length e7] 27)).alloc (.cells #[.int .i64 s0, .int .i64 s1, .bool s2] 29)).alloc (.cells #[.int .i64 h0, .int .i64 h1, .bool h2] 31)).alloc (.cells #[.int .i64 0, .int .i64 0, .slice none 0 0, .int .i64 0, .int .i64 0, .int .i64 0, .int .i64 0, .slice none 0 0, .int .i64 0, .int .i64 0, .bool false, .int .i64 0, .int .i64 0, .bool false, .int .i64 0, .slice none 0 0, .int .i64 0, .int .i64 0, .slice none 0 0] 37)).heap[w.heap.size]? = some (.cells #[.int .i64 p0, .int .i64 p1, .slice E2 l2.length e2, .int .i64 p3, .int .i64 p4, .int .i64 p5, .int .i64 p6, .slice E7 l7.length e7] 27 (0, 0)) ∧ ((((w.alloc (.cells #[.int .i64 p0, .int .i64 p1, .slice E2 l2.length e2, .int .i64 p3, .int .i64 p4, .int .i64 p5, .int .i64 p6, .slice E7 l7.length e7] 27)).alloc (.cells #[.int .i64 s0, .int .i64 s1, .bool s2] 29)).alloc (.cells #[.int .i64 h0, .int .i64 h1, .bool h2] 31)).alloc (.cells #[.int .i64 0, .int .i64 0, .slice none 0 0, .int .i64 0, .int .i64 0, .int .i64 0, .int .i64 0, .slice none 0 0, .int .i64 0, .int .i64 0, .bool false, .int .i64 0, .int .i64 0, .bool false, .int .i64 0, .slice none 0 0, .int .i64 0, .int .i64 0, .slice none 0 0] 37)).heap[(w.heap.size + 1)]? = some (.cells #[.int .i64 s0, .int .i64 s1, .bool s2] 29 (0, 0)) ∧ ((((w.alloc (.cells #[.int .i64 p0, .int .i64 p1, .slice E2 l2.length e2, .int .i64 p3, .int .i64 p4, .int .i64 p5, .int .i64 p6, .slice E7 l7.length e7] 27)).alloc (.cells #[.int .i64 s0, .int .i64 s1, .bool s2] 29)).alloc (.cells #[.int .i64 h0, .int .i64 h1, .bool h2] 31)).alloc (.cells #[.int .i64 0, .int .i64 0, .slice none 0 0, .int .i64 0, .int .i64 0, .int .i64 0, .int .i64 0, .slice none 0 0, .int .i64 0, .int .i64 0, .bool false, .int .i64 0, .int .i64 0, .bool false, .int .i64 0, .slice none 0 0, .int .i64 0, .int .i64 0, .slice none 0 0] 37)).heap[(w.heap.size + 2)]? = some (.cells #[.int .i64 h0, .int .i64 h1, .bool h2] 31 (0, 0)) ∧ ((((w.alloc (.cells #[.int .i64 p0, .int .i64 p1, .slice E2 l2.length e2, .int .i64 p3, .int .i64 p4, .int .i64 p5, .int .i64 p6, .slice E7 l7.length e7] 27)).alloc (.cells #[.int .i64 s0, .int .i64 s1, .bool s2] 29)).alloc (.cells #[.int .i64 h0, .int .i64 h1, .bool h2] 31)).alloc (.cells #[.int .i64 0, .int .i64 0, .slice none 0 0, .int .i64 0, .int .i64 0, .int .i64 0, .int .i64 0, .slice none 0 0, .int .i64 0, .int .i64 0, .bool false, .int .i64 0, .int .i64 0, .bool false, .int .i64 0, .slice none 0 0, .int .i64 0, .int .i64 0, .slice none 0 0] 37)).heap[(w.heap.size + 3)]? = some (.cells #[.int .i64 0, .int .i64 0, .slice none 0 0, .int .i64 0, .int .i64 0, .int .i64 0, .int .i64 0, .slice none 0 0, .int .i64 0, .int .i64 0, .bool false, .int .i64 0, .int .i64 0, .bool false, .int .i64 0, .slice none 0 0, .int .i64 0, .int .i64 0, .slice none 0 0] 37 (0, 0)) := by
  have z1 := blk_new (w.alloc (.cells #[.int .i64 p0, .int .i64 p1, .slice E2 l2.length e2, .int .i64 p3, .int .i64 p4, .int .i64 p5, .int .i64 p6, .slice E7 l7.length e7] 27)) (.cells #[.int .i64 s0, .int .i64 s1, .bool s2] 29)
  rw [World.size_alloc] at z1
  have z2 := blk_new ((w.alloc (.cells #[.int .i64 p0, .int .i64 p1, .slice E2 l2.length e2, .int .i64 p3, .int .i64 p4, .int .i64 p5, .int .i64 p6, .slice E7 l7.length e7] 27)).alloc (.cells #[.int .i64 s0, .int .i64 s1, .bool s2] 29)) (.cells #[.int .i64 h0, .int .i64 h1, .bool h2] 31)
  rw [World.size_alloc, World.size_alloc] at z2
  have z3 := blk_new (((w.alloc (.cells #[.int .i64 p0, .int .i64 p1, .slice E2 l2.length e2, .int .i64 p3, .int .i64 p4, .int .i64 p5, .int .i64 p6, .slice E7 l7.length e7] 27)).alloc (.cells #[.int .i64 s0, .int .i64 s1, .bool s2] 29)).alloc (.cells #[.int .i64 h0, .int .i64 h1, .bool h2] 31)) (.cells #[.int .i64 0, .int .i64 0, .slice none 0 0, .int .i64 0, .int .i64 0, .int .i64 0, .int .i64 0, .slice none 0 0, .int .i64 0, .int .i64 0, .bool false, .int .i64 0, .int .i64 0, .bool false, .int .i64 0, .slice none 0 0, .int .i64 0, .int .i64 0, .slice none 0 0] 37)
  rw [World.size_alloc, World.size_alloc, World.size_alloc] at z3
  exact ⟨below_alloc (below_alloc (below_alloc (below_alloc (Below.refl _ _) _) _) _) _, blk_alloc (blk_alloc (blk_alloc (blk_new w _) _) _) _, blk_alloc (blk_alloc z1 _) _, blk_alloc z2 _, z3⟩
 replace hr2 := Kd.C_below hr2 FB
 replace hr7 := Kd.C_below hr7 FB
 generalize (((w.alloc _).alloc _).alloc _).alloc _ = W0 at FB F0 F1 F2 F3 hr2 hr7 ⊢
 refine start_ (n := 9) (S := fun w' => w'.heap[w.heap.size]? = some (.cells #[.int .i64 p0, .int .i64 p1, .slice E2 l2.length e2, .int .i64 p3, .int .i64 p4, .int .i64 p5, .int .i64 p6, .slice E7 l7.length e7] 27 (0, 0)) ∧ w'.heap[(w.heap.size + 1)]? = some (.cells #[.int .i64 s0, .int .i64 s1, .bool s2] 29 (0, 0)) ∧ w'.heap[(w.heap.size + 2)]? = some (.cells #[.int .i64 h0, .int .i64 h1, .bool h2] 31 (0, 0))) (ds := [8]) #[false, false, false, false, false, false, false, false, false] (by kernel_rfl) rfl rfl ⟨F0, F1, F2⟩ (fun hHeld => ?_)
 replace FB := below_step FB (below_drew1 (Below.refl _ _))
 replace F0 := blk_below F0 (below_drew1 (Below.refl _ _))
 replace F1 := blk_below F1 (below_drew1 (Below.refl _ _))
 replace F2 := blk_below F2 (below_drew1 (Below.refl _ _))
 replace F3 := blk_below F3 (below_drew1 (Below.refl _ _))
 replace hr2 := Kd.C_below hr2 (below_drew1 (Below.refl _ _))
 replace hr7 := Kd.C_below hr7 (below_drew1 (Below.refl _ _))
 generalize W0.drew = w9 at FB F0 F1 F2 F3 hr2 hr7 hHeld ⊢
 refine ta_ 0 7 #[true, false, false, false, false, false, false, false, false] hHeld (v := ?_) ?_ ?_
 rotate_left
 ·intro w' hS
  have s0 := blk_cell hS.1 0
  have s1 := blk_cell hS.1 1
  have s2 := blk_cell hS.1 2
  have s3 := blk_cell hS.1 3
  have s4 := blk_cell hS.1 4
  have s5 := blk_cell hS.1 5
  have s6 := blk_cell hS.1 6
  have s7 := blk_cell hS.1 7
  simp only [List.getElem?_toArray, List.getElem?_cons_zero, List.getElem?_cons_succ] at s0 s1 s2 s3 s4 s5 s6 s7
  clear hS
  go_simp
  with_reducible rfl
 refine ta_ 1 8 #[true, true, false, false, false, false, false, false, false] hHeld (v := ?_) ?_ ?_
 rotate_left
 ·intro w' hS
  have s0 := blk_cell hS.2.1 0
  have s1 := blk_cell hS.2.1 1
  have s2 := blk_cell hS.2.1 2
  simp only [List.getElem?_toArray, List.getElem?_cons_zero, List.getElem?_cons_succ] at s0 s1 s2
  clear hS
  go_simp
  with_reducible rfl
 refine ta_ 2 9 #[true, true, true, false, false, false, false, false, false] hHeld (v := ?_) ?_ ?_
 rotate_left
 ·intro w' hS
  have s0 := blk_cell hS.2.2 0
  have s1 := blk_cell hS.2.2 1
  have s2 := blk_cell hS.2.2 2
  simp only [List.getElem?_toArray, List.getElem?_cons_zero, List.getElem?_cons_succ] at s0 s1 s2
  clear hS
  go_simp
  with_reducible rfl
 refine pu_ 3 10 #[true, true, true, true, false, false, false, false, false] ?_
 refine ta_ 4 11 #[true, true, true, true, true, false, false, false, false] hHeld (v := ?_) ?_ ?_
 rotate_left
 ·intro w' hS
  have s0 := blk_cell hS.2.2 0
  simp only [List.getElem?_toArray, List.getElem?_cons_zero, List.getElem?_cons_succ] at s0
  clear hS
  go_simp
  with_reducible rfl
 refine one_ (i := 5) (N := some 12) #[true, true, true, true, true, true, false, false, false] rfl rfl (by kernel_rfl) (by decide) (fun K hK => ?_)
 refine goes_ Try.func37 (by kernel_rfl) rfl #[.int .i64 h0] (by rfl) rfl rfl (by (try simp only [List.map_toArray, List.map_cons, List.map_nil]); first | done | rfl) ?_
 refine (plant_New.calls _ _ _ _ _ _ HN.out).mono ?_
 rintro e_ wn1 ⟨v15, rfl, rn2, hbn3⟩
 refine ⟨_, rfl, ?_⟩
 have fn4 := blk_below F0 hbn3
 have fn5 := blk_below F1 hbn3
 have fn6 := blk_below F2 hbn3
 have fn7 := blk_below F3 hbn3
 have fn8 := Kd.C_below hr2 hbn3
 have fn9 := Kd.C_below hr7 hbn3
 have bn10 := below_step FB hbn3
 replace rn2 := Kd.R_lower rn2 FB.size
 obtain ⟨A15, c15, rfl⟩ := Kd.R_slice rn2
 refine hK.out _ _ ⟨fn4, fn5, fn6⟩ (fun hHeld => ?_)
 clear hK K
 refine no_ 12 ?_
 refine pu_ 6 13 #[true, true, true, true, true, true, true, false, false] ?_
 refine one_ (i := 7) (N := some 14) #[true, true, true, true, true, true, true, true, false] rfl rfl (by kernel_rfl) (by decide) (fun K hK => ?_)
 refine goes_ Try.func18 (by kernel_rfl) rfl #[.agg #[.int .i64 p0, .int .i64 p1, .slice E2 l2.length e2, .int .i64 p3, .int .i64 p4, .int .i64 p5, .int .i64 p6, .slice E7 l7.length e7, .int .i64 s0, .int .i64 s1, .bool s2, .int .i64 h0, .int .i64 h1, .bool h2, .int .i64 R, .slice A15 l15.length c15, .int .i64 wt, .int .i64 ut, .slice none 0 0]] (by rfl) rfl rfl (by (try simp only [List.map_toArray, List.map_cons, List.map_nil]); first | done | rfl) ?_
 refine (fleet_Own.calls _ _ _ _ _ _ _ _ _ _ _ _ _ _ _ _ _ _ _ _ _ _ _ _ _ _ ([] : List (S52)) _ _ _ _ _ _ _ _ _ _ _ _ _ _ _ _ _ _ _ _ fn8 HC2.out fn9 HC7.out (Kd.R_reads' rn2).2.2 (Kd.R_reads' rn2).2.1 (Kd.C_nil _ _) (Nat.zero_le 0) HO.out).mono ?_
 rintro e_ wn11 ⟨v2, v7, v15, v18, rfl, rn12, rn13, rn14, rn15, hbn16⟩
 refine ⟨_, rfl, ?_⟩
 have fn17 := blk_below fn4 hbn16
 have fn18 := blk_below fn5 hbn16
 have fn19 := blk_below fn6 hbn16
 have fn20 := blk_below fn7 hbn16
 have fn21 := Kd.C_below fn8 hbn16
 have fn22 := Kd.C_below fn9 hbn16
 have fn23 := Kd.R_below rn2 hbn16
 have bn24 := below_step bn10 hbn16
 replace rn12 := Kd.R_lower rn12 bn10.size
 obtain ⟨B2, d2, rfl⟩ := Kd.R_slice rn12
 replace rn13 := Kd.R_lower rn13 bn10.size
 obtain ⟨B7, d7, rfl⟩ := Kd.R_slice rn13
 replace rn14 := Kd.R_lower rn14 bn10.size
 obtain ⟨B15, d15, rfl⟩ := Kd.R_slice rn14
 replace rn15 := Kd.R_lower rn15 bn10.size
 obtain ⟨B18, d18, rfl⟩ := Kd.R_slice rn15
 refine hK.out _ _ ⟨fn17, fn18, fn19⟩ (fun hHeld => ?_)
 clear hK K
 refine no_ 14 ?_
 refine last_ (i := 8) (N := none) #[true, true, true, true, true, true, true, true, true] rfl rfl (by kernel_rfl) (by decide) (fun K hK => ?_)
 obtain ⟨cs, hcs⟩ : ∃ cs : Array Value, cs = #[.int .i64 r1, .int .i64 r2, .slice B2 r3.length d2, .int .i64 r4, .int .i64 r5, .int .i64 r6, .int .i64 r7, .slice B7 r8.length d7, .int .i64 r9, .int .i64 r10, .bool r11, .int .i64 r12, .int .i64 r13, .bool r14, .int .i64 r15, .slice B15 r16.length d15, .int .i64 r17, .int .i64 r18, .slice B18 r19.length d18] := ⟨_, rfl⟩
 rw [← hcs]
 have hsz : cs.size = 19 := by rw [hcs]; rfl
 have h1c : ∀ v ∈ cs.toList, v.oneCell' = true := by rw [hcs]; intro v hv; simp only [List.mem_cons, List.not_mem_nil, or_false] at hv; rcases hv with rfl | rfl | rfl | rfl | rfl | rfl | rfl | rfl | rfl | rfl | rfl | rfl | rfl | rfl | rfl | rfl | rfl | rfl | rfl <;> rfl
 have cp := cp_row (P := Try.prog) fn20 (by rw [hsz]; rfl) h1c
 have hst := cp.1
 have HCP := Aside0.mk cp.2.1
 have HCS := Aside0.mk hcs
 clear hcs h1c cp
 have hB := Aside0.mk (below_cells (g := (w.heap.size + 3)) (vs := cs.toList) bn24 (by omega))
 have V2 := Aside0.mk (Kd.R_cells (vs := cs.toList) rn12 fn20 (by decide))
 have V7 := Aside0.mk (Kd.R_cells (vs := cs.toList) rn13 fn20 (by decide))
 have V15 := Aside0.mk (Kd.R_cells (vs := cs.toList) rn14 fn20 (by decide))
 have V18 := Aside0.mk (Kd.R_cells (vs := cs.toList) rn15 fn20 (by decide))
 clear fn17 fn18 fn19 fn20 fn21 fn22 fn23 rn12 rn13 rn14 rn15 bn24
 refine skip_ (w1 := ?_) (by rfl) rfl ?_ ?_
 rotate_left
 ·go_simp
  rfl
 clear hst
 generalize World.setCells _ _ _ _ = W5 at HCP hB V2 V7 V15 V18 ⊢
 refine hK.out _ _ ?_
 clear hK K
 refine done_ (by kernel_rfl) ?_
 have hinfo : (Try.prog.info? 37).map (·.size) = some cs.size := by rw [hsz]; kernel_rfl
 have HI := Aside0.mk hinfo
 clear hinfo
 go_wp2
 refine bodyPost_ret (results_cell_row rfl _ _ (w.heap.size + 3) 37 cs (0, 0) _ rfl HCP.out hu1 rfl HI.out) rfl ?_
 exact ⟨_, _, _, _, by rw [HCS.out], V2.out, V7.out, V15.out, V18.out, hB.out⟩
/-! ### governorref09_SamePolicy: function 19 -/
def eqS56 (x y : S56) : Bool := x.f0 == y.f0 && (x.f1 == y.f1)
def eqS58 (x y : S58) : Bool := x.f0 == y.f0 && (x.f1 == y.f1)
def governorref09_SamePolicy.b (a0_0 : Int) (a0_1 : Int) (l0_2 : List (S56)) (a0_3 : Int) (a0_4 : Int) (a0_5 : Int) (a0_6 : Int) (l0_7 : List (S58)) (a1_0 : Int) (a1_1 : Int) (l1_2 : List (S56)) (a1_3 : Int) (a1_4 : Int) (a1_5 : Int) (a1_6 : Int) (l1_7 : List (S58)) : Bool := !(a0_0 != a1_0 || (a0_1 != a1_1 || (a0_3 != a1_3 || (a0_4 != a1_4 || (a0_5 != a1_5 || (a0_6 != a1_6 || ((l0_2.length : Int) != (l1_2.length : Int) || ((l0_7.length : Int) != (l1_7.length : Int))))))))) && (eqAt eqS56 l0_2 l1_2 0 && eqAt eqS58 l0_7 l1_7 0)
def governorref09_SamePolicy.f (a0_0 : Int) (a0_1 : Int) (l0_2 : List (S56)) (a0_3 : Int) (a0_4 : Int) (a0_5 : Int) (a0_6 : Int) (l0_7 : List (S58)) (a1_0 : Int) (a1_1 : Int) (l1_2 : List (S56)) (a1_3 : Int) (a1_4 : Int) (a1_5 : Int) (a1_6 : Int) (l1_7 : List (S58)) : Option Bool := if l0_2.length < 140737488355328 ∧ l0_7.length < 140737488355328 then some (governorref09_SamePolicy.b a0_0 a0_1 l0_2 a0_3 a0_4 a0_5 a0_6 l0_7 a1_0 a1_1 l1_2 a1_3 a1_4 a1_5 a1_6 l1_7) else none
theorem eqH56 (d : Nat) (w : World) (x0 y0 : Int) (x1 y1 : Int) :
  (Op.equalIn (d + 2) 56 (.agg #[.int .i64 x0, .int .i64 x1]) (.agg #[.int .i64 y0, .int .i64 y1])).run Try.prog w = .ok (x0 == y0 && (x1 == y1)) w := by
 refine eqA_of Try.underlying56 (by kernel_rfl) ?_
 refine eqf_cons (by rfl) (by go_simp; rfl) (by go_simp; rfl) (by go_simp) ?_
 exact eqf_last (by rfl) (by go_simp; rfl) (by go_simp; rfl) (by go_simp)
theorem eqH58 (d : Nat) (w : World) (x0 y0 : Int) (x1 y1 : Int) :
  (Op.equalIn (d + 2) 58 (.agg #[.int .i64 x0, .int .i64 x1]) (.agg #[.int .i64 y0, .int .i64 y1])).run Try.prog w = .ok (x0 == y0 && (x1 == y1)) w := by
 refine eqA_of Try.underlying58 (by kernel_rfl) ?_
 refine eqf_cons (by rfl) (by go_simp; rfl) (by go_simp; rfl) (by go_simp) ?_
 exact eqf_last (by rfl) (by go_simp; rfl) (by go_simp; rfl) (by go_simp)
attribute [local go_sem high] eqH56 eqH58
set_option maxHeartbeats 8000000 in
set_option maxRecDepth 100000 in
theorem governorref09_SamePolicy.calls (a0_0 : Int) (a0_1 : Int) (A0_2 : Option Addr) (c0_2 : Nat) (l0_2 : List (S56)) (a0_3 : Int) (a0_4 : Int) (a0_5 : Int) (a0_6 : Int) (A0_7 : Option Addr) (c0_7 : Nat) (l0_7 : List (S58)) (a1_0 : Int) (a1_1 : Int) (A1_2 : Option Addr) (c1_2 : Nat) (l1_2 : List (S56)) (a1_3 : Int) (a1_4 : Int) (a1_5 : Int) (a1_6 : Int) (A1_7 : Option Addr) (c1_7 : Nat) (l1_7 : List (S58)) (r : Bool) (w : World) (hr0_2 : Kd.C k56 w A0_2 l0_2.length l0_2) (hc0_2 : l0_2.length ≤ c0_2) (hr0_7 : Kd.C k58 w A0_7 l0_7.length l0_7) (hc0_7 : l0_7.length ≤ c0_7) (hr1_2 : Kd.C k56 w A1_2 l1_2.length l1_2) (hc1_2 : l1_2.length ≤ c1_2) (hr1_7 : Kd.C k58 w A1_7 l1_7.length l1_7) (hc1_7 : l1_7.length ≤ c1_7) (h : governorref09_SamePolicy.f a0_0 a0_1 l0_2 a0_3 a0_4 a0_5 a0_6 l0_7 a1_0 a1_1 l1_2 a1_3 a1_4 a1_5 a1_6 l1_7 = some r) :
  Calls Try.prog 19 #[.agg #[.int .i64 a0_0, .int .i64 a0_1, .slice A0_2 l0_2.length c0_2, .int .i64 a0_3, .int .i64 a0_4, .int .i64 a0_5, .int .i64 a0_6, .slice A0_7 l0_7.length c0_7], .agg #[.int .i64 a1_0, .int .i64 a1_1, .slice A1_2 l1_2.length c1_2, .int .i64 a1_3, .int .i64 a1_4, .int .i64 a1_5, .int .i64 a1_6, .slice A1_7 l1_7.length c1_7]] w fun e w' => e = .returned (.bool r) ∧ Below w.heap.size w w' := by
 have hu27 := Try.underlying27
 have hu56 := Try.underlying56
 have hu58 := Try.underlying58
 unfold governorref09_SamePolicy.f at h
 by_cases hN : l0_2.length < 140737488355328 ∧ l0_7.length < 140737488355328
 rotate_left
 ·rw [if_neg hN] at h; cases h
 rw [if_pos hN] at h
 have hr := Option.some.inj h
 unfold governorref09_SamePolicy.b at hr
 have HN2 := Aside0.mk hN.1
 have HN7 := Aside0.mk hN.2
 clear h hN
 have HR0_2 := Aside0.mk hr0_2
 clear hr0_2 hc0_2
 have HR0_7 := Aside0.mk hr0_7
 clear hr0_7 hc0_7
 have HR1_2 := Aside0.mk hr1_2
 clear hr1_2 hc1_2
 have HR1_7 := Aside0.mk hr1_7
 clear hr1_7 hc1_7
 go_enter Try.func19, Try.ntmps19
 go_upto_region 1 with (fail)
 have ht := two_mk w #[.int .i64 a0_0, .int .i64 a0_1, .slice A0_2 l0_2.length c0_2, .int .i64 a0_3, .int .i64 a0_4, .int .i64 a0_5, .int .i64 a0_6, .slice A0_7 l0_7.length c0_7] #[.int .i64 a1_0, .int .i64 a1_1, .slice A1_2 l1_2.length c1_2, .int .i64 a1_3, .int .i64 a1_4, .int .i64 a1_5, .int .i64 a1_6, .slice A1_7 l1_7.length c1_7] 27
 generalize ((w.alloc _).alloc _) = W at ht ⊢
 have xa := blk_cell ht.hA
 have xb := blk_cell ht.hB
 have HT := Aside0.mk ht
 clear ht
 go_cut [64] (fun v wc => v = .bool (a0_0 != a1_0 || (a0_1 != a1_1 || (a0_3 != a1_3 || (a0_4 != a1_4 || (a0_5 != a1_5 || (a0_6 != a1_6 || ((l0_2.length : Int) != (l1_2.length : Int) || ((l0_7.length : Int) != (l1_7.length : Int))))))))) ∧ W = wc)
 case first =>
  rcases (ch (a0_0 != a1_0) (ch (a0_1 != a1_1) (ch (a0_3 != a1_3) (ch (a0_4 != a1_4) (ch (a0_5 != a1_5) (ch (a0_6 != a1_6) (ch ((l0_2.length : Int) != (l1_2.length : Int)) (Bool.eq_false_or_eq_true ((l0_7.length : Int) != (l1_7.length : Int)))))))))) with h0 | ⟨h0, h1 | ⟨h1, h2 | ⟨h2, h3 | ⟨h3, h4 | ⟨h4, h5 | ⟨h5, h6 | ⟨h6, h7 | h7⟩⟩⟩⟩⟩⟩⟩ <;> (go_wp2; go_meet; exact ⟨by simp [*], rfl⟩)
 case rest =>
  obtain ⟨rfl, rfl⟩ := hcut
  cases hX : (a0_0 != a1_0 || (a0_1 != a1_1 || (a0_3 != a1_3 || (a0_4 != a1_4 || (a0_5 != a1_5 || (a0_6 != a1_6 || ((l0_2.length : Int) != (l1_2.length : Int) || ((l0_7.length : Int) != (l1_7.length : Int)))))))))
  case true => (rw [hX] at hr; replace hr := Aside0.mk hr; go_wp2; go_ret; exact ⟨by rw [← hr.out]; rfl, HT.out.hW⟩)
  case false =>
   rw [hX] at hr
   simp only [Bool.or_eq_false_iff, bne_eq_false_iff_eq] at hX
   obtain ⟨h0, h1, h2, h3, h4, h5, h6, h7⟩ := hX
   clear h0 h1 h2 h3 h4 h5
   replace hr := Aside0.mk hr
   have HL2 := Aside0.mk (show l0_2.length = l1_2.length by omega)
   have HL7 := Aside0.mk (show l0_7.length = l1_7.length by omega)
   clear h6 h7
   go_wp2
   go_loopw [5] (fun v wr => ∃ i : Int, 0 ≤ i ∧ i ≤ (l0_2.length : Int) ∧ v = .int .i64 i ∧ Aside0 ((eqAt eqS56 l0_2 l1_2 i && eqAt eqS58 l0_7 l1_7 0) = r) ∧ Aside0 (Two w wr #[.int .i64 a0_0, .int .i64 a0_1, .slice A0_2 l0_2.length c0_2, .int .i64 a0_3, .int .i64 a0_4, .int .i64 a0_5, .int .i64 a0_6, .slice A0_7 l0_7.length c0_7] #[.int .i64 a1_0, .int .i64 a1_1, .slice A1_2 l1_2.length c1_2, .int .i64 a1_3, .int .i64 a1_4, .int .i64 a1_5, .int .i64 a1_6, .slice A1_7 l1_7.length c1_7] 27)) (fun v _ => ((l0_2.length : Int) - intOf v).toNat)
   case atStart => exact ⟨0, Int.le_refl _, by omega, rfl, hr, HT⟩
   case round =>
    obtain ⟨i, h0, hi, rfl, hr, HT⟩ := hrel
    have xa := blk_cell HT.out.hA
    have xb := blk_cell HT.out.hB
    by_cases hlt : i < (l0_2.length : Int)
    ·have hlt' : i < (l1_2.length : Int) := by have := HL2.out; omega
     obtain ⟨ad0, e0, u0, u1⟩ := at_T56 (Kd.C_below HR0_2.out HT.out.hW) i h0 hlt
     obtain ⟨ad1, e1, v0, v1⟩ := at_T56 (Kd.C_below HR1_2.out HT.out.hW) i h0 hlt'
     cases e0; cases e1
     have hs := eqAt_lt eqS56 z56 l0_2 l1_2 i h0 hlt hlt'
     change _ = (eqS56 (rd_T56 l0_2 i) (rd_T56 l1_2 i) && _) at hs
     cases hc : eqS56 (rd_T56 l0_2 i) (rd_T56 l1_2 i)
     case true =>
      rw [hc, Bool.true_and] at hs
      replace hr := Aside0.mk ((congrArg (fun b => b && eqAt eqS58 l0_7 l1_7 0) hs.symm).trans hr.out)
      simp only [eqS56, Bool.and_eq_true, Bool.and_eq_false_iff] at hc; try obtain ⟨hc, hc'⟩ := hc
      clear hs
      go_wp2
      repeat (go_quiet (fail); try go_wp2)
      go_roundw
      case measure => have hn := HN2.out; have h_ : wrap64 (i + 1) = i + 1 := (by unfold wrap64; omega); simp [intOf, h_]; omega
      case rel => exact ⟨i + 1, by omega, by omega, by first | rfl | (have h_ : wrap64 (i + 1) = i + 1 := (by have := HN2.out; unfold wrap64; omega); simp [h_]), hr, ⟨HT.out.drewN _⟩⟩
     case false =>
      rw [hc, Bool.false_and] at hs
      replace hr := Aside0.mk ((congrArg (fun b => b && eqAt eqS58 l0_7 l1_7 0) hs.symm).trans hr.out)
      replace hc : (!((rd_T56 l0_2 i).f0 == (rd_T56 l1_2 i).f0) || (!((rd_T56 l0_2 i).f1 == (rd_T56 l1_2 i).f1))) = true := by unfold eqS56 at hc; rw [← Bool.not_and, hc]; rfl
      clear hs
      go_wp2
      repeat (go_quiet (fail); try go_wp2)
      go_ret
      exact ⟨by rw [← hr.out]; rfl, pw_below_drewN HT.out.hW _⟩
    ·have hs := eqAt_end eqS56 l0_2 l1_2 i HL2.out (by omega)
     replace hr := Aside0.mk ((congrArg (fun b => b && eqAt eqS58 l0_7 l1_7 0) hs.symm).trans hr.out)
     clear hs
     go_wp2
     go_loopw [6] (fun v wr => ∃ i : Int, 0 ≤ i ∧ i ≤ (l0_7.length : Int) ∧ v = .int .i64 i ∧ Aside0 ((eqAt eqS58 l0_7 l1_7 i) = r) ∧ Aside0 (Two w wr #[.int .i64 a0_0, .int .i64 a0_1, .slice A0_2 l0_2.length c0_2, .int .i64 a0_3, .int .i64 a0_4, .int .i64 a0_5, .int .i64 a0_6, .slice A0_7 l0_7.length c0_7] #[.int .i64 a1_0, .int .i64 a1_1, .slice A1_2 l1_2.length c1_2, .int .i64 a1_3, .int .i64 a1_4, .int .i64 a1_5, .int .i64 a1_6, .slice A1_7 l1_7.length c1_7] 27)) (fun v _ => ((l0_7.length : Int) - intOf v).toNat)
     case atStart => exact ⟨0, Int.le_refl _, by omega, rfl, hr, HT⟩
     case round =>
      obtain ⟨i, h0, hi, rfl, hr, HT⟩ := hrel
      have xa := blk_cell HT.out.hA
      have xb := blk_cell HT.out.hB
      by_cases hlt : i < (l0_7.length : Int)
      ·have hlt' : i < (l1_7.length : Int) := by have := HL7.out; omega
       obtain ⟨ad0, e0, u0, u1⟩ := at_T58 (Kd.C_below HR0_7.out HT.out.hW) i h0 hlt
       obtain ⟨ad1, e1, v0, v1⟩ := at_T58 (Kd.C_below HR1_7.out HT.out.hW) i h0 hlt'
       cases e0; cases e1
       have hs := eqAt_lt eqS58 z58 l0_7 l1_7 i h0 hlt hlt'
       change _ = (eqS58 (rd_T58 l0_7 i) (rd_T58 l1_7 i) && _) at hs
       cases hc : eqS58 (rd_T58 l0_7 i) (rd_T58 l1_7 i)
       case true =>
        rw [hc, Bool.true_and] at hs
        replace hr := Aside0.mk ((congrArg (fun b => b) hs.symm).trans hr.out)
        simp only [eqS58, Bool.and_eq_true, Bool.and_eq_false_iff] at hc; try obtain ⟨hc, hc'⟩ := hc
        clear hs
        go_wp2
        repeat (go_quiet (fail); try go_wp2)
        go_roundw
        case measure => have hn := HN7.out; have h_ : wrap64 (i + 1) = i + 1 := (by unfold wrap64; omega); simp [intOf, h_]; omega
        case rel => exact ⟨i + 1, by omega, by omega, by first | rfl | (have h_ : wrap64 (i + 1) = i + 1 := (by have := HN7.out; unfold wrap64; omega); simp [h_]), hr, ⟨HT.out.drewN _⟩⟩
       case false =>
        rw [hc, Bool.false_and] at hs
        replace hr := Aside0.mk ((congrArg (fun b => b) hs.symm).trans hr.out)
        replace hc : (!((rd_T58 l0_7 i).f0 == (rd_T58 l1_7 i).f0) || (!((rd_T58 l0_7 i).f1 == (rd_T58 l1_7 i).f1))) = true := by unfold eqS58 at hc; rw [← Bool.not_and, hc]; rfl
        clear hs
        go_wp2
        repeat (go_quiet (fail); try go_wp2)
        go_ret
        exact ⟨by rw [← hr.out]; rfl, pw_below_drewN HT.out.hW _⟩
      ·have hs := eqAt_end eqS58 l0_7 l1_7 i HL7.out (by omega)
       replace hr := Aside0.mk ((congrArg (fun b => b) hs.symm).trans hr.out)
       clear hs
       go_wp2
       go_ret
       exact ⟨by rw [← hr.out]; rfl, HT.out.hW⟩
/-! ### governorref17_Same: function 27 -/
def eqS52 (x y : S52) : Bool := x.f0 == y.f0 && (x.f1 == y.f1)
def governorref17_Same.b (l0 : List (S52)) (l1 : List (S52)) : Bool := !((l0.length : Int) != (l1.length : Int)) && eqAt eqS52 l0 l1 0
def governorref17_Same.f (l0 : List (S52)) (l1 : List (S52)) : Option Bool := if l0.length < 140737488355328 then some (governorref17_Same.b l0 l1) else none
theorem eqH52 (d : Nat) (w : World) (x0 y0 : Int) (x1 y1 : Bool) :
  (Op.equalIn (d + 2) 52 (.agg #[.int .i64 x0, .bool x1]) (.agg #[.int .i64 y0, .bool y1])).run Try.prog w = .ok (x0 == y0 && (x1 == y1)) w := by
 refine eqA_of Try.underlying52 (by kernel_rfl) ?_
 refine eqf_cons (by rfl) (by go_simp; rfl) (by go_simp; rfl) (by go_simp) ?_
 exact eqf_last (by rfl) (by go_simp; rfl) (by go_simp; rfl) (by go_simp)
attribute [local go_sem high] eqH52
set_option maxHeartbeats 8000000 in
set_option maxRecDepth 100000 in
theorem governorref17_Same.calls (A0 : Option Addr) (c0 : Nat) (l0 : List (S52)) (A1 : Option Addr) (c1 : Nat) (l1 : List (S52)) (r : Bool) (w : World) (hr0 : Kd.C k52 w A0 l0.length l0) (hc0 : l0.length ≤ c0) (hr1 : Kd.C k52 w A1 l1.length l1) (hc1 : l1.length ≤ c1) (h : governorref17_Same.f l0 l1 = some r) :
  Calls Try.prog 27 #[.slice A0 l0.length c0, .slice A1 l1.length c1] w fun e w' => e = .returned (.bool r) ∧ Drawn0 w w' := by
 have hu52 := Try.underlying52
 unfold governorref17_Same.f at h
 by_cases hN : l0.length < 140737488355328
 rotate_left
 ·rw [if_neg hN] at h; cases h
 rw [if_pos hN] at h
 have hr := Option.some.inj h
 unfold governorref17_Same.b at hr
 have HN := Aside0.mk hN
 clear h hN
 have HR0 := Aside0.mk hr0
 clear hr0 hc0
 have HR1 := Aside0.mk hr1
 clear hr1 hc1
 go_enter Try.func27, Try.ntmps27
 cases hX : ((l0.length : Int) != (l1.length : Int))
 case true => (rw [hX] at hr; replace hr := Aside0.mk hr; go_wp2; go_ret; exact ⟨by rw [← hr.out]; rfl, Drawn0.refl _⟩)
 case false =>
  have HL := Aside0.mk (show l0.length = l1.length by simp only [bne_eq_false_iff_eq] at hX; omega)
  rw [hX] at hr
  replace hr := Aside0.mk hr
  go_wp2
  go_loopw [5] (fun v wr => ∃ i : Int, 0 ≤ i ∧ i ≤ (l0.length : Int) ∧ v = .int .i64 i ∧ Aside0 (eqAt eqS52 l0 l1 i = r) ∧ Aside0 (Drawn0 w wr)) (fun v _ => ((l0.length : Int) - intOf v).toNat)
  case atStart => exact ⟨0, Int.le_refl _, by omega, rfl, hr, ⟨Drawn0.refl _⟩⟩
  case round =>
   obtain ⟨i, h0, hi, rfl, hr, HD⟩ := hrel
   by_cases hlt : i < (l0.length : Int)
   ·have hlt' : i < (l1.length : Int) := by have := HL.out; omega
    obtain ⟨ad0, e0, u0, u1⟩ := at_T52 (Kd.C_below HR0.out HD.out.below) i h0 hlt
    obtain ⟨ad1, e1, v0, v1⟩ := at_T52 (Kd.C_below HR1.out HD.out.below) i h0 hlt'
    cases e0; cases e1
    have hs := eqAt_lt eqS52 z52 l0 l1 i h0 hlt hlt'
    change _ = (eqS52 (rd_T52 l0 i) (rd_T52 l1 i) && _) at hs
    cases hc : eqS52 (rd_T52 l0 i) (rd_T52 l1 i)
    case true =>
     rw [hc, Bool.true_and] at hs
     replace hr := Aside0.mk (hs.symm.trans hr.out)
     simp only [eqS52, Bool.and_eq_true] at hc
     obtain ⟨hc, hc'⟩ := hc
     clear hs hX
     go_wp2
     repeat (go_quiet (fail); try go_wp2)
     go_roundw
     case measure => have hn := HN.out; have h_ : wrap64 (i + 1) = i + 1 := (by unfold wrap64; omega); simp [intOf, h_]; omega
     case rel => exact ⟨i + 1, by omega, by omega, by first | rfl | (have h_ : wrap64 (i + 1) = i + 1 := (by have := HN.out; unfold wrap64; omega); simp [h_]), hr, ⟨HD.out.step _⟩⟩
    case false =>
     rw [hc, Bool.false_and] at hs
     replace hr := Aside0.mk (hs.symm.trans hr.out)
     replace hc : (!((rd_T52 l0 i).f0 == (rd_T52 l1 i).f0) || (!((rd_T52 l0 i).f1 == (rd_T52 l1 i).f1))) = true := by unfold eqS52 at hc; rw [← Bool.not_and, hc]; rfl
     clear hs hX
     go_wp2
     repeat (go_quiet (fail); try go_wp2)
     go_ret
     exact ⟨by rw [← hr.out]; rfl, HD.out.step _⟩
   ·have hs := eqAt_end eqS52 l0 l1 i HL.out (by omega)
    replace hr := Aside0.mk (hs.symm.trans hr.out)
    clear hs hX
    go_wp2
    go_ret
    exact ⟨by rw [← hr.out]; rfl, HD.out⟩
/-! ### governorref18_Same: function 13 -/
def governorref18_Same.b (a0_0 : Int) (a0_1 : Int) (l0_2 : List (S56)) (a0_3 : Int) (a0_4 : Int) (a0_5 : Int) (a0_6 : Int) (l0_7 : List (S58)) (a0_8 : Int) (a0_9 : Int) (a0_10 : Bool) (a0_11 : Int) (a0_12 : Int) (a0_13 : Bool) (a0_14 : Int) (l0_15 : List (Int)) (a0_16 : Int) (a0_17 : Int) (l0_18 : List (S52)) (a1_0 : Int) (a1_1 : Int) (l1_2 : List (S56)) (a1_3 : Int) (a1_4 : Int) (a1_5 : Int) (a1_6 : Int) (l1_7 : List (S58)) (a1_8 : Int) (a1_9 : Int) (a1_10 : Bool) (a1_11 : Int) (a1_12 : Int) (a1_13 : Bool) (a1_14 : Int) (l1_15 : List (Int)) (a1_16 : Int) (a1_17 : Int) (l1_18 : List (S52)) : Bool := governorref09_SamePolicy.b a0_0 a0_1 l0_2 a0_3 a0_4 a0_5 a0_6 l0_7 a1_0 a1_1 l1_2 a1_3 a1_4 a1_5 a1_6 l1_7 && ((a0_8 == a1_8 && (a0_9 == a1_9 && (a0_10 == a1_10))) && ((a0_11 == a1_11 && (a0_12 == a1_12 && (a0_13 == a1_13))) && (governorref16_Same.b a0_14 l0_15 a0_16 a0_17 a1_14 l1_15 a1_16 a1_17 && governorref17_Same.b l0_18 l1_18)))
def governorref18_Same.f (a0_0 : Int) (a0_1 : Int) (l0_2 : List (S56)) (a0_3 : Int) (a0_4 : Int) (a0_5 : Int) (a0_6 : Int) (l0_7 : List (S58)) (a0_8 : Int) (a0_9 : Int) (a0_10 : Bool) (a0_11 : Int) (a0_12 : Int) (a0_13 : Bool) (a0_14 : Int) (l0_15 : List (Int)) (a0_16 : Int) (a0_17 : Int) (l0_18 : List (S52)) (a1_0 : Int) (a1_1 : Int) (l1_2 : List (S56)) (a1_3 : Int) (a1_4 : Int) (a1_5 : Int) (a1_6 : Int) (l1_7 : List (S58)) (a1_8 : Int) (a1_9 : Int) (a1_10 : Bool) (a1_11 : Int) (a1_12 : Int) (a1_13 : Bool) (a1_14 : Int) (l1_15 : List (Int)) (a1_16 : Int) (a1_17 : Int) (l1_18 : List (S52)) : Option Bool := if l0_2.length < 140737488355328 ∧ l0_7.length < 140737488355328 ∧ l0_15.length < 140737488355328 ∧ l0_18.length < 140737488355328 then some (governorref18_Same.b a0_0 a0_1 l0_2 a0_3 a0_4 a0_5 a0_6 l0_7 a0_8 a0_9 a0_10 a0_11 a0_12 a0_13 a0_14 l0_15 a0_16 a0_17 l0_18 a1_0 a1_1 l1_2 a1_3 a1_4 a1_5 a1_6 l1_7 a1_8 a1_9 a1_10 a1_11 a1_12 a1_13 a1_14 l1_15 a1_16 a1_17 l1_18) else none
theorem eqH29 (d : Nat) (w : World) (x0 y0 : Int) (x1 y1 : Int) (x2 y2 : Bool) :
  (Op.equalIn (d + 2) 29 (.agg #[.int .i64 x0, .int .i64 x1, .bool x2]) (.agg #[.int .i64 y0, .int .i64 y1, .bool y2])).run Try.prog w = .ok (x0 == y0 && (x1 == y1 && (x2 == y2))) w := by
 refine eqA_of Try.underlying29 (by kernel_rfl) ?_
 refine eqf_cons (by rfl) (by go_simp; rfl) (by go_simp; rfl) (by go_simp) ?_
 refine eqf_cons (by rfl) (by go_simp; rfl) (by go_simp; rfl) (by go_simp) ?_
 exact eqf_last (by rfl) (by go_simp; rfl) (by go_simp; rfl) (by go_simp)
theorem eqH31 (d : Nat) (w : World) (x0 y0 : Int) (x1 y1 : Int) (x2 y2 : Bool) :
  (Op.equalIn (d + 2) 31 (.agg #[.int .i64 x0, .int .i64 x1, .bool x2]) (.agg #[.int .i64 y0, .int .i64 y1, .bool y2])).run Try.prog w = .ok (x0 == y0 && (x1 == y1 && (x2 == y2))) w := by
 refine eqA_of Try.underlying31 (by kernel_rfl) ?_
 refine eqf_cons (by rfl) (by go_simp; rfl) (by go_simp; rfl) (by go_simp) ?_
 refine eqf_cons (by rfl) (by go_simp; rfl) (by go_simp; rfl) (by go_simp) ?_
 exact eqf_last (by rfl) (by go_simp; rfl) (by go_simp; rfl) (by go_simp)
attribute [local go_sem high] eqH29 eqH31
set_option maxHeartbeats 8000000 in
set_option maxRecDepth 100000 in
theorem governorref18_Same.calls (a0_0 : Int) (a0_1 : Int) (A0_2 : Option Addr) (c0_2 : Nat) (l0_2 : List (S56)) (a0_3 : Int) (a0_4 : Int) (a0_5 : Int) (a0_6 : Int) (A0_7 : Option Addr) (c0_7 : Nat) (l0_7 : List (S58)) (a0_8 : Int) (a0_9 : Int) (a0_10 : Bool) (a0_11 : Int) (a0_12 : Int) (a0_13 : Bool) (a0_14 : Int) (A0_15 : Option Addr) (c0_15 : Nat) (l0_15 : List (Int)) (a0_16 : Int) (a0_17 : Int) (A0_18 : Option Addr) (c0_18 : Nat) (l0_18 : List (S52)) (a1_0 : Int) (a1_1 : Int) (A1_2 : Option Addr) (c1_2 : Nat) (l1_2 : List (S56)) (a1_3 : Int) (a1_4 : Int) (a1_5 : Int) (a1_6 : Int) (A1_7 : Option Addr) (c1_7 : Nat) (l1_7 : List (S58)) (a1_8 : Int) (a1_9 : Int) (a1_10 : Bool) (a1_11 : Int) (a1_12 : Int) (a1_13 : Bool) (a1_14 : Int) (A1_15 : Option Addr) (c1_15 : Nat) (l1_15 : List (Int)) (a1_16 : Int) (a1_17 : Int) (A1_18 : Option Addr) (c1_18 : Nat) (l1_18 : List (S52)) (r : Bool) (w : World) (hr0_2 : Kd.C k56 w A0_2 l0_2.length l0_2) (hc0_2 : l0_2.length ≤ c0_2) (hr0_7 : Kd.C k58 w A0_7 l0_7.length l0_7) (hc0_7 : l0_7.length ≤ c0_7) (hr0_15 : Kd.C (Kd.int .i64) w A0_15 l0_15.length l0_15) (hc0_15 : l0_15.length ≤ c0_15) (hr0_18 : Kd.C k52 w A0_18 l0_18.length l0_18) (hc0_18 : l0_18.length ≤ c0_18) (hr1_2 : Kd.C k56 w A1_2 l1_2.length l1_2) (hc1_2 : l1_2.length ≤ c1_2) (hr1_7 : Kd.C k58 w A1_7 l1_7.length l1_7) (hc1_7 : l1_7.length ≤ c1_7) (hr1_15 : Kd.C (Kd.int .i64) w A1_15 l1_15.length l1_15) (hc1_15 : l1_15.length ≤ c1_15) (hr1_18 : Kd.C k52 w A1_18 l1_18.length l1_18) (hc1_18 : l1_18.length ≤ c1_18) (h : governorref18_Same.f a0_0 a0_1 l0_2 a0_3 a0_4 a0_5 a0_6 l0_7 a0_8 a0_9 a0_10 a0_11 a0_12 a0_13 a0_14 l0_15 a0_16 a0_17 l0_18 a1_0 a1_1 l1_2 a1_3 a1_4 a1_5 a1_6 l1_7 a1_8 a1_9 a1_10 a1_11 a1_12 a1_13 a1_14 l1_15 a1_16 a1_17 l1_18 = some r) :
  Calls Try.prog 13 #[.agg #[.int .i64 a0_0, .int .i64 a0_1, .slice A0_2 l0_2.length c0_2, .int .i64 a0_3, .int .i64 a0_4, .int .i64 a0_5, .int .i64 a0_6, .slice A0_7 l0_7.length c0_7, .int .i64 a0_8, .int .i64 a0_9, .bool a0_10, .int .i64 a0_11, .int .i64 a0_12, .bool a0_13, .int .i64 a0_14, .slice A0_15 l0_15.length c0_15, .int .i64 a0_16, .int .i64 a0_17, .slice A0_18 l0_18.length c0_18], .agg #[.int .i64 a1_0, .int .i64 a1_1, .slice A1_2 l1_2.length c1_2, .int .i64 a1_3, .int .i64 a1_4, .int .i64 a1_5, .int .i64 a1_6, .slice A1_7 l1_7.length c1_7, .int .i64 a1_8, .int .i64 a1_9, .bool a1_10, .int .i64 a1_11, .int .i64 a1_12, .bool a1_13, .int .i64 a1_14, .slice A1_15 l1_15.length c1_15, .int .i64 a1_16, .int .i64 a1_17, .slice A1_18 l1_18.length c1_18]] w fun e w' => e = .returned (.bool r) ∧ Below w.heap.size w w' := by
 have hu37 := Try.underlying37
 have hu27 := Try.underlying27
 have hu29 := Try.underlying29
 have hu31 := Try.underlying31
 have hu34 := Try.underlying34
 unfold governorref18_Same.f at h
 by_cases hN : l0_2.length < 140737488355328 ∧ l0_7.length < 140737488355328 ∧ l0_15.length < 140737488355328 ∧ l0_18.length < 140737488355328
 rotate_left
 ·rw [if_neg hN] at h; cases h
 rw [if_pos hN] at h
 have hr := Option.some.inj h
 unfold governorref18_Same.b at hr
 have FP : Aside0 (governorref09_SamePolicy.f a0_0 a0_1 l0_2 a0_3 a0_4 a0_5 a0_6 l0_7 a1_0 a1_1 l1_2 a1_3 a1_4 a1_5 a1_6 l1_7 = some (governorref09_SamePolicy.b a0_0 a0_1 l0_2 a0_3 a0_4 a0_5 a0_6 l0_7 a1_0 a1_1 l1_2 a1_3 a1_4 a1_5 a1_6 l1_7)) := ⟨if_pos ⟨hN.1, hN.2.1⟩⟩
 have FL : Aside0 (governorref16_Same.f a0_14 l0_15 a0_16 a0_17 a1_14 l1_15 a1_16 a1_17 = some (governorref16_Same.b a0_14 l0_15 a0_16 a0_17 a1_14 l1_15 a1_16 a1_17)) := ⟨if_pos hN.2.2.1⟩
 have FM : Aside0 (governorref17_Same.f l0_18 l1_18 = some (governorref17_Same.b l0_18 l1_18)) := ⟨if_pos hN.2.2.2⟩
 clear h hN
 generalize governorref09_SamePolicy.b a0_0 a0_1 l0_2 a0_3 a0_4 a0_5 a0_6 l0_7 a1_0 a1_1 l1_2 a1_3 a1_4 a1_5 a1_6 l1_7 = b1 at hr FP
 generalize governorref16_Same.b a0_14 l0_15 a0_16 a0_17 a1_14 l1_15 a1_16 a1_17 = b4 at hr FL
 generalize governorref17_Same.b l0_18 l1_18 = b5 at hr FM
 have HR0_2 := Aside0.mk hr0_2
 have HC0_2 := Aside0.mk hc0_2
 clear hr0_2 hc0_2
 have HR0_7 := Aside0.mk hr0_7
 have HC0_7 := Aside0.mk hc0_7
 clear hr0_7 hc0_7
 have HR0_15 := Aside0.mk hr0_15
 have HC0_15 := Aside0.mk hc0_15
 clear hr0_15 hc0_15
 have HR0_18 := Aside0.mk hr0_18
 have HC0_18 := Aside0.mk hc0_18
 clear hr0_18 hc0_18
 have HR1_2 := Aside0.mk hr1_2
 have HC1_2 := Aside0.mk hc1_2
 clear hr1_2 hc1_2
 have HR1_7 := Aside0.mk hr1_7
 have HC1_7 := Aside0.mk hc1_7
 clear hr1_7 hc1_7
 have HR1_15 := Aside0.mk hr1_15
 have HC1_15 := Aside0.mk hc1_15
 clear hr1_15 hc1_15
 have HR1_18 := Aside0.mk hr1_18
 have HC1_18 := Aside0.mk hc1_18
 clear hr1_18 hc1_18
 go_enter Try.func13, Try.ntmps13
 go_upto_region 1 with (fail)
 have ht := two_mk w #[.int .i64 a0_0, .int .i64 a0_1, .slice A0_2 l0_2.length c0_2, .int .i64 a0_3, .int .i64 a0_4, .int .i64 a0_5, .int .i64 a0_6, .slice A0_7 l0_7.length c0_7, .int .i64 a0_8, .int .i64 a0_9, .bool a0_10, .int .i64 a0_11, .int .i64 a0_12, .bool a0_13, .int .i64 a0_14, .slice A0_15 l0_15.length c0_15, .int .i64 a0_16, .int .i64 a0_17, .slice A0_18 l0_18.length c0_18] #[.int .i64 a1_0, .int .i64 a1_1, .slice A1_2 l1_2.length c1_2, .int .i64 a1_3, .int .i64 a1_4, .int .i64 a1_5, .int .i64 a1_6, .slice A1_7 l1_7.length c1_7, .int .i64 a1_8, .int .i64 a1_9, .bool a1_10, .int .i64 a1_11, .int .i64 a1_12, .bool a1_13, .int .i64 a1_14, .slice A1_15 l1_15.length c1_15, .int .i64 a1_16, .int .i64 a1_17, .slice A1_18 l1_18.length c1_18] 37
 generalize ((w.alloc _).alloc _) = W at ht ⊢
 have xa := blk_cell ht.hA
 have xb := blk_cell ht.hB
 have HT := Aside0.mk ht
 clear ht
 rcases (chN b1 (chN (a0_8 == a1_8 && (a0_9 == a1_9 && (a0_10 == a1_10))) (chN (a0_11 == a1_11 && (a0_12 == a1_12 && (a0_13 == a1_13))) (chN b4 (Bool.eq_false_or_eq_true b5))))) with h1 | ⟨h1, h2 | ⟨h2, h3 | ⟨h3, h4 | ⟨h4, h5 | h5⟩⟩⟩⟩
 all_goals
  simp only [*, Bool.false_and, Bool.true_and] at hr FP FL FM
  replace hr := Aside0.mk hr
  go_wp2_with (first
   | (go_at_call 19; refine (governorref09_SamePolicy.calls _ _ _ _ _ _ _ _ _ _ _ _ _ _ _ _ _ _ _ _ _ _ _ _ _ _ (Kd.C_below HR0_2.out HT.out.hW) HC0_2.out (Kd.C_below HR0_7.out HT.out.hW) HC0_7.out (Kd.C_below HR1_2.out HT.out.hW) HC1_2.out (Kd.C_below HR1_7.out HT.out.hW) HC1_7.out FP.out).mono ?_; rintro e_ w1 ⟨rfl, hb⟩; replace HT := Aside0.mk (HT.out.below (hb)); clear hb xa xb; have xa := blk_cell HT.out.hA; have xb := blk_cell HT.out.hB)
   | (go_at_call 26; refine (governorref16_Same.calls _ _ _ _ _ _ _ _ _ _ _ _ _ _ (Kd.C_below HR0_15.out HT.out.hW) HC0_15.out (Kd.C_below HR1_15.out HT.out.hW) HC1_15.out FL.out).mono ?_; rintro e_ w1 ⟨rfl, hb⟩; replace HT := Aside0.mk (HT.out.below (hb)); clear hb xa xb; have xa := blk_cell HT.out.hA; have xb := blk_cell HT.out.hB)
   | (go_at_call 27; refine (governorref17_Same.calls _ _ _ _ _ _ _ _ (Kd.C_below HR0_18.out HT.out.hW) HC0_18.out (Kd.C_below HR1_18.out HT.out.hW) HC1_18.out FM.out).mono ?_; rintro e_ w1 ⟨rfl, hb⟩; replace HT := Aside0.mk (HT.out.below (hb.below)); clear hb xa xb; have xa := blk_cell HT.out.hA; have xb := blk_cell HT.out.hB))
  go_ret
  exact ⟨by rw [← hr.out]; rfl, HT.out.hW⟩
/-! ### governorlaw09_Plain: function 22 -/
def governorlaw09_Plain.f  : Option (Int × Int × Int × Int × Int × Int × Int × Int × Int × Int × Int × Int) := some (1, 20, 4, 3, 100, 1, 50, 4, 2, 1, 3, 1)
set_option maxHeartbeats 8000000 in
set_option maxRecDepth 100000 in
theorem governorlaw09_Plain.calls  (r1 : Int) (r2 : Int) (r3 : Int) (r4 : Int) (r5 : Int) (r6 : Int) (r7 : Int) (r8 : Int) (r9 : Int) (r10 : Int) (r11 : Int) (r12 : Int) (w : World) (h : governorlaw09_Plain.f  = some (r1, r2, r3, r4, r5, r6, r7, r8, r9, r10, r11, r12)) :
  Calls Try.prog 22 #[] w fun e w' => e = .returned (.agg #[.int .i64 r1, .int .i64 r2, .int .i64 r3, .int .i64 r4, .int .i64 r5, .int .i64 r6, .int .i64 r7, .int .i64 r8, .int .i64 r9, .int .i64 r10, .int .i64 r11, .int .i64 r12]) ∧ Below w.heap.size w w' := by
 have hu23 := Try.underlying23
 have HB := Aside0.mk (Below.refl w.heap.size w)
 have H : (some (1, 20, 4, 3, 100, 1, 50, 4, 2, 1, 3, 1)) = some (r1, r2, r3, r4, r5, r6, r7, r8, r9, r10, r11, r12) := h
 clear h
 simp only [Option.some.injEq, Prod.mk.injEq] at H
 obtain ⟨rfl, rfl, rfl, rfl, rfl, rfl, rfl, rfl, rfl, rfl, rfl, rfl⟩ := H
 go_enter Try.func22, Try.ntmps22
 go_wp2_with (first | ((with_reducible refine gate_dst (N := 0) rfl ?_); refine box_event ?hg (N := 0) ?hd (cs := #[.int .i64 0, .int .i64 0, .int .i64 0, .int .i64 0, .int .i64 0, .int .i64 0, .int .i64 0, .int .i64 0, .int .i64 0, .int .i64 0, .int .i64 0, .int .i64 0]) (t := 23) ?hr ?_; (case hd => rfl); (case hg => rfl); (case hr => first | (go_simp; done) | (go_simp; rfl)); intro gb166 hg w1 hbox hb; have n0_ := Aside0.mk (below_step (by repeat (first | (with_reducible first | exact HB.out | apply below_alloc | apply pw_below_drewN | apply below_drew1) | exact HB.out)) hb); have n1_ := Aside0.mk (hbox); have n2_ := Aside0.mk ((by rw [hg]; exact (below_size (by repeat (first | (with_reducible first | exact HB.out | apply below_alloc | apply pw_below_drewN | apply below_drew1) | exact HB.out))) : w.heap.size ≤ gb166)); have n3_ := Aside0.mk ((by rw [hg]; exact (below_size (by repeat (first | (with_reducible first | exact HB.out | apply below_alloc | apply pw_below_drewN | apply below_drew1) | exact HB.out))) : w.heap.size ≤ gb166)); clear HB; have HB := n0_; have BK166 := n1_; have GW166 := n2_; have GE166 := n3_; clear n0_ n1_ n2_ n3_; clear hb hbox hg; have hcz2_0 : w1.cell? ⟨gb166, 0, none⟩ = some (.int .i64 0) := (blk_cell BK166.out 0).trans rfl; have hcz2_1 : w1.cell? ⟨gb166, 1, none⟩ = some (.int .i64 0) := (blk_cell BK166.out 1).trans rfl; have hcz2_2 : w1.cell? ⟨gb166, 2, none⟩ = some (.int .i64 0) := (blk_cell BK166.out 2).trans rfl; have hcz2_3 : w1.cell? ⟨gb166, 3, none⟩ = some (.int .i64 0) := (blk_cell BK166.out 3).trans rfl; have hcz2_4 : w1.cell? ⟨gb166, 4, none⟩ = some (.int .i64 0) := (blk_cell BK166.out 4).trans rfl; have hcz2_5 : w1.cell? ⟨gb166, 5, none⟩ = some (.int .i64 0) := (blk_cell BK166.out 5).trans rfl; have hcz2_6 : w1.cell? ⟨gb166, 6, none⟩ = some (.int .i64 0) := (blk_cell BK166.out 6).trans rfl; have hcz2_7 : w1.cell? ⟨gb166, 7, none⟩ = some (.int .i64 0) := (blk_cell BK166.out 7).trans rfl; have hcz2_8 : w1.cell? ⟨gb166, 8, none⟩ = some (.int .i64 0) := (blk_cell BK166.out 8).trans rfl; have hcz2_9 : w1.cell? ⟨gb166, 9, none⟩ = some (.int .i64 0) := (blk_cell BK166.out 9).trans rfl; have hcz2_10 : w1.cell? ⟨gb166, 10, none⟩ = some (.int .i64 0) := (blk_cell BK166.out 10).trans rfl; have hcz2_11 : w1.cell? ⟨gb166, 11, none⟩ = some (.int .i64 0) := (blk_cell BK166.out 11).trans rfl; have hfz2_0 := blk_frozen BK166.out 0; have hfz2_1 := blk_frozen BK166.out 1; have hfz2_2 := blk_frozen BK166.out 2; have hfz2_3 := blk_frozen BK166.out 3; have hfz2_4 := blk_frozen BK166.out 4; have hfz2_5 := blk_frozen BK166.out 5; have hfz2_6 := blk_frozen BK166.out 6; have hfz2_7 := blk_frozen BK166.out 7; have hfz2_8 := blk_frozen BK166.out 8; have hfz2_9 := blk_frozen BK166.out 9; have hfz2_10 := blk_frozen BK166.out 10; have hfz2_11 := blk_frozen BK166.out 11))
 refine bodyPost_ret (results_cell_row rfl _ _ gb166 23 #[.int .i64 1, .int .i64 20, .int .i64 4, .int .i64 3, .int .i64 100, .int .i64 1, .int .i64 50, .int .i64 4, .int .i64 2, .int .i64 1, .int .i64 3, .int .i64 1] (0, 0) _ rfl (by (with_reducible repeat (first | refine blk_drewN ?_ _ | refine blk_drew ?_ | refine blk_alloc ?_ _)); refine blk_put (cs := #[.int .i64 1, .int .i64 20, .int .i64 4, .int .i64 3, .int .i64 100, .int .i64 1, .int .i64 50, .int .i64 4, .int .i64 2, .int .i64 1, .int .i64 3, .int .i64 0]) ?_ 11 _ rfl; (with_reducible repeat (first | refine blk_drewN ?_ _ | refine blk_drew ?_ | refine blk_alloc ?_ _)); refine blk_put (cs := #[.int .i64 1, .int .i64 20, .int .i64 4, .int .i64 3, .int .i64 100, .int .i64 1, .int .i64 50, .int .i64 4, .int .i64 2, .int .i64 1, .int .i64 0, .int .i64 0]) ?_ 10 _ rfl; (with_reducible repeat (first | refine blk_drewN ?_ _ | refine blk_drew ?_ | refine blk_alloc ?_ _)); refine blk_put (cs := #[.int .i64 1, .int .i64 20, .int .i64 4, .int .i64 3, .int .i64 100, .int .i64 1, .int .i64 50, .int .i64 4, .int .i64 2, .int .i64 0, .int .i64 0, .int .i64 0]) ?_ 9 _ rfl; (with_reducible repeat (first | refine blk_drewN ?_ _ | refine blk_drew ?_ | refine blk_alloc ?_ _)); refine blk_put (cs := #[.int .i64 1, .int .i64 20, .int .i64 4, .int .i64 3, .int .i64 100, .int .i64 1, .int .i64 50, .int .i64 4, .int .i64 0, .int .i64 0, .int .i64 0, .int .i64 0]) ?_ 8 _ rfl; (with_reducible repeat (first | refine blk_drewN ?_ _ | refine blk_drew ?_ | refine blk_alloc ?_ _)); refine blk_put (cs := #[.int .i64 1, .int .i64 20, .int .i64 4, .int .i64 3, .int .i64 100, .int .i64 1, .int .i64 50, .int .i64 0, .int .i64 0, .int .i64 0, .int .i64 0, .int .i64 0]) ?_ 7 _ rfl; (with_reducible repeat (first | refine blk_drewN ?_ _ | refine blk_drew ?_ | refine blk_alloc ?_ _)); refine blk_put (cs := #[.int .i64 1, .int .i64 20, .int .i64 4, .int .i64 3, .int .i64 100, .int .i64 1, .int .i64 0, .int .i64 0, .int .i64 0, .int .i64 0, .int .i64 0, .int .i64 0]) ?_ 6 _ rfl; (with_reducible repeat (first | refine blk_drewN ?_ _ | refine blk_drew ?_ | refine blk_alloc ?_ _)); refine blk_put (cs := #[.int .i64 1, .int .i64 20, .int .i64 4, .int .i64 3, .int .i64 100, .int .i64 0, .int .i64 0, .int .i64 0, .int .i64 0, .int .i64 0, .int .i64 0, .int .i64 0]) ?_ 5 _ rfl; (with_reducible repeat (first | refine blk_drewN ?_ _ | refine blk_drew ?_ | refine blk_alloc ?_ _)); refine blk_put (cs := #[.int .i64 1, .int .i64 20, .int .i64 4, .int .i64 3, .int .i64 0, .int .i64 0, .int .i64 0, .int .i64 0, .int .i64 0, .int .i64 0, .int .i64 0, .int .i64 0]) ?_ 4 _ rfl; (with_reducible repeat (first | refine blk_drewN ?_ _ | refine blk_drew ?_ | refine blk_alloc ?_ _)); refine blk_put (cs := #[.int .i64 1, .int .i64 20, .int .i64 4, .int .i64 0, .int .i64 0, .int .i64 0, .int .i64 0, .int .i64 0, .int .i64 0, .int .i64 0, .int .i64 0, .int .i64 0]) ?_ 3 _ rfl; (with_reducible repeat (first | refine blk_drewN ?_ _ | refine blk_drew ?_ | refine blk_alloc ?_ _)); refine blk_put (cs := #[.int .i64 1, .int .i64 20, .int .i64 0, .int .i64 0, .int .i64 0, .int .i64 0, .int .i64 0, .int .i64 0, .int .i64 0, .int .i64 0, .int .i64 0, .int .i64 0]) ?_ 2 _ rfl; (with_reducible repeat (first | refine blk_drewN ?_ _ | refine blk_drew ?_ | refine blk_alloc ?_ _)); refine blk_put (cs := #[.int .i64 1, .int .i64 0, .int .i64 0, .int .i64 0, .int .i64 0, .int .i64 0, .int .i64 0, .int .i64 0, .int .i64 0, .int .i64 0, .int .i64 0, .int .i64 0]) ?_ 1 _ rfl; (with_reducible repeat (first | refine blk_drewN ?_ _ | refine blk_drew ?_ | refine blk_alloc ?_ _)); refine blk_put (cs := #[.int .i64 0, .int .i64 0, .int .i64 0, .int .i64 0, .int .i64 0, .int .i64 0, .int .i64 0, .int .i64 0, .int .i64 0, .int .i64 0, .int .i64 0, .int .i64 0]) ?_ 0 _ rfl; (with_reducible repeat (first | refine blk_drewN ?_ _ | refine blk_drew ?_ | refine blk_alloc ?_ _)); exact BK166.out) Try.underlying23 rfl (by kernel_rfl)) rfl ?_
 exact ⟨by first | rfl | (simp [errW_none, errW_some] <;> rfl) | (simp [*, errW_none, errW_some] <;> rfl), by repeat (first | (with_reducible first | exact HB.out | apply below_alloc | apply pw_below_drewN | apply below_drew1 | refine below_set ?_ GE166.out) | exact HB.out)⟩
/-! ### governorref09_Zero: function 20 -/
def governorref09_Zero.f (a0_0 : Int) (a0_1 : Int) (l0_2 : List (S56)) (a0_3 : Int) (a0_4 : Int) (a0_5 : Int) (a0_6 : Int) (l0_7 : List (S58)) : Option (Bool) := if a0_0 = 0 then ((governorref09_none.f a0_0 a0_1 l0_2 a0_3 a0_4 a0_5 a0_6 l0_7 true true true true).bind fun t168 => (some t168)) else (some false)
set_option maxHeartbeats 8000000 in
set_option maxRecDepth 100000 in
theorem governorref09_Zero.calls (a0_0 : Int) (a0_1 : Int) (A0_2 : Option Addr) (c0_2 : Nat) (l0_2 : List (S56)) (a0_3 : Int) (a0_4 : Int) (a0_5 : Int) (a0_6 : Int) (A0_7 : Option Addr) (c0_7 : Nat) (l0_7 : List (S58)) (r : Bool) (w : World) (hr0_2 : Kd.C k56 w A0_2 l0_2.length l0_2) (hc0_2 : l0_2.length ≤ c0_2) (hr0_7 : Kd.C k58 w A0_7 l0_7.length l0_7) (hc0_7 : l0_7.length ≤ c0_7) (h : governorref09_Zero.f a0_0 a0_1 l0_2 a0_3 a0_4 a0_5 a0_6 l0_7 = some r) :
  Calls Try.prog 20 #[.agg #[.int .i64 a0_0, .int .i64 a0_1, .slice A0_2 l0_2.length c0_2, .int .i64 a0_3, .int .i64 a0_4, .int .i64 a0_5, .int .i64 a0_6, .slice A0_7 l0_7.length c0_7]] w fun e w' => e = .returned (.bool r) ∧ Below w.heap.size w w' := by
 have hu27 := Try.underlying27
 have HR0_2 := Aside0.mk hr0_2
 have HC0_2 := Aside0.mk hc0_2
 clear hr0_2 hc0_2
 have HR0_7 := Aside0.mk hr0_7
 have HC0_7 := Aside0.mk hc0_7
 clear hr0_7 hc0_7
 have HB := Aside0.mk (Below.refl w.heap.size w)
 have H : (if a0_0 = 0 then ((governorref09_none.f a0_0 a0_1 l0_2 a0_3 a0_4 a0_5 a0_6 l0_7 true true true true).bind fun t168 => (some t168)) else (some false)) = some r := h
 clear h
 by_cases c2 : a0_0 = 0
 ·rw [if_pos c2] at H
  have c2b0 : (a0_0 == 0) = true := beq_iff_eq.mpr c2
  have c2b1 : (a0_0 != 0) = false := bne_eq_false_iff_eq.mpr c2
  clear c2
  replace H := Option.bind_eq_some_iff.mp H
  obtain ⟨t168, A30, H⟩ := H
  replace H : (some t168) = some r := H
  have A3 := Aside0.mk A30
  clear A30
  obtain rfl := Option.some.inj H
  go_enter Try.func20, Try.ntmps20
  go_wp2_with (first | ((with_reducible refine gate_dst (N := 1) rfl ?_); refine box_event ?hg (N := 1) ?hd (cs := #[.int .i64 a0_0, .int .i64 a0_1, .slice A0_2 l0_2.length c0_2, .int .i64 a0_3, .int .i64 a0_4, .int .i64 a0_5, .int .i64 a0_6, .slice A0_7 l0_7.length c0_7]) (t := 27) ?hr ?_; (case hd => rfl); (case hg => rfl); (case hr => first | (go_simp; done) | (go_simp; rfl)); intro gb167 hg w4 hbox hb; have n0_ := Aside0.mk (below_step (by repeat (first | (with_reducible first | exact HB.out | apply below_alloc | apply pw_below_drewN | apply below_drew1) | exact HB.out)) hb); have n1_ := Aside0.mk (hbox); have n2_ := Aside0.mk ((by rw [hg]; exact (below_size (by repeat (first | (with_reducible first | exact HB.out | apply below_alloc | apply pw_below_drewN | apply below_drew1) | exact HB.out))) : w.heap.size ≤ gb167)); have n3_ := Aside0.mk ((by rw [hg]; exact (below_size (by repeat (first | (with_reducible first | exact HB.out | apply below_alloc | apply pw_below_drewN | apply below_drew1) | exact HB.out))) : w.heap.size ≤ gb167)); clear HB; have HB := n0_; have BK167 := n1_; have GW167 := n2_; have GE167 := n3_; clear n0_ n1_ n2_ n3_; clear hb hbox hg; have hcz5_0 : w4.cell? ⟨gb167, 0, none⟩ = some (.int .i64 a0_0) := (blk_cell BK167.out 0).trans rfl; have hcz5_1 : w4.cell? ⟨gb167, 1, none⟩ = some (.int .i64 a0_1) := (blk_cell BK167.out 1).trans rfl; have hcz5_2 : w4.cell? ⟨gb167, 2, none⟩ = some (.slice A0_2 l0_2.length c0_2) := (blk_cell BK167.out 2).trans rfl; have hcz5_3 : w4.cell? ⟨gb167, 3, none⟩ = some (.int .i64 a0_3) := (blk_cell BK167.out 3).trans rfl; have hcz5_4 : w4.cell? ⟨gb167, 4, none⟩ = some (.int .i64 a0_4) := (blk_cell BK167.out 4).trans rfl; have hcz5_5 : w4.cell? ⟨gb167, 5, none⟩ = some (.int .i64 a0_5) := (blk_cell BK167.out 5).trans rfl; have hcz5_6 : w4.cell? ⟨gb167, 6, none⟩ = some (.int .i64 a0_6) := (blk_cell BK167.out 6).trans rfl; have hcz5_7 : w4.cell? ⟨gb167, 7, none⟩ = some (.slice A0_7 l0_7.length c0_7) := (blk_cell BK167.out 7).trans rfl; have hfz5_0 := blk_frozen BK167.out 0; have hfz5_1 := blk_frozen BK167.out 1; have hfz5_2 := blk_frozen BK167.out 2; have hfz5_3 := blk_frozen BK167.out 3; have hfz5_4 := blk_frozen BK167.out 4; have hfz5_5 := blk_frozen BK167.out 5; have hfz5_6 := blk_frozen BK167.out 6; have hfz5_7 := blk_frozen BK167.out 7) | (go_at_call 43; (with_reducible refine (governorref09_none.calls a0_0 a0_1 _ _ l0_2 a0_3 a0_4 a0_5 a0_6 _ _ l0_7 true true true true t168 _ ?side1 ?side2 ?side3 ?side4 A3.out).mono ?_); (case side1 => repeat (first | exact (Kd.C_below HR0_2.out HB.out) | (with_reducible refine Kd.C_alloc ?_ _) | (with_reducible refine Kd.C_drewN ?_ _) | (with_reducible refine Kd.C_drew ?_))); (case side2 => exact HC0_2.out); (case side3 => repeat (first | exact (Kd.C_below HR0_7.out HB.out) | (with_reducible refine Kd.C_alloc ?_ _) | (with_reducible refine Kd.C_drewN ?_ _) | (with_reducible refine Kd.C_drew ?_))); (case side4 => exact HC0_7.out); rintro e w6 ⟨rfl, hb⟩; have n0_ := Aside0.mk (blk_below (g := gb167) (o := .cells #[.int .i64 a0_0, .int .i64 a0_1, .slice A0_2 l0_2.length c0_2, .int .i64 a0_3, .int .i64 a0_4, .int .i64 a0_5, .int .i64 a0_6, .slice A0_7 l0_7.length c0_7] 27 (0, 0)) (by (with_reducible repeat (first | refine blk_drewN ?_ _ | refine blk_drew ?_ | refine blk_alloc ?_ _)); exact BK167.out) hb); have n1_ := Aside0.mk (below_step (by repeat (first | (with_reducible first | exact HB.out | apply below_alloc | apply pw_below_drewN | apply below_drew1 | refine below_set ?_ GE167.out) | exact HB.out)) hb); clear BK167; clear HB; have BK167 := n0_; have HB := n1_; clear n0_ n1_; (try clear hb); (try clear hb2); (try clear hk); (try clear hi)))
  go_ret
  exact ⟨by first | rfl | (simp [errW_none, errW_some] <;> rfl) | (simp [*, errW_none, errW_some] <;> rfl), by repeat (first | (with_reducible first | exact HB.out | apply below_alloc | apply pw_below_drewN | apply below_drew1 | refine below_set ?_ GE167.out) | exact HB.out)⟩
 ·rw [if_neg c2] at H
  have c2b0 : (a0_0 == 0) = false := beq_eq_false_iff_ne.mpr c2
  have c2b1 : (a0_0 != 0) = true := bne_iff_ne.mpr c2
  obtain rfl := Option.some.inj H
  go_enter Try.func20, Try.ntmps20
  go_wp2_with (first | ((with_reducible refine gate_dst (N := 1) rfl ?_); refine box_event ?hg (N := 1) ?hd (cs := #[.int .i64 a0_0, .int .i64 a0_1, .slice A0_2 l0_2.length c0_2, .int .i64 a0_3, .int .i64 a0_4, .int .i64 a0_5, .int .i64 a0_6, .slice A0_7 l0_7.length c0_7]) (t := 27) ?hr ?_; (case hd => rfl); (case hg => rfl); (case hr => first | (go_simp; done) | (go_simp; rfl)); intro gb167 hg w7 hbox hb; have n0_ := Aside0.mk (below_step (by repeat (first | (with_reducible first | exact HB.out | apply below_alloc | apply pw_below_drewN | apply below_drew1) | exact HB.out)) hb); have n1_ := Aside0.mk (hbox); have n2_ := Aside0.mk ((by rw [hg]; exact (below_size (by repeat (first | (with_reducible first | exact HB.out | apply below_alloc | apply pw_below_drewN | apply below_drew1) | exact HB.out))) : w.heap.size ≤ gb167)); have n3_ := Aside0.mk ((by rw [hg]; exact (below_size (by repeat (first | (with_reducible first | exact HB.out | apply below_alloc | apply pw_below_drewN | apply below_drew1) | exact HB.out))) : w.heap.size ≤ gb167)); clear HB; have HB := n0_; have BK167 := n1_; have GW167 := n2_; have GE167 := n3_; clear n0_ n1_ n2_ n3_; clear hb hbox hg; have hcz8_0 : w7.cell? ⟨gb167, 0, none⟩ = some (.int .i64 a0_0) := (blk_cell BK167.out 0).trans rfl; have hcz8_1 : w7.cell? ⟨gb167, 1, none⟩ = some (.int .i64 a0_1) := (blk_cell BK167.out 1).trans rfl; have hcz8_2 : w7.cell? ⟨gb167, 2, none⟩ = some (.slice A0_2 l0_2.length c0_2) := (blk_cell BK167.out 2).trans rfl; have hcz8_3 : w7.cell? ⟨gb167, 3, none⟩ = some (.int .i64 a0_3) := (blk_cell BK167.out 3).trans rfl; have hcz8_4 : w7.cell? ⟨gb167, 4, none⟩ = some (.int .i64 a0_4) := (blk_cell BK167.out 4).trans rfl; have hcz8_5 : w7.cell? ⟨gb167, 5, none⟩ = some (.int .i64 a0_5) := (blk_cell BK167.out 5).trans rfl; have hcz8_6 : w7.cell? ⟨gb167, 6, none⟩ = some (.int .i64 a0_6) := (blk_cell BK167.out 6).trans rfl; have hcz8_7 : w7.cell? ⟨gb167, 7, none⟩ = some (.slice A0_7 l0_7.length c0_7) := (blk_cell BK167.out 7).trans rfl; have hfz8_0 := blk_frozen BK167.out 0; have hfz8_1 := blk_frozen BK167.out 1; have hfz8_2 := blk_frozen BK167.out 2; have hfz8_3 := blk_frozen BK167.out 3; have hfz8_4 := blk_frozen BK167.out 4; have hfz8_5 := blk_frozen BK167.out 5; have hfz8_6 := blk_frozen BK167.out 6; have hfz8_7 := blk_frozen BK167.out 7))
  go_ret
  exact ⟨by first | rfl | (simp [errW_none, errW_some] <;> rfl) | (simp [*, errW_none, errW_some] <;> rfl), by repeat (first | (with_reducible first | exact HB.out | apply below_alloc | apply pw_below_drewN | apply below_drew1 | refine below_set ?_ GE167.out) | exact HB.out)⟩
/-! ### governorref16_Right: function 25 -/
/-- What a loop has still to look at. -/
def allAt {α : Type} (p : α → Bool) (l : List α) (i : Int) : Bool := (l.drop i.toNat).all p
theorem allAt_lt {α : Type} (p : α → Bool) (d : α) (l : List α) (i : Int) (h0 : 0 ≤ i) (h : i < (l.length : Int)) : allAt p l i = (p (l.getD i.toNat d) && allAt p l (i + 1)) := by
 unfold allAt
 rw [List.drop_eq_getElem_cons (show i.toNat < l.length by omega), show (i + 1).toNat = i.toNat + 1 by omega, List.all_cons, List.getD_eq_getElem?_getD, List.getElem?_eq_getElem (by omega)]; rfl
theorem allAt_end {α : Type} (p : α → Bool) (l : List α) (i : Int) (hi : i = (l.length : Int)) : allAt p l i = true := by
 unfold allAt
 rw [hi, Int.toNat_natCast, List.drop_length]; rfl
def smI (x : Int) : Bool := decide (0 ≤ x) && decide (x ≤ 1000)
def governorref16_Right.b (a0_0 : Int) (l0_1 : List (Int)) (a0_2 : Int) (a0_3 : Int) : Bool := !(decide (a0_0 < 0) || (decide (1000 < a0_0) || (decide (8 < (l0_1.length : Int)) || (decide (a0_2 < 0) || (decide (1000000000 < a0_2) || (decide (a0_3 < 0) || (decide (1000000000 < a0_3)))))))) && (allAt smI l0_1 0 && decide (allL a0_0 l0_1 ≤ 1000))
def governorref16_Right.f (a0_0 : Int) (l0_1 : List (Int)) (a0_2 : Int) (a0_3 : Int) : Option Bool := if l0_1.length < 140737488355328 then some (governorref16_Right.b a0_0 l0_1 a0_2 a0_3) else none
set_option maxHeartbeats 8000000 in
set_option maxRecDepth 100000 in
theorem governorref16_Right.calls (a0_0 : Int) (A0_1 : Option Addr) (c0_1 : Nat) (l0_1 : List (Int)) (a0_2 : Int) (a0_3 : Int) (r : Bool) (w : World) (hr0_1 : Kd.C (Kd.int .i64) w A0_1 l0_1.length l0_1) (hc0_1 : l0_1.length ≤ c0_1) (h : governorref16_Right.f a0_0 l0_1 a0_2 a0_3 = some r) :
  Calls Try.prog 25 #[.agg #[.int .i64 a0_0, .slice A0_1 l0_1.length c0_1, .int .i64 a0_2, .int .i64 a0_3]] w fun e w' => e = .returned (.bool r) ∧ Below w.heap.size w w' := by
 have hu34 := Try.underlying34
 unfold governorref16_Right.f at h
 by_cases hN : l0_1.length < 140737488355328
 rotate_left
 ·rw [if_neg hN] at h; cases h
 rw [if_pos hN] at h
 have hr := Option.some.inj h
 unfold governorref16_Right.b at hr
 have FA : Aside0 (governorref16_All.f a0_0 l0_1 a0_2 a0_3 = some (allL a0_0 l0_1)) := ⟨if_pos hN⟩
 have HN1 := Aside0.mk hN
 have HR0_1 := Aside0.mk hr0_1
 have HC0_1 := Aside0.mk hc0_1
 clear h hN hr0_1 hc0_1
 go_enter Try.func25, Try.ntmps25
 go_upto_region 1 with (fail)
 have ht := one_mk w #[.int .i64 a0_0, .slice A0_1 l0_1.length c0_1, .int .i64 a0_2, .int .i64 a0_3] 34
 generalize w.alloc _ = W at ht ⊢
 have xa := blk_cell ht.hA
 have HT := Aside0.mk ht
 clear ht
 go_cut [37] (fun v wc => v = .bool (decide (a0_0 < 0) || (decide (1000 < a0_0) || (decide (8 < (l0_1.length : Int)) || (decide (a0_2 < 0) || (decide (1000000000 < a0_2) || (decide (a0_3 < 0) || (decide (1000000000 < a0_3)))))))) ∧ W = wc)
 case first =>
  rcases (ch (decide (a0_0 < 0)) (ch (decide (1000 < a0_0)) (ch (decide (8 < (l0_1.length : Int))) (ch (decide (a0_2 < 0)) (ch (decide (1000000000 < a0_2)) (ch (decide (a0_3 < 0)) (Bool.eq_false_or_eq_true (decide (1000000000 < a0_3))))))))) with h0 | ⟨h0, h1 | ⟨h1, h2 | ⟨h2, h3 | ⟨h3, h4 | ⟨h4, h5 | ⟨h5, h6 | h6⟩⟩⟩⟩⟩⟩ <;> (go_wp2; go_meet; exact ⟨by simp [*], rfl⟩)
 case rest =>
  obtain ⟨rfl, rfl⟩ := hcut
  cases hX : (decide (a0_0 < 0) || (decide (1000 < a0_0) || (decide (8 < (l0_1.length : Int)) || (decide (a0_2 < 0) || (decide (1000000000 < a0_2) || (decide (a0_3 < 0) || (decide (1000000000 < a0_3))))))))
  case true => (rw [hX] at hr; replace hr := Aside0.mk hr; go_wp2; go_ret; exact ⟨by rw [← hr.out]; rfl, HT.out.hW⟩)
  case false =>
   rw [hX] at hr
   replace hr := Aside0.mk hr
   clear hX
   go_wp2
   go_loopw [3] (fun v wr => ∃ i : Int, 0 ≤ i ∧ i ≤ (l0_1.length : Int) ∧ v = .int .i64 i ∧ Aside0 ((allAt smI l0_1 i && decide (allL a0_0 l0_1 ≤ 1000)) = r) ∧ Aside0 (One w wr #[.int .i64 a0_0, .slice A0_1 l0_1.length c0_1, .int .i64 a0_2, .int .i64 a0_3] 34)) (fun v _ => ((l0_1.length : Int) - intOf v).toNat)
   case atStart => exact ⟨0, Int.le_refl _, by omega, rfl, hr, HT⟩
   case round =>
    obtain ⟨i, h0, hi, rfl, hr, HT⟩ := hrel
    have xa := blk_cell HT.out.hA
    by_cases hlt : i < (l0_1.length : Int)
    ·obtain ⟨ad0, e0, u0⟩ := Kd.at_int (Kd.C_below HR0_1.out HT.out.hW) i h0 hlt
     cases e0
     have hs := allAt_lt smI 0 l0_1 i h0 hlt
     change _ = ((decide (0 ≤ rd l0_1 i) && decide (rd l0_1 i ≤ 1000)) && _) at hs
     have hw := wr_len HN1.out h0 hlt
     rcases (ch (decide (rd l0_1 i < 0)) (Bool.eq_false_or_eq_true (decide (1000 < rd l0_1 i)))) with h1 | ⟨h1, h2 | h2⟩
     ·have hq : (decide (0 ≤ rd l0_1 i) && decide (rd l0_1 i ≤ 1000)) = false := by simp only [decide_eq_true_eq, decide_eq_false_iff_not] at h1 ; simp; omega
      rw [hq, Bool.false_and] at hs
      replace hr := Aside0.mk ((congrArg (fun b => b && decide (allL a0_0 l0_1 ≤ 1000)) hs.symm).trans hr.out)
      clear hs hq hw
      go_wp2
      repeat (go_quiet (fail); try go_wp2)
      go_ret
      exact ⟨by rw [← hr.out]; rfl, by first | exact HT.out.hW | exact pw_below_drewN HT.out.hW _⟩
     ·have hq : (decide (0 ≤ rd l0_1 i) && decide (rd l0_1 i ≤ 1000)) = false := by simp only [decide_eq_true_eq, decide_eq_false_iff_not] at h1 h2; simp; omega
      rw [hq, Bool.false_and] at hs
      replace hr := Aside0.mk ((congrArg (fun b => b && decide (allL a0_0 l0_1 ≤ 1000)) hs.symm).trans hr.out)
      clear hs hq hw
      go_wp2
      repeat (go_quiet (fail); try go_wp2)
      go_ret
      exact ⟨by rw [← hr.out]; rfl, by first | exact HT.out.hW | exact pw_below_drewN HT.out.hW _⟩
     ·have hq : (decide (0 ≤ rd l0_1 i) && decide (rd l0_1 i ≤ 1000)) = true := by simp only [decide_eq_false_iff_not] at h1 h2; simp; omega
      rw [hq, Bool.true_and] at hs
      replace hr := Aside0.mk ((congrArg (fun b => b && decide (allL a0_0 l0_1 ≤ 1000)) hs.symm).trans hr.out)
      clear hs hq
      go_wp2
      repeat (go_quiet (fail); try go_wp2)
      go_roundw
      case measure => simp [intOf, hw]; omega
      case rel => exact ⟨i + 1, by omega, by omega, by first | rfl | simp [hw], hr, by first | exact HT | exact ⟨HT.out.drewN _⟩⟩
    ·have hs := allAt_end smI l0_1 i (by omega)
     replace hr := Aside0.mk ((congrArg (fun b => b && decide (allL a0_0 l0_1 ≤ 1000)) hs.symm).trans hr.out)
     clear hs
     go_wp2_with (go_at_call 47; refine (governorref16_All.calls _ _ _ _ _ _ _ _ (Kd.C_below HR0_1.out HT.out.hW) HC0_1.out FA.out).mono ?_; rintro e_ w1 ⟨rfl, hb⟩; replace HT := Aside0.mk (HT.out.below hb); clear hb)
     go_ret
     exact ⟨by rw [← hr.out]; rfl, HT.out.hW⟩
/-! ### governorref18_Right: function 11 -/
def mkI (x : S52) : Bool := decide (0 ≤ x.f0) && decide (x.f0 ≤ 1000000000)
def governorref18_Right.b (p z : Bool) (a0_0 : Int) (a0_1 : Int) (l0_2 : List (S56)) (a0_3 : Int) (a0_4 : Int) (a0_5 : Int) (a0_6 : Int) (l0_7 : List (S58)) (a0_8 : Int) (a0_9 : Int) (a0_10 : Bool) (a0_11 : Int) (a0_12 : Int) (a0_13 : Bool) (a0_14 : Int) (l0_15 : List (Int)) (a0_16 : Int) (a0_17 : Int) (l0_18 : List (S52)) : Bool := !((!p && !z) || (decide (8 < (l0_15.length : Int)) || (!(governorref16_Right.b a0_14 l0_15 a0_16 a0_17) || (decide (32 < (l0_18.length : Int)))))) && (allAt mkI l0_18 0 && (decide (0 ≤ a0_11) && (decide (a0_11 ≤ 1000) && (decide (0 ≤ a0_12) && (decide (a0_12 ≤ 1099511627776))))))
def governorref18_Right.f (k : Nat) (a0_0 : Int) (a0_1 : Int) (l0_2 : List (S56)) (a0_3 : Int) (a0_4 : Int) (a0_5 : Int) (a0_6 : Int) (l0_7 : List (S58)) (a0_8 : Int) (a0_9 : Int) (a0_10 : Bool) (a0_11 : Int) (a0_12 : Int) (a0_13 : Bool) (a0_14 : Int) (l0_15 : List (Int)) (a0_16 : Int) (a0_17 : Int) (l0_18 : List (S52)) : Option Bool := if (decide (8 < (l0_2.length : Int)) || decide (8 < (l0_7.length : Int))) = true then some false else (governorref09_Policy.f k a0_0 a0_1 l0_2 a0_3 a0_4 a0_5 a0_6 l0_7).bind fun p => (governorref09_Zero.f a0_0 a0_1 l0_2 a0_3 a0_4 a0_5 a0_6 l0_7).bind fun z => some (governorref18_Right.b p z a0_0 a0_1 l0_2 a0_3 a0_4 a0_5 a0_6 l0_7 a0_8 a0_9 a0_10 a0_11 a0_12 a0_13 a0_14 l0_15 a0_16 a0_17 l0_18)
set_option maxHeartbeats 8000000 in
set_option maxRecDepth 100000 in
theorem governorref18_Right.calls (k : Nat) (a0_0 : Int) (a0_1 : Int) (A0_2 : Option Addr) (c0_2 : Nat) (l0_2 : List (S56)) (a0_3 : Int) (a0_4 : Int) (a0_5 : Int) (a0_6 : Int) (A0_7 : Option Addr) (c0_7 : Nat) (l0_7 : List (S58)) (a0_8 : Int) (a0_9 : Int) (a0_10 : Bool) (a0_11 : Int) (a0_12 : Int) (a0_13 : Bool) (a0_14 : Int) (A0_15 : Option Addr) (c0_15 : Nat) (l0_15 : List (Int)) (a0_16 : Int) (a0_17 : Int) (A0_18 : Option Addr) (c0_18 : Nat) (l0_18 : List (S52)) (r : Bool) (w : World) (hr0_2 : Kd.C k56 w A0_2 l0_2.length l0_2) (hc0_2 : l0_2.length ≤ c0_2) (hr0_7 : Kd.C k58 w A0_7 l0_7.length l0_7) (hc0_7 : l0_7.length ≤ c0_7) (hr0_15 : Kd.C (Kd.int .i64) w A0_15 l0_15.length l0_15) (hc0_15 : l0_15.length ≤ c0_15) (hr0_18 : Kd.C k52 w A0_18 l0_18.length l0_18) (hc0_18 : l0_18.length ≤ c0_18) (h : governorref18_Right.f k a0_0 a0_1 l0_2 a0_3 a0_4 a0_5 a0_6 l0_7 a0_8 a0_9 a0_10 a0_11 a0_12 a0_13 a0_14 l0_15 a0_16 a0_17 l0_18 = some r) :
  Calls Try.prog 11 #[.agg #[.int .i64 a0_0, .int .i64 a0_1, .slice A0_2 l0_2.length c0_2, .int .i64 a0_3, .int .i64 a0_4, .int .i64 a0_5, .int .i64 a0_6, .slice A0_7 l0_7.length c0_7, .int .i64 a0_8, .int .i64 a0_9, .bool a0_10, .int .i64 a0_11, .int .i64 a0_12, .bool a0_13, .int .i64 a0_14, .slice A0_15 l0_15.length c0_15, .int .i64 a0_16, .int .i64 a0_17, .slice A0_18 l0_18.length c0_18]] w fun e w' => e = .returned (.bool r) ∧ Below w.heap.size w w' := by
 have hu37 := Try.underlying37
 have hu27 := Try.underlying27
 have hu34 := Try.underlying34
 have hu52 := Try.underlying52
 have hu31 := Try.underlying31
 unfold governorref18_Right.f at h
 have HR0_2 := Aside0.mk hr0_2
 have HC0_2 := Aside0.mk hc0_2
 clear hr0_2 hc0_2
 have HR0_7 := Aside0.mk hr0_7
 have HC0_7 := Aside0.mk hc0_7
 clear hr0_7 hc0_7
 have HR0_15 := Aside0.mk hr0_15
 have HC0_15 := Aside0.mk hc0_15
 clear hr0_15 hc0_15
 have HR0_18 := Aside0.mk hr0_18
 have HC0_18 := Aside0.mk hc0_18
 clear hr0_18 hc0_18
 go_enter Try.func11, Try.ntmps11
 go_upto_region 1 with (fail)
 have ht := one_mk w #[.int .i64 a0_0, .int .i64 a0_1, .slice A0_2 l0_2.length c0_2, .int .i64 a0_3, .int .i64 a0_4, .int .i64 a0_5, .int .i64 a0_6, .slice A0_7 l0_7.length c0_7, .int .i64 a0_8, .int .i64 a0_9, .bool a0_10, .int .i64 a0_11, .int .i64 a0_12, .bool a0_13, .int .i64 a0_14, .slice A0_15 l0_15.length c0_15, .int .i64 a0_16, .int .i64 a0_17, .slice A0_18 l0_18.length c0_18] 37
 generalize w.alloc _ = W at ht ⊢
 have xa := blk_cell ht.hA
 have HT := Aside0.mk ht
 clear ht
 cases hL : (decide (8 < (l0_2.length : Int)) || decide (8 < (l0_7.length : Int)))
 rotate_left
 ·rw [hL, if_pos rfl] at h
  cases h
  have hq : decide (8 < (l0_2.length : Int)) = true ∨ (decide (8 < (l0_2.length : Int)) = false ∧ decide (8 < (l0_7.length : Int)) = true) := by revert hL; cases decide (8 < (l0_2.length : Int)) <;> cases decide (8 < (l0_7.length : Int)) <;> simp
  clear hL
  rcases hq with h1 | ⟨h1, h2⟩
  all_goals (go_wp2; go_ret; exact ⟨rfl, HT.out.hW⟩)
 rw [hL, if_neg (by decide)] at h
 rw [Bool.or_eq_false_iff] at hL
 obtain ⟨h1, h2⟩ := hL
 obtain ⟨p, fp, h⟩ := Option.bind_eq_some_iff.1 h
 obtain ⟨z, fz, h⟩ := Option.bind_eq_some_iff.1 h
 have hr := Option.some.inj h
 unfold governorref18_Right.b at hr
 have FB : Aside0 (decide (8 < (l0_15.length : Int)) = false → governorref16_Right.f a0_14 l0_15 a0_16 a0_17 = some (governorref16_Right.b a0_14 l0_15 a0_16 a0_17)) := ⟨fun hc => if_pos (by have := of_decide_eq_false hc; omega)⟩
 generalize governorref16_Right.b a0_14 l0_15 a0_16 a0_17 = b at hr FB
 have FP := Aside0.mk fp
 have FZ := Aside0.mk fz
 clear h fp fz
 go_cut [46] (fun v wc => v = .bool ((!p && !z) || (decide (8 < (l0_15.length : Int)) || (!(b) || (decide (32 < (l0_18.length : Int)))))) ∧ Aside0 (One w wc #[.int .i64 a0_0, .int .i64 a0_1, .slice A0_2 l0_2.length c0_2, .int .i64 a0_3, .int .i64 a0_4, .int .i64 a0_5, .int .i64 a0_6, .slice A0_7 l0_7.length c0_7, .int .i64 a0_8, .int .i64 a0_9, .bool a0_10, .int .i64 a0_11, .int .i64 a0_12, .bool a0_13, .int .i64 a0_14, .slice A0_15 l0_15.length c0_15, .int .i64 a0_16, .int .i64 a0_17, .slice A0_18 l0_18.length c0_18] 37))
 case first =>
  have hq : (p = false ∧ z = false) ∨ ((p = true ∨ (p = false ∧ z = true)) ∧ (decide (8 < (l0_15.length : Int)) = true ∨ (decide (8 < (l0_15.length : Int)) = false ∧ (b = false ∨ (b = true ∧ (decide (32 < (l0_18.length : Int)) = true ∨ decide (32 < (l0_18.length : Int)) = false)))))) := by
   cases decide (8 < (l0_15.length : Int)) <;> cases decide (32 < (l0_18.length : Int)) <;> cases p <;> cases z <;> cases b <;> simp
  rcases hq with ⟨rfl, rfl⟩ | ⟨rfl | ⟨rfl, rfl⟩, h4 | ⟨h4, rfl | ⟨rfl, h6 | h6⟩⟩⟩
  all_goals
   (go_wp2_with (first | (go_at_call 24; refine (governorref09_Policy.calls k _ _ _ _ _ _ _ _ _ _ _ _ _ _ (Kd.C_below HR0_2.out HT.out.hW) HC0_2.out (Kd.C_below HR0_7.out HT.out.hW) HC0_7.out FP.out).mono ?_; rintro e_ w1 ⟨rfl, hb⟩; replace HT := Aside0.mk (HT.out.below hb); clear hb xa; have xa := blk_cell HT.out.hA) | (go_at_call 20; refine (governorref09_Zero.calls _ _ _ _ _ _ _ _ _ _ _ _ _ _ (Kd.C_below HR0_2.out HT.out.hW) HC0_2.out (Kd.C_below HR0_7.out HT.out.hW) HC0_7.out FZ.out).mono ?_; rintro e_ w1 ⟨rfl, hb⟩; replace HT := Aside0.mk (HT.out.below hb); clear hb xa; have xa := blk_cell HT.out.hA) | (go_at_call 25; refine (governorref16_Right.calls _ _ _ _ _ _ _ _ (Kd.C_below HR0_15.out HT.out.hW) HC0_15.out (FB.out h4)).mono ?_; rintro e_ w1 ⟨rfl, hb⟩; replace HT := Aside0.mk (HT.out.below hb); clear hb xa; have xa := blk_cell HT.out.hA)); go_meet; exact ⟨by simp [*], HT⟩)
 case rest =>
  obtain ⟨rfl, HT⟩ := hcut
  have xa := blk_cell HT.out.hA
  clear FP FZ FB h1 h2
  cases hX : ((!p && !z) || (decide (8 < (l0_15.length : Int)) || (!(b) || (decide (32 < (l0_18.length : Int))))))
  case true => (rw [hX] at hr; replace hr := Aside0.mk hr; go_wp2; go_ret; exact ⟨by rw [← hr.out]; rfl, HT.out.hW⟩)
  case false =>
   rw [hX] at hr
   replace hr := Aside0.mk hr
   simp only [Bool.or_eq_false_iff, decide_eq_false_iff_not] at hX
   have HN18 : Aside0 (l0_18.length < 140737488355328) := ⟨by omega⟩
   clear hX
   go_wp2
   go_loopw [3] (fun v wr => ∃ i : Int, 0 ≤ i ∧ i ≤ (l0_18.length : Int) ∧ v = .int .i64 i ∧ Aside0 ((allAt mkI l0_18 i && (decide (0 ≤ a0_11) && (decide (a0_11 ≤ 1000) && (decide (0 ≤ a0_12) && (decide (a0_12 ≤ 1099511627776)))))) = r) ∧ Aside0 (One w wr #[.int .i64 a0_0, .int .i64 a0_1, .slice A0_2 l0_2.length c0_2, .int .i64 a0_3, .int .i64 a0_4, .int .i64 a0_5, .int .i64 a0_6, .slice A0_7 l0_7.length c0_7, .int .i64 a0_8, .int .i64 a0_9, .bool a0_10, .int .i64 a0_11, .int .i64 a0_12, .bool a0_13, .int .i64 a0_14, .slice A0_15 l0_15.length c0_15, .int .i64 a0_16, .int .i64 a0_17, .slice A0_18 l0_18.length c0_18] 37)) (fun v _ => ((l0_18.length : Int) - intOf v).toNat)
   case atStart => exact ⟨0, Int.le_refl _, by omega, rfl, hr, HT⟩
   case round =>
    obtain ⟨i, h0, hi, rfl, hr, HT⟩ := hrel
    have xa := blk_cell HT.out.hA
    by_cases hlt : i < (l0_18.length : Int)
    ·obtain ⟨ad0, e0, u0, u1⟩ := at_T52 (Kd.C_below HR0_18.out HT.out.hW) i h0 hlt
     cases e0
     have hs := allAt_lt mkI z52 l0_18 i h0 hlt
     change _ = ((decide (0 ≤ (rd_T52 l0_18 i).f0) && decide ((rd_T52 l0_18 i).f0 ≤ 1000000000)) && _) at hs
     have hw := wr_len HN18.out h0 hlt
     rcases (ch (decide ((rd_T52 l0_18 i).f0 < 0)) (Bool.eq_false_or_eq_true (decide (1000000000 < (rd_T52 l0_18 i).f0)))) with h1 | ⟨h1, h2 | h2⟩
     ·have hq : (decide (0 ≤ (rd_T52 l0_18 i).f0) && decide ((rd_T52 l0_18 i).f0 ≤ 1000000000)) = false := by simp only [decide_eq_true_eq, decide_eq_false_iff_not] at h1 ; simp; omega
      rw [hq, Bool.false_and] at hs
      replace hr := Aside0.mk ((congrArg (fun b => b && (decide (0 ≤ a0_11) && (decide (a0_11 ≤ 1000) && (decide (0 ≤ a0_12) && (decide (a0_12 ≤ 1099511627776)))))) hs.symm).trans hr.out)
      clear hs hq hw
      go_wp2
      repeat (go_quiet (fail); try go_wp2)
      go_ret
      exact ⟨by rw [← hr.out]; rfl, by first | exact HT.out.hW | exact pw_below_drewN HT.out.hW _⟩
     ·have hq : (decide (0 ≤ (rd_T52 l0_18 i).f0) && decide ((rd_T52 l0_18 i).f0 ≤ 1000000000)) = false := by simp only [decide_eq_true_eq, decide_eq_false_iff_not] at h1 h2; simp; omega
      rw [hq, Bool.false_and] at hs
      replace hr := Aside0.mk ((congrArg (fun b => b && (decide (0 ≤ a0_11) && (decide (a0_11 ≤ 1000) && (decide (0 ≤ a0_12) && (decide (a0_12 ≤ 1099511627776)))))) hs.symm).trans hr.out)
      clear hs hq hw
      go_wp2
      repeat (go_quiet (fail); try go_wp2)
      go_ret
      exact ⟨by rw [← hr.out]; rfl, by first | exact HT.out.hW | exact pw_below_drewN HT.out.hW _⟩
     ·have hq : (decide (0 ≤ (rd_T52 l0_18 i).f0) && decide ((rd_T52 l0_18 i).f0 ≤ 1000000000)) = true := by simp only [decide_eq_false_iff_not] at h1 h2; simp; omega
      rw [hq, Bool.true_and] at hs
      replace hr := Aside0.mk ((congrArg (fun b => b && (decide (0 ≤ a0_11) && (decide (a0_11 ≤ 1000) && (decide (0 ≤ a0_12) && (decide (a0_12 ≤ 1099511627776)))))) hs.symm).trans hr.out)
      clear hs hq
      go_wp2
      repeat (go_quiet (fail); try go_wp2)
      go_roundw
      case measure => simp [intOf, hw]; omega
      case rel => exact ⟨i + 1, by omega, by omega, by first | rfl | simp [hw], hr, by first | exact HT | exact ⟨HT.out.drewN _⟩⟩
    ·have hs := allAt_end mkI l0_18 i (by omega)
     replace hr := Aside0.mk ((congrArg (fun b => b && (decide (0 ≤ a0_11) && (decide (a0_11 ≤ 1000) && (decide (0 ≤ a0_12) && (decide (a0_12 ≤ 1099511627776)))))) hs.symm).trans hr.out)
     clear hs
     rcases (chN (decide (0 ≤ a0_11)) (chN (decide (a0_11 ≤ 1000)) (chN (decide (0 ≤ a0_12)) (Bool.eq_false_or_eq_true (decide (a0_12 ≤ 1099511627776)))))) with h1 | ⟨h1, h2 | ⟨h2, h3 | ⟨h3, h4 | h4⟩⟩⟩
     all_goals (go_wp2; go_ret; exact ⟨by rw [← hr.out]; simp [*], HT.out.hW⟩)
/-! ### governorlaw18_head: function 9 -/
/-- A sim's values in a row. -/
def tup (y : S37) := (y.f0.f0, y.f0.f1, y.f0.f2, y.f0.f3, y.f0.f4, y.f0.f5, y.f0.f6, y.f0.f7, y.f1.f0, y.f1.f1, y.f1.f2, y.f2.f0, y.f2.f1, y.f2.f2, y.f3.f0, y.f3.f1, y.f3.f2, y.f3.f3, y.f4)
theorem k_size {W : World} {x : S37} {cs : Array Value} (h : k37.K W x cs.toList) : cs.size = 19 := by have := k37.K_len h; rw [Array.length_toList] at this; exact this
theorem k_info {W : World} {x : S37} {cs : Array Value} (h : k37.K W x cs.toList) : (Try.prog.info? 37).map (·.size) = some cs.size := by rw [k_size h]; kernel_rfl
/-- A sim whose rows are the call's own. -/
def OwnX (b : Nat) (W : World) (x : S37) (cs : Array Value) : Prop := ∃ v2 v7 v15 v18 : Value, cs = #[.int .i64 x.f0.f0, .int .i64 x.f0.f1, v2, .int .i64 x.f0.f3, .int .i64 x.f0.f4, .int .i64 x.f0.f5, .int .i64 x.f0.f6, v7, .int .i64 x.f1.f0, .int .i64 x.f1.f1, .bool x.f1.f2, .int .i64 x.f2.f0, .int .i64 x.f2.f1, .bool x.f2.f2, .int .i64 x.f3.f0, v15, .int .i64 x.f3.f2, .int .i64 x.f3.f3, v18] ∧ Kd.Q k56 56 W b (fun _ => True) v2 x.f0.f2 ∧ Kd.Q k58 58 W b (fun _ => True) v7 x.f0.f7 ∧ Kd.Q (Kd.int .i64) 3 W b (fun _ => True) v15 x.f3.f1 ∧ Kd.Q k52 52 W b (fun _ => True) v18 x.f4
theorem OwnX.K {b : Nat} {W : World} {x : S37} {cs : Array Value} (h : OwnX b W x cs) : k37.K W x cs.toList := by
 obtain ⟨v2, v7, v15, v18, rfl, q2, q7, q15, q18⟩ := h
 obtain ⟨A2, c2, rfl, l2, g2⟩ := Kd.Q_reads q2
 obtain ⟨A7, c7, rfl, l7, g7⟩ := Kd.Q_reads q7
 obtain ⟨A15, c15, rfl, l15, g15⟩ := Kd.Q_reads q15
 obtain ⟨A18, c18, rfl, l18, g18⟩ := Kd.Q_reads q18
 exact k37_mk W x l2 g2 l7 g7 l15 g15 l18 g18
theorem OwnX.below {b : Nat} {W W' : World} {x : S37} {cs : Array Value} (h : OwnX b W x cs) (hb : Below W.heap.size W W') : OwnX b W' x cs := by
 obtain ⟨v2, v7, v15, v18, rfl, q2, q7, q15, q18⟩ := h
 exact ⟨v2, v7, v15, v18, rfl, Kd.Q_below q2 hb, Kd.Q_below q7 hb, Kd.Q_below q15 hb, Kd.Q_below q18 hb⟩
theorem OwnX.cells {b g : Nat} {W : World} {x : S37} {cs old : Array Value} {vs : List Value} (h : OwnX b W x cs) (z : W.heap[g]? = some (.cells old 37 (0, 0))) : OwnX b (W.setCells g 0 vs) x cs := by
 obtain ⟨v2, v7, v15, v18, rfl, q2, q7, q15, q18⟩ := h
 exact ⟨v2, v7, v15, v18, rfl, Kd.Q_cells q2 z (by decide), Kd.Q_cells q7 z (by decide), Kd.Q_cells q15 z (by decide), Kd.Q_cells q18 z (by decide)⟩
set_option maxHeartbeats 8000000 in
set_option maxRecDepth 100000 in
theorem step_w {k : Nat} {c : S23} {x y : S37} {d n : Int} {cs : Array Value} {w : World} (hx : k37.K w x cs.toList) (h : fleet_Step.f k c.f0 c.f1 c.f2 c.f3 c.f4 c.f5 c.f6 c.f7 c.f8 c.f9 c.f10 c.f11 x.f0.f0 x.f0.f1 x.f0.f2 x.f0.f3 x.f0.f4 x.f0.f5 x.f0.f6 x.f0.f7 x.f1.f0 x.f1.f1 x.f1.f2 x.f2.f0 x.f2.f1 x.f2.f2 x.f3.f0 x.f3.f1 x.f3.f2 x.f3.f3 x.f4 d n = some (tup y)) :
  Calls Try.prog 14 #[.agg #[.int .i64 c.f0, .int .i64 c.f1, .int .i64 c.f2, .int .i64 c.f3, .int .i64 c.f4, .int .i64 c.f5, .int .i64 c.f6, .int .i64 c.f7, .int .i64 c.f8, .int .i64 c.f9, .int .i64 c.f10, .int .i64 c.f11], .agg cs, .int .i64 d, .int .i64 n] w fun e w' => ∃ cs' : Array Value, e = .returned (.agg cs') ∧ OwnX w.heap.size w' y cs' ∧ Below w.heap.size w w' := by
 obtain ⟨A2, c2, A7, c7, A15, c15, A18, c18, e, l2, g2, l7, g7, l15, g15, l18, g18⟩ := k37_open hx
 obtain rfl : cs = #[.int .i64 x.f0.f0, .int .i64 x.f0.f1, .slice A2 x.f0.f2.length c2, .int .i64 x.f0.f3, .int .i64 x.f0.f4, .int .i64 x.f0.f5, .int .i64 x.f0.f6, .slice A7 x.f0.f7.length c7, .int .i64 x.f1.f0, .int .i64 x.f1.f1, .bool x.f1.f2, .int .i64 x.f2.f0, .int .i64 x.f2.f1, .bool x.f2.f2, .int .i64 x.f3.f0, .slice A15 x.f3.f1.length c15, .int .i64 x.f3.f2, .int .i64 x.f3.f3, .slice A18 x.f4.length c18] := by cases cs; simpa using e
 refine (fleet_Step.calls k _ _ _ _ _ _ _ _ _ _ _ _ _ _ _ _ _ _ _ _ _ _ _ _ _ _ _ _ _ _ _ _ _ _ _ _ _ _ _ _ _ _ _ _ _ _ _ _ _ _ _ _ _ _ _ _ _ _ _ _ w g2 l2 g7 l7 g15 l15 g18 l18 h).mono ?_
 rintro e w' ⟨v2, v7, v15, v18, rfl, q2, q7, q15, q18, hb⟩
 exact ⟨_, rfl, ⟨v2, v7, v15, v18, rfl, Kd.Q_of_R q2, Kd.Q_of_R q7, q15, q18⟩, hb⟩
set_option maxHeartbeats 8000000 in
set_option maxRecDepth 100000 in
theorem new_w {p : S27} {s : S29} {h : S31} {y : S37} {cp : Array Value} {w : World} (hp : k27.K w p cp.toList) (hf : fleet_New.f p.f0 p.f1 p.f2 p.f3 p.f4 p.f5 p.f6 p.f7 s.f0 s.f1 s.f2 h.f0 h.f1 h.f2 = some (tup y)) :
  Calls Try.prog 16 #[.agg cp, .agg #[.int .i64 s.f0, .int .i64 s.f1, .bool s.f2], .agg #[.int .i64 h.f0, .int .i64 h.f1, .bool h.f2]] w fun e w' => ∃ cs' : Array Value, e = .returned (.agg cs') ∧ OwnX w.heap.size w' y cs' ∧ Below w.heap.size w w' := by
 obtain ⟨A2, c2, A7, c7, e0, l2, g2, l7, g7⟩ := k27_open hp
 obtain rfl : cp = #[.int .i64 p.f0, .int .i64 p.f1, .slice A2 p.f2.length c2, .int .i64 p.f3, .int .i64 p.f4, .int .i64 p.f5, .int .i64 p.f6, .slice A7 p.f7.length c7] := by cases cp; simpa using e0
 refine (fleet_New.calls _ _ _ _ _ _ _ _ _ _ _ _ _ _ _ _ _ _ _ _ _ _ _ _ _ _ _ _ _ _ _ _ _ _ _ _ _ w g2 l2 g7 l7 hf).mono ?_
 rintro e w' ⟨v2, v7, v15, v18, rfl, q2, q7, q15, q18, hb⟩
 exact ⟨_, rfl, ⟨v2, v7, v15, v18, rfl, Kd.Q_of_R q2, Kd.Q_of_R q7, Kd.Q_of_R q15, Kd.Q_of_R q18⟩, hb⟩
set_option maxHeartbeats 8000000 in
set_option maxRecDepth 100000 in
theorem same_w {x y : S37} {r : Bool} {cs cs' : Array Value} {w : World} (hx : k37.K w x cs.toList) (hy : k37.K w y cs'.toList) (h : governorref18_Same.f x.f0.f0 x.f0.f1 x.f0.f2 x.f0.f3 x.f0.f4 x.f0.f5 x.f0.f6 x.f0.f7 x.f1.f0 x.f1.f1 x.f1.f2 x.f2.f0 x.f2.f1 x.f2.f2 x.f3.f0 x.f3.f1 x.f3.f2 x.f3.f3 x.f4 y.f0.f0 y.f0.f1 y.f0.f2 y.f0.f3 y.f0.f4 y.f0.f5 y.f0.f6 y.f0.f7 y.f1.f0 y.f1.f1 y.f1.f2 y.f2.f0 y.f2.f1 y.f2.f2 y.f3.f0 y.f3.f1 y.f3.f2 y.f3.f3 y.f4 = some r) :
  Calls Try.prog 13 #[.agg cs, .agg cs'] w fun e w' => e = .returned (.bool r) ∧ Below w.heap.size w w' := by
 obtain ⟨A2, c2, A7, c7, A15, c15, A18, c18, e, l2, g2, l7, g7, l15, g15, l18, g18⟩ := k37_open hx
 obtain rfl : cs = #[.int .i64 x.f0.f0, .int .i64 x.f0.f1, .slice A2 x.f0.f2.length c2, .int .i64 x.f0.f3, .int .i64 x.f0.f4, .int .i64 x.f0.f5, .int .i64 x.f0.f6, .slice A7 x.f0.f7.length c7, .int .i64 x.f1.f0, .int .i64 x.f1.f1, .bool x.f1.f2, .int .i64 x.f2.f0, .int .i64 x.f2.f1, .bool x.f2.f2, .int .i64 x.f3.f0, .slice A15 x.f3.f1.length c15, .int .i64 x.f3.f2, .int .i64 x.f3.f3, .slice A18 x.f4.length c18] := by cases cs; simpa using e
 obtain ⟨A2', c2', A7', c7', A15', c15', A18', c18', e', l2', g2', l7', g7', l15', g15', l18', g18'⟩ := k37_open hy
 obtain rfl : cs' = #[.int .i64 y.f0.f0, .int .i64 y.f0.f1, .slice A2' y.f0.f2.length c2', .int .i64 y.f0.f3, .int .i64 y.f0.f4, .int .i64 y.f0.f5, .int .i64 y.f0.f6, .slice A7' y.f0.f7.length c7', .int .i64 y.f1.f0, .int .i64 y.f1.f1, .bool y.f1.f2, .int .i64 y.f2.f0, .int .i64 y.f2.f1, .bool y.f2.f2, .int .i64 y.f3.f0, .slice A15' y.f3.f1.length c15', .int .i64 y.f3.f2, .int .i64 y.f3.f3, .slice A18' y.f4.length c18'] := by cases cs'; simpa using e'
 exact governorref18_Same.calls _ _ _ _ _ _ _ _ _ _ _ _ _ _ _ _ _ _ _ _ _ _ _ _ _ _ _ _ _ _ _ _ _ _ _ _ _ _ _ _ _ _ _ _ _ _ _ _ _ _ _ _ _ _ _ w g2 l2 g7 l7 g15 l15 g18 l18 g2' l2' g7' l7' g15' l15' g18' l18' h
def rightF (k : Nat) (x : S37) : Option Bool := governorref18_Right.f k x.f0.f0 x.f0.f1 x.f0.f2 x.f0.f3 x.f0.f4 x.f0.f5 x.f0.f6 x.f0.f7 x.f1.f0 x.f1.f1 x.f1.f2 x.f2.f0 x.f2.f1 x.f2.f2 x.f3.f0 x.f3.f1 x.f3.f2 x.f3.f3 x.f4
set_option maxHeartbeats 8000000 in
set_option maxRecDepth 100000 in
theorem right_w {k : Nat} {x : S37} {r : Bool} {cs : Array Value} {w : World} (hx : k37.K w x cs.toList) (h : rightF k x = some r) :
  Calls Try.prog 11 #[.agg cs] w fun e w' => e = .returned (.bool r) ∧ Below w.heap.size w w' := by
 obtain ⟨A2, c2, A7, c7, A15, c15, A18, c18, e, l2, g2, l7, g7, l15, g15, l18, g18⟩ := k37_open hx
 obtain rfl : cs = #[.int .i64 x.f0.f0, .int .i64 x.f0.f1, .slice A2 x.f0.f2.length c2, .int .i64 x.f0.f3, .int .i64 x.f0.f4, .int .i64 x.f0.f5, .int .i64 x.f0.f6, .slice A7 x.f0.f7.length c7, .int .i64 x.f1.f0, .int .i64 x.f1.f1, .bool x.f1.f2, .int .i64 x.f2.f0, .int .i64 x.f2.f1, .bool x.f2.f2, .int .i64 x.f3.f0, .slice A15 x.f3.f1.length c15, .int .i64 x.f3.f2, .int .i64 x.f3.f3, .slice A18 x.f4.length c18] := by cases cs; simpa using e
 exact governorref18_Right.calls k _ _ _ _ _ _ _ _ _ _ _ _ _ _ _ _ _ _ _ _ _ _ _ _ _ _ _ _ w g2 l2 g7 l7 g15 l15 g18 l18 h
/-- Sims that lie in memory, each in a block of its own. -/
def Hs (w W : World) (L : List (Nat × S37 × Array Value)) : Prop := Below w.heap.size w W ∧ ∀ t ∈ L, W.heap[t.1]? = some (.cells t.2.2 37 (0, 0)) ∧ k37.K W t.2.1 t.2.2.toList
theorem Hs.below {w W W' : World} {L : List (Nat × S37 × Array Value)} (h : Hs w W L) (hb : Below W.heap.size W W') : Hs w W' L := ⟨below_step h.1 hb, fun t ht => ⟨blk_below (h.2 t ht).1 hb, k37.K_below hb (h.2 t ht).2⟩⟩
theorem Hs.add {w W : World} {L : List (Nat × S37 × Array Value)} {g : Nat} {x : S37} {cs : Array Value} (h : Hs w W L) (hg : W.heap[g]? = some (.cells cs 37 (0, 0))) (hx : k37.K W x cs.toList) : Hs w W ((g, x, cs) :: L) := ⟨h.1, fun t ht => by
 rcases List.mem_cons.1 ht with rfl | ht
 ·exact ⟨hg, hx⟩
 ·exact h.2 t ht⟩
theorem hs_store {w W0 W : World} {L : List (Nat × S37 × Array Value)} {g b : Nat} {y : S37} {cs z : Array Value} (h : Hs w W0 L) (hb : Below W0.heap.size W0 W) (hg : W0.heap.size ≤ g) (hz : W.heap[g]? = some (.cells z 37 (0, 0))) (hs : z.size = 19) (hy : OwnX b W y cs) :
  (storeCells ⟨g, 0, none⟩ cs.toList).run Try.prog W = .ok () (W.setCells g 0 cs.toList) ∧ Below W0.heap.size W0 (W.setCells g 0 cs.toList) ∧ Hs w (W.setCells g 0 cs.toList) ((g, y, cs) :: L) := by
 have cp := cp_row (P := Try.prog) hz ((k_size hy.K).trans hs.symm) (k37.K_one hy.K)
 exact ⟨cp.1, below_cells (vs := cs.toList) hb hg, (h.below (below_cells (vs := cs.toList) hb hg)).add cp.2.1 (hy.cells hz).K⟩
def sim_x : S37 := ⟨⟨1, 1000, [], 0, 0, 0, 0, []⟩, ⟨0, 0, false⟩, ⟨2, 0, false⟩, ⟨2, [], 0, 0⟩, []⟩
def sim_y : S37 := ⟨⟨1, 1000, [], 0, 0, 0, 0, []⟩, ⟨0, 0, false⟩, ⟨1, 0, false⟩, ⟨1, [], 200, 3000⟩, [⟨1, true⟩]⟩
def sim_z : S37 := ⟨⟨1, 1000, [], 0, 0, 0, 0, []⟩, ⟨0, 0, false⟩, ⟨3, 6, true⟩, ⟨1, [2], 400, 5000⟩, [⟨1, true⟩, ⟨3, true⟩]⟩
def sim_u : S37 := ⟨⟨1, 1000, [], 0, 0, 0, 0, []⟩, ⟨0, 0, false⟩, ⟨7, 7, true⟩, ⟨3, [4], 400, 2333⟩, [⟨1, true⟩, ⟨3, true⟩, ⟨7, true⟩]⟩
def sim_n : S37 := ⟨⟨0, 0, [], 0, 0, 0, 0, []⟩, ⟨0, 0, false⟩, ⟨7, 0, false⟩, ⟨0, [], 0, 0⟩, []⟩
def plainC : S23 := ⟨1, 20, 4, 3, 100, 1, 50, 4, 2, 1, 3, 1⟩
theorem hd_new : fleet_New.f 1 1000 [] 0 0 0 0 [] 0 0 false 2 0 false = some (tup sim_x) := by rfl
theorem hd_y : fleet_Step.f 40 plainC.f0 plainC.f1 plainC.f2 plainC.f3 plainC.f4 plainC.f5 plainC.f6 plainC.f7 plainC.f8 plainC.f9 plainC.f10 plainC.f11 sim_x.f0.f0 sim_x.f0.f1 sim_x.f0.f2 sim_x.f0.f3 sim_x.f0.f4 sim_x.f0.f5 sim_x.f0.f6 sim_x.f0.f7 sim_x.f1.f0 sim_x.f1.f1 sim_x.f1.f2 sim_x.f2.f0 sim_x.f2.f1 sim_x.f2.f2 sim_x.f3.f0 sim_x.f3.f1 sim_x.f3.f2 sim_x.f3.f3 sim_x.f4 300 5 = some (tup sim_y) := by kernel_rfl
theorem hd_z : fleet_Step.f 40 plainC.f0 plainC.f1 plainC.f2 plainC.f3 plainC.f4 plainC.f5 plainC.f6 plainC.f7 plainC.f8 plainC.f9 plainC.f10 plainC.f11 sim_y.f0.f0 sim_y.f0.f1 sim_y.f0.f2 sim_y.f0.f3 sim_y.f0.f4 sim_y.f0.f5 sim_y.f0.f6 sim_y.f0.f7 sim_y.f1.f0 sim_y.f1.f1 sim_y.f1.f2 sim_y.f2.f0 sim_y.f2.f1 sim_y.f2.f2 sim_y.f3.f0 sim_y.f3.f1 sim_y.f3.f2 sim_y.f3.f3 sim_y.f4 300 6 = some (tup sim_z) := by kernel_rfl
theorem hd_u : fleet_Step.f 40 plainC.f0 plainC.f1 plainC.f2 plainC.f3 plainC.f4 plainC.f5 plainC.f6 plainC.f7 plainC.f8 plainC.f9 plainC.f10 plainC.f11 sim_z.f0.f0 sim_z.f0.f1 sim_z.f0.f2 sim_z.f0.f3 sim_z.f0.f4 sim_z.f0.f5 sim_z.f0.f6 sim_z.f0.f7 sim_z.f1.f0 sim_z.f1.f1 sim_z.f1.f2 sim_z.f2.f0 sim_z.f2.f1 sim_z.f2.f2 sim_z.f3.f0 sim_z.f3.f1 sim_z.f3.f2 sim_z.f3.f3 sim_z.f4 300 7 = some (tup sim_u) := by kernel_rfl
theorem hd_n : fleet_Step.f 40 plainC.f0 plainC.f1 plainC.f2 plainC.f3 plainC.f4 plainC.f5 plainC.f6 plainC.f7 plainC.f8 plainC.f9 plainC.f10 plainC.f11 sim_n.f0.f0 sim_n.f0.f1 sim_n.f0.f2 sim_n.f0.f3 sim_n.f0.f4 sim_n.f0.f5 sim_n.f0.f6 sim_n.f0.f7 sim_n.f1.f0 sim_n.f1.f1 sim_n.f1.f2 sim_n.f2.f0 sim_n.f2.f1 sim_n.f2.f2 sim_n.f3.f0 sim_n.f3.f1 sim_n.f3.f2 sim_n.f3.f3 sim_n.f4 300 6 = some (tup sim_n) := by kernel_rfl
theorem hd_same : governorref18_Same.f sim_n.f0.f0 sim_n.f0.f1 sim_n.f0.f2 sim_n.f0.f3 sim_n.f0.f4 sim_n.f0.f5 sim_n.f0.f6 sim_n.f0.f7 sim_n.f1.f0 sim_n.f1.f1 sim_n.f1.f2 sim_n.f2.f0 sim_n.f2.f1 sim_n.f2.f2 sim_n.f3.f0 sim_n.f3.f1 sim_n.f3.f2 sim_n.f3.f3 sim_n.f4 sim_n.f0.f0 sim_n.f0.f1 sim_n.f0.f2 sim_n.f0.f3 sim_n.f0.f4 sim_n.f0.f5 sim_n.f0.f6 sim_n.f0.f7 sim_n.f1.f0 sim_n.f1.f1 sim_n.f1.f2 sim_n.f2.f0 sim_n.f2.f1 sim_n.f2.f2 sim_n.f3.f0 sim_n.f3.f1 sim_n.f3.f2 sim_n.f3.f3 sim_n.f4 = some true := by kernel_rfl
def governorlaw18_head.f : Option Bool := some true
set_option maxHeartbeats 8000000 in
set_option maxRecDepth 100000 in
theorem governorlaw18_head.calls (r : Bool) (w : World) (h : governorlaw18_head.f = some r) :
  Calls Try.prog 9 #[] w fun e w' => e = .returned (.bool r) ∧ Below w.heap.size w w' := by
 obtain rfl := Option.some.inj h
 clear h
 have hu0 := Try.underlying69
 have hu1 := Try.underlying37
 have hu2 := Try.underlying27
 have hu3 := Try.underlying29
 have hu4 := Try.underlying23
 have hu5 := Try.underlying31
 have hu6 := Try.underlying34
 have hu7 := Try.underlying52
 have HS : Aside0 (Hs w w []) := ⟨Below.refl _ _, fun t ht => by cases ht⟩
 obtain ⟨W0, hW0⟩ : ∃ W, W = w := ⟨w, rfl⟩
 go_enter Try.func9, Try.ntmps9
 go_upto_region 1 with (fail)
 go_cut [1] (fun v wc => ∃ (g1 : Nat) (c1 : Array Value), v = .pointer (some ⟨g1, 0, none⟩) ∧ Hs w wc [(g1, sim_x, c1)])
 case first =>
  go_wp2_with (first
   | (go_at_call 16; refine (new_w (p := ⟨1, 1000, [], 0, 0, 0, 0, []⟩) (s := ⟨0, 0, false⟩) (h := ⟨2, 0, false⟩) (cp := #[.int .i64 1, .int .i64 1000, .slice none 0 0, .int .i64 0, .int .i64 0, .int .i64 0, .int .i64 0, .slice none 0 0]) (k27_mk _ _ (A2 := none) (c2 := 0) (Nat.le_refl _) (Kd.C_nil _ _) (A7 := none) (c7 := 0) (Nat.le_refl _) (Kd.C_nil _ _)) hd_new).mono ?_; rintro e_ w1 ⟨c1, rfl, own, hb⟩; have hsz := k_size own.K; have HO := Aside0.mk own; have HB := Aside0.mk hb; clear own hb)
   | ((with_reducible refine gate_dst (N := 1) rfl ?_); refine box_event ?hg (N := 1) ?hd (cs := #[.int .i64 0, .int .i64 0, .slice none 0 0, .int .i64 0, .int .i64 0, .int .i64 0, .int .i64 0, .slice none 0 0, .int .i64 0, .int .i64 0, .bool false, .int .i64 0, .int .i64 0, .bool false, .int .i64 0, .slice none 0 0, .int .i64 0, .int .i64 0, .slice none 0 0]) (t := 37) ?hr ?_; (case hd => rfl); (case hg => rfl); (case hr => first | (go_simp; done) | (go_simp; rfl)); intro g1 hg w2 FZ hb; obtain ⟨hst, _, hn⟩ := hs_store HS.out (below_step HB.out hb) (by rw [hg]; exact HB.out.size) FZ rfl (HO.out.below hb); have HN := Aside0.mk hn; clear hn FZ hb hg))
  go_meet
  exact ⟨g1, c1, rfl, HN.out⟩
 case rest =>
  obtain ⟨g1, c1, rfl, hn⟩ := hcut
  clear HS hW0
  have HS := Aside0.mk hn
  clear hn
  generalize wc = W0 at HS ⊢
  go_upto_region 2 with (fail)
  go_cut [2] (fun v wc => ∃ (g : Nat) (cs : Array Value), v = .pointer (some ⟨g, 0, none⟩) ∧ Hs w wc ((g, sim_y, cs) :: (g1, sim_x, c1) :: []))
  case first =>
   have FX := (HS.out.2 (g1, sim_x, c1) (by simp)).1
   have HX := Aside0.mk (HS.out.2 (g1, sim_x, c1) (by simp)).2
   refine start_ (n := 5) (S := fun w' => w'.heap[g1]? = some (.cells c1 37 (0, 0))) (ds := []) #[false, false, false, false, false] (by kernel_rfl) rfl rfl FX (fun hHeld => ?_)
   have FB := below_drew1 (Below.refl W0.heap.size W0)
   replace FX := blk_below FX FB
   generalize W0.drew = w9 at FB FX hHeld ⊢
   refine take_ (i := 1) (N := some 11) (v := .agg c1) (a' := ?_) #[false, true, false, false, false] rfl rfl (by kernel_rfl) (fun _ _ _ h => h) (yields_row (by rfl) 37 (.tmp 1) rfl g1 rfl c1 _ (fun w' hS => range_row hS) hu1 rfl (k_info HX.out)) hHeld ?_ ?_
   rotate_left
   ·simp only [Act.put, List.setIfInBounds_toArray, List.set_cons_zero, List.set_cons_succ, i64_w, i32_w]
    rfl
   refine two_ (i := 0) (j := 3) (Ni := some 10) (Nj := some 2) #[true, true, false, false, false] #[false, true, false, true, false] rfl rfl rfl rfl (by kernel_rfl) (by decide) (by decide) (fun K hK => ?_) (fun K hK => ?_)
   ·skip
    refine goes_ Try.func22 (by kernel_rfl) rfl #[] (by rfl) rfl rfl (by (try simp only [List.map_toArray, List.map_cons, List.map_nil]); first | done | rfl) ?_
    refine (governorlaw09_Plain.calls _ _ _ _ _ _ _ _ _ _ _ _ _ rfl).mono ?_
    rintro e_ w_ ⟨rfl, hb⟩
    refine ⟨_, rfl, ?_⟩
    replace FB := below_step FB hb
    replace FX := blk_below FX hb
    clear hb
    refine hK.out _ _ FX (fun hHeld => ?_)
    clear hK K
    refine no_ 10 ?_
    refine two_ (i := 2) (j := 3) (Ni := some 12) (Nj := some 2) #[true, true, true, false, false] #[true, true, false, true, false] rfl rfl rfl rfl (by kernel_rfl) (by decide) (by decide) (fun K hK => ?_) (fun K hK => ?_)
    ·skip
     refine goes_ Try.func14 (by kernel_rfl) rfl #[.agg #[.int .i64 1, .int .i64 20, .int .i64 4, .int .i64 3, .int .i64 100, .int .i64 1, .int .i64 50, .int .i64 4, .int .i64 2, .int .i64 1, .int .i64 3, .int .i64 1], .agg c1, .int .i64 300, .int .i64 5] (by rfl) rfl rfl (by (try simp only [List.map_toArray, List.map_cons, List.map_nil]); first | done | rfl) ?_
     refine (step_w (k := 40) (c := plainC) (k37.K_below FB HX.out) hd_y).mono ?_
     rintro e_ w_ ⟨c2, rfl, FO, hb⟩
     refine ⟨_, rfl, ?_⟩
     replace FB := below_step FB hb
     replace FX := blk_below FX hb
     clear hb
     refine hK.out _ _ FX (fun hHeld => ?_)
     clear hK K
     refine no_ 12 ?_
     refine one_ (i := 3) (N := some 2) #[true, true, true, true, false] rfl rfl (by kernel_rfl) (by decide) (fun K hK => ?_)
     refine box_step ?hg (N := 2) ?hd (cs := #[.int .i64 0, .int .i64 0, .slice none 0 0, .int .i64 0, .int .i64 0, .int .i64 0, .int .i64 0, .slice none 0 0, .int .i64 0, .int .i64 0, .bool false, .int .i64 0, .int .i64 0, .bool false, .int .i64 0, .slice none 0 0, .int .i64 0, .int .i64 0, .slice none 0 0]) (t := 37) ?hr ?_; (case hd => rfl); (case hg => rfl); (case hr => first | (go_simp; done) | (go_simp; rfl))
     intro g2 e_ w_ FZ hb
     have hge : W0.heap.size ≤ g2 := by rw [e_]; exact FB.size
     clear e_
     replace FB := below_step FB hb
     replace FX := blk_below FX hb
     replace FO := FO.below hb
     clear hb
     refine hK.out _ _ FX (fun hHeld => ?_)
     clear hK K
     refine no_ 2 ?_
     refine one_ (i := 4) (N := none) #[true, true, true, true, true] rfl rfl (by kernel_rfl) (by decide) (fun K hK => ?_)
     obtain ⟨hst, _, hn⟩ := hs_store HS.out FB hge FZ rfl FO
     have HN := Aside0.mk hn
     clear hn
     have hsz := k_size FO.K
     refine skip_ (w1 := ?_) (by rfl) rfl ?_ ?_
     rotate_left
     ·go_simp
      rfl
     clear hst FZ FO FB hsz
     replace FX := (HN.out.2 (g1, sim_x, c1) (by simp)).1
     refine hK.out _ _ FX (fun hHeld => ?_)
     clear hK K
     refine done_ (by kernel_rfl) ?_
     (try go_wp2)
     go_meet
     exact ⟨g2, c2, rfl, HN.out⟩
    ·skip
     refine box_step ?hg (N := 2) ?hd (cs := #[.int .i64 0, .int .i64 0, .slice none 0 0, .int .i64 0, .int .i64 0, .int .i64 0, .int .i64 0, .slice none 0 0, .int .i64 0, .int .i64 0, .bool false, .int .i64 0, .int .i64 0, .bool false, .int .i64 0, .slice none 0 0, .int .i64 0, .int .i64 0, .slice none 0 0]) (t := 37) ?hr ?_; (case hd => rfl); (case hg => rfl); (case hr => first | (go_simp; done) | (go_simp; rfl))
     intro g2 e_ w_ FZ hb
     have hge : W0.heap.size ≤ g2 := by rw [e_]; exact FB.size
     clear e_
     replace FB := below_step FB hb
     replace FX := blk_below FX hb
     clear hb
     refine hK.out _ _ FX (fun hHeld => ?_)
     clear hK K
     refine no_ 2 ?_
     refine one_ (i := 2) (N := some 12) #[true, true, true, true, false] rfl rfl (by kernel_rfl) (by decide) (fun K hK => ?_)
     refine goes_ Try.func14 (by kernel_rfl) rfl #[.agg #[.int .i64 1, .int .i64 20, .int .i64 4, .int .i64 3, .int .i64 100, .int .i64 1, .int .i64 50, .int .i64 4, .int .i64 2, .int .i64 1, .int .i64 3, .int .i64 1], .agg c1, .int .i64 300, .int .i64 5] (by rfl) rfl rfl (by (try simp only [List.map_toArray, List.map_cons, List.map_nil]); first | done | rfl) ?_
     refine (step_w (k := 40) (c := plainC) (k37.K_below FB HX.out) hd_y).mono ?_
     rintro e_ w_ ⟨c2, rfl, FO, hb⟩
     refine ⟨_, rfl, ?_⟩
     replace FB := below_step FB hb
     replace FX := blk_below FX hb
     replace FZ := blk_below FZ hb
     clear hb
     refine hK.out _ _ FX (fun hHeld => ?_)
     clear hK K
     refine no_ 12 ?_
     refine one_ (i := 4) (N := none) #[true, true, true, true, true] rfl rfl (by kernel_rfl) (by decide) (fun K hK => ?_)
     obtain ⟨hst, _, hn⟩ := hs_store HS.out FB hge FZ rfl FO
     have HN := Aside0.mk hn
     clear hn
     have hsz := k_size FO.K
     refine skip_ (w1 := ?_) (by rfl) rfl ?_ ?_
     rotate_left
     ·go_simp
      rfl
     clear hst FZ FO FB hsz
     replace FX := (HN.out.2 (g1, sim_x, c1) (by simp)).1
     refine hK.out _ _ FX (fun hHeld => ?_)
     clear hK K
     refine done_ (by kernel_rfl) ?_
     (try go_wp2)
     go_meet
     exact ⟨g2, c2, rfl, HN.out⟩
   ·skip
    refine box_step ?hg (N := 2) ?hd (cs := #[.int .i64 0, .int .i64 0, .slice none 0 0, .int .i64 0, .int .i64 0, .int .i64 0, .int .i64 0, .slice none 0 0, .int .i64 0, .int .i64 0, .bool false, .int .i64 0, .int .i64 0, .bool false, .int .i64 0, .slice none 0 0, .int .i64 0, .int .i64 0, .slice none 0 0]) (t := 37) ?hr ?_; (case hd => rfl); (case hg => rfl); (case hr => first | (go_simp; done) | (go_simp; rfl))
    intro g2 e_ w_ FZ hb
    have hge : W0.heap.size ≤ g2 := by rw [e_]; exact FB.size
    clear e_
    replace FB := below_step FB hb
    replace FX := blk_below FX hb
    clear hb
    refine hK.out _ _ FX (fun hHeld => ?_)
    clear hK K
    refine no_ 2 ?_
    refine one_ (i := 0) (N := some 10) #[true, true, false, true, false] rfl rfl (by kernel_rfl) (by decide) (fun K hK => ?_)
    refine goes_ Try.func22 (by kernel_rfl) rfl #[] (by rfl) rfl rfl (by (try simp only [List.map_toArray, List.map_cons, List.map_nil]); first | done | rfl) ?_
    refine (governorlaw09_Plain.calls _ _ _ _ _ _ _ _ _ _ _ _ _ rfl).mono ?_
    rintro e_ w_ ⟨rfl, hb⟩
    refine ⟨_, rfl, ?_⟩
    replace FB := below_step FB hb
    replace FX := blk_below FX hb
    replace FZ := blk_below FZ hb
    clear hb
    refine hK.out _ _ FX (fun hHeld => ?_)
    clear hK K
    refine no_ 10 ?_
    refine one_ (i := 2) (N := some 12) #[true, true, true, true, false] rfl rfl (by kernel_rfl) (by decide) (fun K hK => ?_)
    refine goes_ Try.func14 (by kernel_rfl) rfl #[.agg #[.int .i64 1, .int .i64 20, .int .i64 4, .int .i64 3, .int .i64 100, .int .i64 1, .int .i64 50, .int .i64 4, .int .i64 2, .int .i64 1, .int .i64 3, .int .i64 1], .agg c1, .int .i64 300, .int .i64 5] (by rfl) rfl rfl (by (try simp only [List.map_toArray, List.map_cons, List.map_nil]); first | done | rfl) ?_
    refine (step_w (k := 40) (c := plainC) (k37.K_below FB HX.out) hd_y).mono ?_
    rintro e_ w_ ⟨c2, rfl, FO, hb⟩
    refine ⟨_, rfl, ?_⟩
    replace FB := below_step FB hb
    replace FX := blk_below FX hb
    replace FZ := blk_below FZ hb
    clear hb
    refine hK.out _ _ FX (fun hHeld => ?_)
    clear hK K
    refine no_ 12 ?_
    refine one_ (i := 4) (N := none) #[true, true, true, true, true] rfl rfl (by kernel_rfl) (by decide) (fun K hK => ?_)
    obtain ⟨hst, _, hn⟩ := hs_store HS.out FB hge FZ rfl FO
    have HN := Aside0.mk hn
    clear hn
    have hsz := k_size FO.K
    refine skip_ (w1 := ?_) (by rfl) rfl ?_ ?_
    rotate_left
    ·go_simp
     rfl
    clear hst FZ FO FB hsz
    replace FX := (HN.out.2 (g1, sim_x, c1) (by simp)).1
    refine hK.out _ _ FX (fun hHeld => ?_)
    clear hK K
    refine done_ (by kernel_rfl) ?_
    (try go_wp2)
    go_meet
    exact ⟨g2, c2, rfl, HN.out⟩
  case rest =>
   obtain ⟨g2, c2, rfl, hn⟩ := hcut
   clear HS
   have HS := Aside0.mk hn
   clear hn
   generalize wc = W0 at HS ⊢
   go_upto_region 3 with (fail)
   go_cut [3] (fun v wc => ∃ (g : Nat) (cs : Array Value), v = .pointer (some ⟨g, 0, none⟩) ∧ Hs w wc ((g, sim_z, cs) :: (g2, sim_y, c2) :: (g1, sim_x, c1) :: []))
   case first =>
    have FX := (HS.out.2 (g2, sim_y, c2) (by simp)).1
    have HX := Aside0.mk (HS.out.2 (g2, sim_y, c2) (by simp)).2
    refine start_ (n := 5) (S := fun w' => w'.heap[g2]? = some (.cells c2 37 (0, 0))) (ds := []) #[false, false, false, false, false] (by kernel_rfl) rfl rfl FX (fun hHeld => ?_)
    have FB := below_drew1 (Below.refl W0.heap.size W0)
    replace FX := blk_below FX FB
    generalize W0.drew = w9 at FB FX hHeld ⊢
    refine take_ (i := 1) (N := some 14) (v := .agg c2) (a' := ?_) #[false, true, false, false, false] rfl rfl (by kernel_rfl) (fun _ _ _ h => h) (yields_row (by rfl) 37 (.tmp 2) rfl g2 rfl c2 _ (fun w' hS => range_row hS) hu1 rfl (k_info HX.out)) hHeld ?_ ?_
    rotate_left
    ·simp only [Act.put, List.setIfInBounds_toArray, List.set_cons_zero, List.set_cons_succ, i64_w, i32_w]
     rfl
    refine two_ (i := 0) (j := 3) (Ni := some 13) (Nj := some 3) #[true, true, false, false, false] #[false, true, false, true, false] rfl rfl rfl rfl (by kernel_rfl) (by decide) (by decide) (fun K hK => ?_) (fun K hK => ?_)
    ·skip
     refine goes_ Try.func22 (by kernel_rfl) rfl #[] (by rfl) rfl rfl (by (try simp only [List.map_toArray, List.map_cons, List.map_nil]); first | done | rfl) ?_
     refine (governorlaw09_Plain.calls _ _ _ _ _ _ _ _ _ _ _ _ _ rfl).mono ?_
     rintro e_ w_ ⟨rfl, hb⟩
     refine ⟨_, rfl, ?_⟩
     replace FB := below_step FB hb
     replace FX := blk_below FX hb
     clear hb
     refine hK.out _ _ FX (fun hHeld => ?_)
     clear hK K
     refine no_ 13 ?_
     refine two_ (i := 2) (j := 3) (Ni := some 15) (Nj := some 3) #[true, true, true, false, false] #[true, true, false, true, false] rfl rfl rfl rfl (by kernel_rfl) (by decide) (by decide) (fun K hK => ?_) (fun K hK => ?_)
     ·skip
      refine goes_ Try.func14 (by kernel_rfl) rfl #[.agg #[.int .i64 1, .int .i64 20, .int .i64 4, .int .i64 3, .int .i64 100, .int .i64 1, .int .i64 50, .int .i64 4, .int .i64 2, .int .i64 1, .int .i64 3, .int .i64 1], .agg c2, .int .i64 300, .int .i64 6] (by rfl) rfl rfl (by (try simp only [List.map_toArray, List.map_cons, List.map_nil]); first | done | rfl) ?_
      refine (step_w (k := 40) (c := plainC) (k37.K_below FB HX.out) hd_z).mono ?_
      rintro e_ w_ ⟨c3, rfl, FO, hb⟩
      refine ⟨_, rfl, ?_⟩
      replace FB := below_step FB hb
      replace FX := blk_below FX hb
      clear hb
      refine hK.out _ _ FX (fun hHeld => ?_)
      clear hK K
      refine no_ 15 ?_
      refine one_ (i := 3) (N := some 3) #[true, true, true, true, false] rfl rfl (by kernel_rfl) (by decide) (fun K hK => ?_)
      refine box_step ?hg (N := 3) ?hd (cs := #[.int .i64 0, .int .i64 0, .slice none 0 0, .int .i64 0, .int .i64 0, .int .i64 0, .int .i64 0, .slice none 0 0, .int .i64 0, .int .i64 0, .bool false, .int .i64 0, .int .i64 0, .bool false, .int .i64 0, .slice none 0 0, .int .i64 0, .int .i64 0, .slice none 0 0]) (t := 37) ?hr ?_; (case hd => rfl); (case hg => rfl); (case hr => first | (go_simp; done) | (go_simp; rfl))
      intro g3 e_ w_ FZ hb
      have hge : W0.heap.size ≤ g3 := by rw [e_]; exact FB.size
      clear e_
      replace FB := below_step FB hb
      replace FX := blk_below FX hb
      replace FO := FO.below hb
      clear hb
      refine hK.out _ _ FX (fun hHeld => ?_)
      clear hK K
      refine no_ 3 ?_
      refine one_ (i := 4) (N := none) #[true, true, true, true, true] rfl rfl (by kernel_rfl) (by decide) (fun K hK => ?_)
      obtain ⟨hst, _, hn⟩ := hs_store HS.out FB hge FZ rfl FO
      have HN := Aside0.mk hn
      clear hn
      have hsz := k_size FO.K
      refine skip_ (w1 := ?_) (by rfl) rfl ?_ ?_
      rotate_left
      ·go_simp
       rfl
      clear hst FZ FO FB hsz
      replace FX := (HN.out.2 (g2, sim_y, c2) (by simp)).1
      refine hK.out _ _ FX (fun hHeld => ?_)
      clear hK K
      refine done_ (by kernel_rfl) ?_
      (try go_wp2)
      go_meet
      exact ⟨g3, c3, rfl, HN.out⟩
     ·skip
      refine box_step ?hg (N := 3) ?hd (cs := #[.int .i64 0, .int .i64 0, .slice none 0 0, .int .i64 0, .int .i64 0, .int .i64 0, .int .i64 0, .slice none 0 0, .int .i64 0, .int .i64 0, .bool false, .int .i64 0, .int .i64 0, .bool false, .int .i64 0, .slice none 0 0, .int .i64 0, .int .i64 0, .slice none 0 0]) (t := 37) ?hr ?_; (case hd => rfl); (case hg => rfl); (case hr => first | (go_simp; done) | (go_simp; rfl))
      intro g3 e_ w_ FZ hb
      have hge : W0.heap.size ≤ g3 := by rw [e_]; exact FB.size
      clear e_
      replace FB := below_step FB hb
      replace FX := blk_below FX hb
      clear hb
      refine hK.out _ _ FX (fun hHeld => ?_)
      clear hK K
      refine no_ 3 ?_
      refine one_ (i := 2) (N := some 15) #[true, true, true, true, false] rfl rfl (by kernel_rfl) (by decide) (fun K hK => ?_)
      refine goes_ Try.func14 (by kernel_rfl) rfl #[.agg #[.int .i64 1, .int .i64 20, .int .i64 4, .int .i64 3, .int .i64 100, .int .i64 1, .int .i64 50, .int .i64 4, .int .i64 2, .int .i64 1, .int .i64 3, .int .i64 1], .agg c2, .int .i64 300, .int .i64 6] (by rfl) rfl rfl (by (try simp only [List.map_toArray, List.map_cons, List.map_nil]); first | done | rfl) ?_
      refine (step_w (k := 40) (c := plainC) (k37.K_below FB HX.out) hd_z).mono ?_
      rintro e_ w_ ⟨c3, rfl, FO, hb⟩
      refine ⟨_, rfl, ?_⟩
      replace FB := below_step FB hb
      replace FX := blk_below FX hb
      replace FZ := blk_below FZ hb
      clear hb
      refine hK.out _ _ FX (fun hHeld => ?_)
      clear hK K
      refine no_ 15 ?_
      refine one_ (i := 4) (N := none) #[true, true, true, true, true] rfl rfl (by kernel_rfl) (by decide) (fun K hK => ?_)
      obtain ⟨hst, _, hn⟩ := hs_store HS.out FB hge FZ rfl FO
      have HN := Aside0.mk hn
      clear hn
      have hsz := k_size FO.K
      refine skip_ (w1 := ?_) (by rfl) rfl ?_ ?_
      rotate_left
      ·go_simp
       rfl
      clear hst FZ FO FB hsz
      replace FX := (HN.out.2 (g2, sim_y, c2) (by simp)).1
      refine hK.out _ _ FX (fun hHeld => ?_)
      clear hK K
      refine done_ (by kernel_rfl) ?_
      (try go_wp2)
      go_meet
      exact ⟨g3, c3, rfl, HN.out⟩
    ·skip
     refine box_step ?hg (N := 3) ?hd (cs := #[.int .i64 0, .int .i64 0, .slice none 0 0, .int .i64 0, .int .i64 0, .int .i64 0, .int .i64 0, .slice none 0 0, .int .i64 0, .int .i64 0, .bool false, .int .i64 0, .int .i64 0, .bool false, .int .i64 0, .slice none 0 0, .int .i64 0, .int .i64 0, .slice none 0 0]) (t := 37) ?hr ?_; (case hd => rfl); (case hg => rfl); (case hr => first | (go_simp; done) | (go_simp; rfl))
     intro g3 e_ w_ FZ hb
     have hge : W0.heap.size ≤ g3 := by rw [e_]; exact FB.size
     clear e_
     replace FB := below_step FB hb
     replace FX := blk_below FX hb
     clear hb
     refine hK.out _ _ FX (fun hHeld => ?_)
     clear hK K
     refine no_ 3 ?_
     refine one_ (i := 0) (N := some 13) #[true, true, false, true, false] rfl rfl (by kernel_rfl) (by decide) (fun K hK => ?_)
     refine goes_ Try.func22 (by kernel_rfl) rfl #[] (by rfl) rfl rfl (by (try simp only [List.map_toArray, List.map_cons, List.map_nil]); first | done | rfl) ?_
     refine (governorlaw09_Plain.calls _ _ _ _ _ _ _ _ _ _ _ _ _ rfl).mono ?_
     rintro e_ w_ ⟨rfl, hb⟩
     refine ⟨_, rfl, ?_⟩
     replace FB := below_step FB hb
     replace FX := blk_below FX hb
     replace FZ := blk_below FZ hb
     clear hb
     refine hK.out _ _ FX (fun hHeld => ?_)
     clear hK K
     refine no_ 13 ?_
     refine one_ (i := 2) (N := some 15) #[true, true, true, true, false] rfl rfl (by kernel_rfl) (by decide) (fun K hK => ?_)
     refine goes_ Try.func14 (by kernel_rfl) rfl #[.agg #[.int .i64 1, .int .i64 20, .int .i64 4, .int .i64 3, .int .i64 100, .int .i64 1, .int .i64 50, .int .i64 4, .int .i64 2, .int .i64 1, .int .i64 3, .int .i64 1], .agg c2, .int .i64 300, .int .i64 6] (by rfl) rfl rfl (by (try simp only [List.map_toArray, List.map_cons, List.map_nil]); first | done | rfl) ?_
     refine (step_w (k := 40) (c := plainC) (k37.K_below FB HX.out) hd_z).mono ?_
     rintro e_ w_ ⟨c3, rfl, FO, hb⟩
     refine ⟨_, rfl, ?_⟩
     replace FB := below_step FB hb
     replace FX := blk_below FX hb
     replace FZ := blk_below FZ hb
     clear hb
     refine hK.out _ _ FX (fun hHeld => ?_)
     clear hK K
     refine no_ 15 ?_
     refine one_ (i := 4) (N := none) #[true, true, true, true, true] rfl rfl (by kernel_rfl) (by decide) (fun K hK => ?_)
     obtain ⟨hst, _, hn⟩ := hs_store HS.out FB hge FZ rfl FO
     have HN := Aside0.mk hn
     clear hn
     have hsz := k_size FO.K
     refine skip_ (w1 := ?_) (by rfl) rfl ?_ ?_
     rotate_left
     ·go_simp
      rfl
     clear hst FZ FO FB hsz
     replace FX := (HN.out.2 (g2, sim_y, c2) (by simp)).1
     refine hK.out _ _ FX (fun hHeld => ?_)
     clear hK K
     refine done_ (by kernel_rfl) ?_
     (try go_wp2)
     go_meet
     exact ⟨g3, c3, rfl, HN.out⟩
   case rest =>
    obtain ⟨g3, c3, rfl, hn⟩ := hcut
    clear HS
    have HS := Aside0.mk hn
    clear hn
    generalize wc = W0 at HS ⊢
    go_upto_region 4 with (fail)
    go_cut [4] (fun v wc => ∃ (g : Nat) (cs : Array Value), v = .pointer (some ⟨g, 0, none⟩) ∧ Hs w wc ((g, sim_u, cs) :: (g3, sim_z, c3) :: (g2, sim_y, c2) :: (g1, sim_x, c1) :: []))
    case first =>
     have FX := (HS.out.2 (g3, sim_z, c3) (by simp)).1
     have HX := Aside0.mk (HS.out.2 (g3, sim_z, c3) (by simp)).2
     refine start_ (n := 5) (S := fun w' => w'.heap[g3]? = some (.cells c3 37 (0, 0))) (ds := []) #[false, false, false, false, false] (by kernel_rfl) rfl rfl FX (fun hHeld => ?_)
     have FB := below_drew1 (Below.refl W0.heap.size W0)
     replace FX := blk_below FX FB
     generalize W0.drew = w9 at FB FX hHeld ⊢
     refine take_ (i := 1) (N := some 17) (v := .agg c3) (a' := ?_) #[false, true, false, false, false] rfl rfl (by kernel_rfl) (fun _ _ _ h => h) (yields_row (by rfl) 37 (.tmp 3) rfl g3 rfl c3 _ (fun w' hS => range_row hS) hu1 rfl (k_info HX.out)) hHeld ?_ ?_
     rotate_left
     ·simp only [Act.put, List.setIfInBounds_toArray, List.set_cons_zero, List.set_cons_succ, i64_w, i32_w]
      rfl
     refine two_ (i := 0) (j := 3) (Ni := some 16) (Nj := some 4) #[true, true, false, false, false] #[false, true, false, true, false] rfl rfl rfl rfl (by kernel_rfl) (by decide) (by decide) (fun K hK => ?_) (fun K hK => ?_)
     ·skip
      refine goes_ Try.func22 (by kernel_rfl) rfl #[] (by rfl) rfl rfl (by (try simp only [List.map_toArray, List.map_cons, List.map_nil]); first | done | rfl) ?_
      refine (governorlaw09_Plain.calls _ _ _ _ _ _ _ _ _ _ _ _ _ rfl).mono ?_
      rintro e_ w_ ⟨rfl, hb⟩
      refine ⟨_, rfl, ?_⟩
      replace FB := below_step FB hb
      replace FX := blk_below FX hb
      clear hb
      refine hK.out _ _ FX (fun hHeld => ?_)
      clear hK K
      refine no_ 16 ?_
      refine two_ (i := 2) (j := 3) (Ni := some 18) (Nj := some 4) #[true, true, true, false, false] #[true, true, false, true, false] rfl rfl rfl rfl (by kernel_rfl) (by decide) (by decide) (fun K hK => ?_) (fun K hK => ?_)
      ·skip
       refine goes_ Try.func14 (by kernel_rfl) rfl #[.agg #[.int .i64 1, .int .i64 20, .int .i64 4, .int .i64 3, .int .i64 100, .int .i64 1, .int .i64 50, .int .i64 4, .int .i64 2, .int .i64 1, .int .i64 3, .int .i64 1], .agg c3, .int .i64 300, .int .i64 7] (by rfl) rfl rfl (by (try simp only [List.map_toArray, List.map_cons, List.map_nil]); first | done | rfl) ?_
       refine (step_w (k := 40) (c := plainC) (k37.K_below FB HX.out) hd_u).mono ?_
       rintro e_ w_ ⟨c4, rfl, FO, hb⟩
       refine ⟨_, rfl, ?_⟩
       replace FB := below_step FB hb
       replace FX := blk_below FX hb
       clear hb
       refine hK.out _ _ FX (fun hHeld => ?_)
       clear hK K
       refine no_ 18 ?_
       refine one_ (i := 3) (N := some 4) #[true, true, true, true, false] rfl rfl (by kernel_rfl) (by decide) (fun K hK => ?_)
       refine box_step ?hg (N := 4) ?hd (cs := #[.int .i64 0, .int .i64 0, .slice none 0 0, .int .i64 0, .int .i64 0, .int .i64 0, .int .i64 0, .slice none 0 0, .int .i64 0, .int .i64 0, .bool false, .int .i64 0, .int .i64 0, .bool false, .int .i64 0, .slice none 0 0, .int .i64 0, .int .i64 0, .slice none 0 0]) (t := 37) ?hr ?_; (case hd => rfl); (case hg => rfl); (case hr => first | (go_simp; done) | (go_simp; rfl))
       intro g4 e_ w_ FZ hb
       have hge : W0.heap.size ≤ g4 := by rw [e_]; exact FB.size
       clear e_
       replace FB := below_step FB hb
       replace FX := blk_below FX hb
       replace FO := FO.below hb
       clear hb
       refine hK.out _ _ FX (fun hHeld => ?_)
       clear hK K
       refine no_ 4 ?_
       refine one_ (i := 4) (N := none) #[true, true, true, true, true] rfl rfl (by kernel_rfl) (by decide) (fun K hK => ?_)
       obtain ⟨hst, _, hn⟩ := hs_store HS.out FB hge FZ rfl FO
       have HN := Aside0.mk hn
       clear hn
       have hsz := k_size FO.K
       refine skip_ (w1 := ?_) (by rfl) rfl ?_ ?_
       rotate_left
       ·go_simp
        rfl
       clear hst FZ FO FB hsz
       replace FX := (HN.out.2 (g3, sim_z, c3) (by simp)).1
       refine hK.out _ _ FX (fun hHeld => ?_)
       clear hK K
       refine done_ (by kernel_rfl) ?_
       (try go_wp2)
       go_meet
       exact ⟨g4, c4, rfl, HN.out⟩
      ·skip
       refine box_step ?hg (N := 4) ?hd (cs := #[.int .i64 0, .int .i64 0, .slice none 0 0, .int .i64 0, .int .i64 0, .int .i64 0, .int .i64 0, .slice none 0 0, .int .i64 0, .int .i64 0, .bool false, .int .i64 0, .int .i64 0, .bool false, .int .i64 0, .slice none 0 0, .int .i64 0, .int .i64 0, .slice none 0 0]) (t := 37) ?hr ?_; (case hd => rfl); (case hg => rfl); (case hr => first | (go_simp; done) | (go_simp; rfl))
       intro g4 e_ w_ FZ hb
       have hge : W0.heap.size ≤ g4 := by rw [e_]; exact FB.size
       clear e_
       replace FB := below_step FB hb
       replace FX := blk_below FX hb
       clear hb
       refine hK.out _ _ FX (fun hHeld => ?_)
       clear hK K
       refine no_ 4 ?_
       refine one_ (i := 2) (N := some 18) #[true, true, true, true, false] rfl rfl (by kernel_rfl) (by decide) (fun K hK => ?_)
       refine goes_ Try.func14 (by kernel_rfl) rfl #[.agg #[.int .i64 1, .int .i64 20, .int .i64 4, .int .i64 3, .int .i64 100, .int .i64 1, .int .i64 50, .int .i64 4, .int .i64 2, .int .i64 1, .int .i64 3, .int .i64 1], .agg c3, .int .i64 300, .int .i64 7] (by rfl) rfl rfl (by (try simp only [List.map_toArray, List.map_cons, List.map_nil]); first | done | rfl) ?_
       refine (step_w (k := 40) (c := plainC) (k37.K_below FB HX.out) hd_u).mono ?_
       rintro e_ w_ ⟨c4, rfl, FO, hb⟩
       refine ⟨_, rfl, ?_⟩
       replace FB := below_step FB hb
       replace FX := blk_below FX hb
       replace FZ := blk_below FZ hb
       clear hb
       refine hK.out _ _ FX (fun hHeld => ?_)
       clear hK K
       refine no_ 18 ?_
       refine one_ (i := 4) (N := none) #[true, true, true, true, true] rfl rfl (by kernel_rfl) (by decide) (fun K hK => ?_)
       obtain ⟨hst, _, hn⟩ := hs_store HS.out FB hge FZ rfl FO
       have HN := Aside0.mk hn
       clear hn
       have hsz := k_size FO.K
       refine skip_ (w1 := ?_) (by rfl) rfl ?_ ?_
       rotate_left
       ·go_simp
        rfl
       clear hst FZ FO FB hsz
       replace FX := (HN.out.2 (g3, sim_z, c3) (by simp)).1
       refine hK.out _ _ FX (fun hHeld => ?_)
       clear hK K
       refine done_ (by kernel_rfl) ?_
       (try go_wp2)
       go_meet
       exact ⟨g4, c4, rfl, HN.out⟩
     ·skip
      refine box_step ?hg (N := 4) ?hd (cs := #[.int .i64 0, .int .i64 0, .slice none 0 0, .int .i64 0, .int .i64 0, .int .i64 0, .int .i64 0, .slice none 0 0, .int .i64 0, .int .i64 0, .bool false, .int .i64 0, .int .i64 0, .bool false, .int .i64 0, .slice none 0 0, .int .i64 0, .int .i64 0, .slice none 0 0]) (t := 37) ?hr ?_; (case hd => rfl); (case hg => rfl); (case hr => first | (go_simp; done) | (go_simp; rfl))
      intro g4 e_ w_ FZ hb
      have hge : W0.heap.size ≤ g4 := by rw [e_]; exact FB.size
      clear e_
      replace FB := below_step FB hb
      replace FX := blk_below FX hb
      clear hb
      refine hK.out _ _ FX (fun hHeld => ?_)
      clear hK K
      refine no_ 4 ?_
      refine one_ (i := 0) (N := some 16) #[true, true, false, true, false] rfl rfl (by kernel_rfl) (by decide) (fun K hK => ?_)
      refine goes_ Try.func22 (by kernel_rfl) rfl #[] (by rfl) rfl rfl (by (try simp only [List.map_toArray, List.map_cons, List.map_nil]); first | done | rfl) ?_
      refine (governorlaw09_Plain.calls _ _ _ _ _ _ _ _ _ _ _ _ _ rfl).mono ?_
      rintro e_ w_ ⟨rfl, hb⟩
      refine ⟨_, rfl, ?_⟩
      replace FB := below_step FB hb
      replace FX := blk_below FX hb
      replace FZ := blk_below FZ hb
      clear hb
      refine hK.out _ _ FX (fun hHeld => ?_)
      clear hK K
      refine no_ 16 ?_
      refine one_ (i := 2) (N := some 18) #[true, true, true, true, false] rfl rfl (by kernel_rfl) (by decide) (fun K hK => ?_)
      refine goes_ Try.func14 (by kernel_rfl) rfl #[.agg #[.int .i64 1, .int .i64 20, .int .i64 4, .int .i64 3, .int .i64 100, .int .i64 1, .int .i64 50, .int .i64 4, .int .i64 2, .int .i64 1, .int .i64 3, .int .i64 1], .agg c3, .int .i64 300, .int .i64 7] (by rfl) rfl rfl (by (try simp only [List.map_toArray, List.map_cons, List.map_nil]); first | done | rfl) ?_
      refine (step_w (k := 40) (c := plainC) (k37.K_below FB HX.out) hd_u).mono ?_
      rintro e_ w_ ⟨c4, rfl, FO, hb⟩
      refine ⟨_, rfl, ?_⟩
      replace FB := below_step FB hb
      replace FX := blk_below FX hb
      replace FZ := blk_below FZ hb
      clear hb
      refine hK.out _ _ FX (fun hHeld => ?_)
      clear hK K
      refine no_ 18 ?_
      refine one_ (i := 4) (N := none) #[true, true, true, true, true] rfl rfl (by kernel_rfl) (by decide) (fun K hK => ?_)
      obtain ⟨hst, _, hn⟩ := hs_store HS.out FB hge FZ rfl FO
      have HN := Aside0.mk hn
      clear hn
      have hsz := k_size FO.K
      refine skip_ (w1 := ?_) (by rfl) rfl ?_ ?_
      rotate_left
      ·go_simp
       rfl
      clear hst FZ FO FB hsz
      replace FX := (HN.out.2 (g3, sim_z, c3) (by simp)).1
      refine hK.out _ _ FX (fun hHeld => ?_)
      clear hK K
      refine done_ (by kernel_rfl) ?_
      (try go_wp2)
      go_meet
      exact ⟨g4, c4, rfl, HN.out⟩
    case rest =>
     obtain ⟨g4, c4, rfl, hn⟩ := hcut
     clear HS
     have HS := Aside0.mk hn
     clear hn
     generalize wc = W0 at HS ⊢
     go_upto_region 5 with (fail)
     go_cut [5] (fun v wc => ∃ (g : Nat) (cs : Array Value), v = .pointer (some ⟨g, 0, none⟩) ∧ Hs w wc ((g, sim_n, cs) :: (g4, sim_u, c4) :: (g3, sim_z, c3) :: (g2, sim_y, c2) :: (g1, sim_x, c1) :: []))
     case first =>
      have HB : Aside0 (Below W0.heap.size W0 W0) := ⟨Below.refl _ _⟩
      go_wp2_with (first
       | (go_at_call 22; refine (governorlaw09_Plain.calls _ _ _ _ _ _ _ _ _ _ _ _ _ rfl).mono ?_; rintro e_ w1 ⟨rfl, hb⟩; replace HB := Aside0.mk (below_step HB.out hb); clear hb)
       | (go_at_call 14; refine (step_w (k := 40) (c := plainC) (cs := #[.int .i64 0, .int .i64 0, .slice none 0 0, .int .i64 0, .int .i64 0, .int .i64 0, .int .i64 0, .slice none 0 0, .int .i64 0, .int .i64 0, .bool false, .int .i64 7, .int .i64 0, .bool false, .int .i64 0, .slice none 0 0, .int .i64 0, .int .i64 0, .slice none 0 0]) (k37_mk _ sim_n (A2 := none) (c2 := 0) (Nat.le_refl _) (Kd.C_nil _ _) (A7 := none) (c7 := 0) (Nat.le_refl _) (Kd.C_nil _ _) (A15 := none) (c15 := 0) (Nat.le_refl _) (Kd.C_nil _ _) (A18 := none) (c18 := 0) (Nat.le_refl _) (Kd.C_nil _ _)) hd_n).mono ?_; rintro e_ w2 ⟨c5, rfl, own, hb⟩; have hsz := k_size own.K; have HO := Aside0.mk own; replace HB := Aside0.mk (below_step HB.out hb); clear own hb)
       | ((with_reducible refine gate_dst (N := 5) rfl ?_); refine box_event ?hg (N := 5) ?hd (cs := #[.int .i64 0, .int .i64 0, .slice none 0 0, .int .i64 0, .int .i64 0, .int .i64 0, .int .i64 0, .slice none 0 0, .int .i64 0, .int .i64 0, .bool false, .int .i64 0, .int .i64 0, .bool false, .int .i64 0, .slice none 0 0, .int .i64 0, .int .i64 0, .slice none 0 0]) (t := 37) ?hr ?_; (case hd => rfl); (case hg => rfl); (case hr => first | (go_simp; done) | (go_simp; rfl)); intro g5 hg w3 FZ hb; obtain ⟨hst, _, hn⟩ := hs_store HS.out (below_step HB.out hb) (by rw [hg]; exact HB.out.size) FZ rfl (HO.out.below hb); have HN := Aside0.mk hn; clear hn FZ hb hg))
      go_meet
      exact ⟨g5, c5, rfl, HN.out⟩
     case rest =>
      obtain ⟨g5, c5, rfl, hn⟩ := hcut
      clear HS
      have HS := Aside0.mk hn
      generalize wc = W0 at HS hn ⊢
      obtain ⟨fx, kx⟩ := hn.2 (g1, sim_x, c1) (by simp)
      obtain ⟨A2x, d2x, A7x, d7x, A15x, d15x, A18x, d18x, ex, l2x, r2x, l7x, r7x, l15x, r15x, l18x, r18x⟩ := k37_open kx
      obtain rfl : c1 = #[.int .i64 sim_x.f0.f0, .int .i64 sim_x.f0.f1, .slice A2x sim_x.f0.f2.length d2x, .int .i64 sim_x.f0.f3, .int .i64 sim_x.f0.f4, .int .i64 sim_x.f0.f5, .int .i64 sim_x.f0.f6, .slice A7x sim_x.f0.f7.length d7x, .int .i64 sim_x.f1.f0, .int .i64 sim_x.f1.f1, .bool sim_x.f1.f2, .int .i64 sim_x.f2.f0, .int .i64 sim_x.f2.f1, .bool sim_x.f2.f2, .int .i64 sim_x.f3.f0, .slice A15x sim_x.f3.f1.length d15x, .int .i64 sim_x.f3.f2, .int .i64 sim_x.f3.f3, .slice A18x sim_x.f4.length d18x] := by cases c1; simpa using ex
      have b14_x : W0.cell? ⟨g1, 14, none⟩ = some (.int .i64 2) := blk_cell fx 14
      obtain ⟨fy, ky⟩ := hn.2 (g2, sim_y, c2) (by simp)
      obtain ⟨A2y, d2y, A7y, d7y, A15y, d15y, A18y, d18y, ey, l2y, r2y, l7y, r7y, l15y, r15y, l18y, r18y⟩ := k37_open ky
      obtain rfl : c2 = #[.int .i64 sim_y.f0.f0, .int .i64 sim_y.f0.f1, .slice A2y sim_y.f0.f2.length d2y, .int .i64 sim_y.f0.f3, .int .i64 sim_y.f0.f4, .int .i64 sim_y.f0.f5, .int .i64 sim_y.f0.f6, .slice A7y sim_y.f0.f7.length d7y, .int .i64 sim_y.f1.f0, .int .i64 sim_y.f1.f1, .bool sim_y.f1.f2, .int .i64 sim_y.f2.f0, .int .i64 sim_y.f2.f1, .bool sim_y.f2.f2, .int .i64 sim_y.f3.f0, .slice A15y sim_y.f3.f1.length d15y, .int .i64 sim_y.f3.f2, .int .i64 sim_y.f3.f3, .slice A18y sim_y.f4.length d18y] := by cases c2; simpa using ey
      have b11_y : W0.cell? ⟨g2, 11, none⟩ = some (.int .i64 1) := blk_cell fy 11
      have b16_y : W0.cell? ⟨g2, 16, none⟩ = some (.int .i64 200) := blk_cell fy 16
      have b18_y : W0.cell? ⟨g2, 18, none⟩ = some (.slice A18y 1 d18y) := blk_cell fy 18
      obtain ⟨fz, kz⟩ := hn.2 (g3, sim_z, c3) (by simp)
      obtain ⟨A2z, d2z, A7z, d7z, A15z, d15z, A18z, d18z, ez, l2z, r2z, l7z, r7z, l15z, r15z, l18z, r18z⟩ := k37_open kz
      obtain rfl : c3 = #[.int .i64 sim_z.f0.f0, .int .i64 sim_z.f0.f1, .slice A2z sim_z.f0.f2.length d2z, .int .i64 sim_z.f0.f3, .int .i64 sim_z.f0.f4, .int .i64 sim_z.f0.f5, .int .i64 sim_z.f0.f6, .slice A7z sim_z.f0.f7.length d7z, .int .i64 sim_z.f1.f0, .int .i64 sim_z.f1.f1, .bool sim_z.f1.f2, .int .i64 sim_z.f2.f0, .int .i64 sim_z.f2.f1, .bool sim_z.f2.f2, .int .i64 sim_z.f3.f0, .slice A15z sim_z.f3.f1.length d15z, .int .i64 sim_z.f3.f2, .int .i64 sim_z.f3.f3, .slice A18z sim_z.f4.length d18z] := by cases c3; simpa using ez
      have b11_z : W0.cell? ⟨g3, 11, none⟩ = some (.int .i64 3) := blk_cell fz 11
      have b12_z : W0.cell? ⟨g3, 12, none⟩ = some (.int .i64 6) := blk_cell fz 12
      have b13_z : W0.cell? ⟨g3, 13, none⟩ = some (.bool true) := blk_cell fz 13
      have b16_z : W0.cell? ⟨g3, 16, none⟩ = some (.int .i64 400) := blk_cell fz 16
      obtain ⟨fu, ku⟩ := hn.2 (g4, sim_u, c4) (by simp)
      obtain ⟨A2u, d2u, A7u, d7u, A15u, d15u, A18u, d18u, eu, l2u, r2u, l7u, r7u, l15u, r15u, l18u, r18u⟩ := k37_open ku
      obtain rfl : c4 = #[.int .i64 sim_u.f0.f0, .int .i64 sim_u.f0.f1, .slice A2u sim_u.f0.f2.length d2u, .int .i64 sim_u.f0.f3, .int .i64 sim_u.f0.f4, .int .i64 sim_u.f0.f5, .int .i64 sim_u.f0.f6, .slice A7u sim_u.f0.f7.length d7u, .int .i64 sim_u.f1.f0, .int .i64 sim_u.f1.f1, .bool sim_u.f1.f2, .int .i64 sim_u.f2.f0, .int .i64 sim_u.f2.f1, .bool sim_u.f2.f2, .int .i64 sim_u.f3.f0, .slice A15u sim_u.f3.f1.length d15u, .int .i64 sim_u.f3.f2, .int .i64 sim_u.f3.f3, .slice A18u sim_u.f4.length d18u] := by cases c4; simpa using eu
      have b11_u : W0.cell? ⟨g4, 11, none⟩ = some (.int .i64 7) := blk_cell fu 11
      have b14_u : W0.cell? ⟨g4, 14, none⟩ = some (.int .i64 3) := blk_cell fu 14
      have b18_u : W0.cell? ⟨g4, 18, none⟩ = some (.slice A18u 3 d18u) := blk_cell fu 18
      obtain ⟨ad, e0, u0, u1⟩ := at_T52 r18y (0 : Int) (show (0 : Int) ≤ 0 by decide) (show (0 : Int) < ((sim_y.f4).length : Int) by decide)
      subst e0
      change _ = some (Value.int .i64 1) at u0
      change _ = some (Value.bool true) at u1
      rw [show ad.add ((0 : Int).toNat * 2) = ad by simp [Addr.add]] at u0 u1
      obtain ⟨fn, kn⟩ := hn.2 (g5, sim_n, c5) (by simp)
      have HK := Aside0.mk kn
      have FN := Aside0.mk fn
      clear fx kx fy ky fz kz fu ku fn kn hn l2x r2x l7x r7x l15x r15x l18x r18x l2y r2y l7y r7y l15y r15y l18y r18y l2z r2z l7z r7z l15z r15z l18z r18z l2u r2u l7u r7u l15u r15u l18u r18u
      go_wp2_with (first
       | ((with_reducible refine gate_dst (N := 84) rfl ?_); (try (refine gate_guard (by rfl) ?_; dsimp only)); refine load_pre rfl 37 (.tmp 5) rfl g5 rfl c5 _ (range_row FN.out) hu1 rfl (k_info HK.out) ?_)
       | (go_at_call 13; refine (same_w (x := sim_n) (y := sim_n) (cs' := #[.int .i64 0, .int .i64 0, .slice none 0 0, .int .i64 0, .int .i64 0, .int .i64 0, .int .i64 0, .slice none 0 0, .int .i64 0, .int .i64 0, .bool false, .int .i64 7, .int .i64 0, .bool false, .int .i64 0, .slice none 0 0, .int .i64 0, .int .i64 0, .slice none 0 0]) HK.out (k37_mk _ sim_n (A2 := none) (c2 := 0) (Nat.le_refl _) (Kd.C_nil _ _) (A7 := none) (c7 := 0) (Nat.le_refl _) (Kd.C_nil _ _) (A15 := none) (c15 := 0) (Nat.le_refl _) (Kd.C_nil _ _) (A18 := none) (c18 := 0) (Nat.le_refl _) (Kd.C_nil _ _)) hd_same).mono ?_; rintro e_ w1 ⟨rfl, hb⟩; replace HS := Aside0.mk (HS.out.below hb); clear hb))
      go_ret
      exact ⟨rfl, HS.out.1⟩
end Go.Proofs.Ytefgoffaidjiaaa.PAll
namespace Go.Proofs.Ytefgoffaidjiaaa.PAll
open Go.RowKit Go.Proofs.YtefgoffaidjiaaaW.PrintWords Go.Proofs.YtefgoffaidjiaaaW.PrintLast Go.Proofs.YtefgoffaidjiaaaW.PrintMore
set_option linter.unusedVariables false
set_option linter.unusedSimpArgs false
/-! ### what the guards say, and what a step of a sim is -/
structure CfgP (c : S23) : Prop where
  lim : ConfP c.f0 c.f1 c.f2 c.f3
  pl : CfP c.f5 c.f4 c.f6
  w1 : 1 ≤ c.f7
  w2 : c.f7 ≤ 32
def confB (c : S23) : Bool := cfSize c.f0 c.f1 c.f2 && (cfPlant c.f3 c.f4 c.f5 c.f6 && cfJudge c.f7 c.f8 c.f9 c.f10 c.f11)
theorem conf_cfg {c : S23} (h : confB c = true) : CfgP c := by
  refine ⟨conf_in h, conf_pl h, ?_, ?_⟩
  all_goals
    unfold confB at h
    simp only [cfJudge, Bool.and_eq_true, decide_eq_true_eq] at h
    omega
/-- May a sim be so? -/
structure SimP (x : S37) : Prop where
  pol : PolP x.f0.f0 x.f0.f2 x.f0.f6 x.f0.f7
  pl : PR x.f3.f0 x.f3.f1 x.f3.f2 x.f3.f3
  mks : x.f4.all mkI = true
  ml : x.f4.length ≤ 32
  h0 : 0 ≤ x.f2.f0
  h1 : x.f2.f0 ≤ 1000
  t0 : 0 ≤ x.f2.f1
  t1 : x.f2.f1 ≤ 1099511627776
theorem all_smI (l : List Int) : allAt smI l 0 = true ↔ Small l := by
  unfold allAt smI Small
  simp
theorem rightB_iff {R wt ut : Int} {l : List Int} : governorref16_Right.b R l wt ut = true ↔ PR R l wt ut := by
  unfold governorref16_Right.b
  rw [Bool.and_eq_true, Bool.and_eq_true, all_smI]
  simp only [Bool.not_eq_true', Bool.or_eq_false_iff, decide_eq_false_iff_not, decide_eq_true_eq]
  constructor
  · rintro ⟨⟨h1, h2, h3, h4, h5, h6, h7⟩, hs, ha⟩
    rw [allL_eq hs (by omega) (by omega) (by omega)] at ha
    exact ⟨by omega, by omega, by omega, hs, by omega, by omega, by omega, by omega, ha⟩
  · intro P
    have h0 := P.r0; have h1 := P.r1; have h2 := P.len; have h3 := P.w0; have h4 := P.w1; have h5 := P.u0; have h6 := P.u1
    refine ⟨⟨by omega, by omega, by omega, by omega, by omega, by omega, by omega⟩, P.sm, ?_⟩
    rw [allL_eq P.sm h0 (by omega) (by omega)]
    exact P.all
theorem polOk_tells (p : S27) (k : Nat) (hk : 20 ≤ k) (h8 : p.f2.length ≤ 8) (h9 : p.f7.length ≤ 8) :
    ∃ b z, governorref09_Policy.f k p.f0 p.f1 p.f2 p.f3 p.f4 p.f5 p.f6 p.f7 = some b ∧ governorref09_Zero.f p.f0 p.f1 p.f2 p.f3 p.f4 p.f5 p.f6 p.f7 = some z ∧ ((b = true ∨ z = true) → PolP p.f0 p.f2 p.f6 p.f7) := by
  obtain ⟨b, hb, hP⟩ := policyR_tells p.f0 p.f1 p.f2 p.f3 p.f4 p.f5 p.f6 p.f7 k hk h8 h9
  have hz : ∃ z, governorref09_Zero.f p.f0 p.f1 p.f2 p.f3 p.f4 p.f5 p.f6 p.f7 = some z ∧ (z = true → p.f0 = 0) := by
    unfold governorref09_Zero.f
    by_cases c : p.f0 = 0
    · obtain ⟨r, hr⟩ := none_some p.f0 p.f1 p.f2 p.f3 p.f4 p.f5 p.f6 p.f7 true true true true
      rw [if_pos c, hr]; exact ⟨r, rfl, fun _ => c⟩
    · rw [if_neg c]; exact ⟨false, rfl, fun h => by cases h⟩
  obtain ⟨z, hz, hZ⟩ := hz
  refine ⟨b, z, hb, hz, fun h => ?_⟩
  rcases h with h | h
  · exact ⟨h8, h9, (hP h).1, (hP h).2⟩
  · have := hZ h
    exact ⟨h8, h9, fun e => by omega, fun e => by omega⟩
theorem rightF_eq (k : Nat) (x : S37) (h8 : x.f0.f2.length ≤ 8) (h9 : x.f0.f7.length ≤ 8) (b z : Bool) (hb : governorref09_Policy.f k x.f0.f0 x.f0.f1 x.f0.f2 x.f0.f3 x.f0.f4 x.f0.f5 x.f0.f6 x.f0.f7 = some b) (hz : governorref09_Zero.f x.f0.f0 x.f0.f1 x.f0.f2 x.f0.f3 x.f0.f4 x.f0.f5 x.f0.f6 x.f0.f7 = some z) :
    ∃ r, rightF k x = some r ∧ (r = true ↔ (b = true ∨ z = true) ∧ PR x.f3.f0 x.f3.f1 x.f3.f2 x.f3.f3 ∧ x.f4.all mkI = true ∧ x.f4.length ≤ 32 ∧ (0 ≤ x.f2.f0 ∧ x.f2.f0 ≤ 1000 ∧ 0 ≤ x.f2.f1 ∧ x.f2.f1 ≤ 1099511627776)) := by
  unfold rightF governorref18_Right.f
  rw [if_neg (by simp; omega), hb, hz]
  refine ⟨_, rfl, ?_⟩
  unfold governorref18_Right.b
  rw [show (decide (8 < (x.f3.f1.length : Int)) || (!(governorref16_Right.b x.f3.f0 x.f3.f1 x.f3.f2 x.f3.f3) || (decide (32 < (x.f4.length : Int))))) = (!(governorref16_Right.b x.f3.f0 x.f3.f1 x.f3.f2 x.f3.f3) || decide (32 < (x.f4.length : Int))) by
    cases h : governorref16_Right.b x.f3.f0 x.f3.f1 x.f3.f2 x.f3.f3
    · simp
    · have := (rightB_iff.1 h).len
      rw [decide_eq_false (by omega), Bool.false_or]]
  rw [← rightB_iff, show allAt mkI x.f4 0 = x.f4.all mkI from rfl]
  cases b <;> cases z <;> cases governorref16_Right.b x.f3.f0 x.f3.f1 x.f3.f2 x.f3.f3 <;> cases x.f4.all mkI <;> simp <;> omega
theorem right_tells (x : S37) (k : Nat) (hk : 20 ≤ k) : ∃ r, rightF k x = some r ∧ (r = true → SimP x) := by
  by_cases h8 : x.f0.f2.length ≤ 8 ∧ x.f0.f7.length ≤ 8
  · obtain ⟨b, z, hb, hz, hP⟩ := polOk_tells x.f0 k hk h8.1 h8.2
    obtain ⟨r, hr, hR⟩ := rightF_eq k x h8.1 h8.2 b z hb hz
    refine ⟨r, hr, fun h => ?_⟩
    obtain ⟨h1, h2, h3, h4, h5, h6, h7, h10⟩ := hR.1 h
    exact ⟨hP h1, h2, h3, h4, h5, h6, h7, h10⟩
  · refine ⟨false, ?_, fun h => by cases h⟩
    unfold rightF governorref18_Right.f
    rw [if_pos (by simp; omega)]
/-! ### a step -/
def curI (c : S23) (x : S37) : Int := mx c.f0 (mn x.f2.f0 c.f1)
def polS (c : S23) (x : S37) (now : Int) : Int × Int × Bool × Int := polR x.f0.f0 x.f0.f1 x.f0.f2 x.f0.f3 x.f0.f4 x.f0.f5 x.f0.f6 x.f0.f7 x.f1.f0 x.f1.f1 x.f1.f2 (cl0 (curI c x)) x.f3.f3 now
def holdS (c : S23) (x : S37) (want now : Int) : Int × Int × Bool := r15 (mn (mx x.f2.f0 c.f0) c.f1) c.f0 c.f1 c.f2 c.f3 x.f2.f1 want now x.f2.f2
def addM (w : Int) (l : List S52) (m : S52) : List S52 := (l ++ [m]).drop (((l.length : Int) + 1) - w).toNat
def moveS (c : S23) (x : S37) (q : Int × Int × Bool × Int) (h : Int × Int × Bool) (d : Int) : S37 :=
  ⟨x.f0, ⟨q.1, q.2.1, q.2.2.1⟩, ⟨h.1, h.2.1, h.2.2⟩, ⟨(stS x.f3.f0 x.f3.f1 c.f5 h.1).1, trimL (stS x.f3.f0 x.f3.f1 c.f5 h.1).2, waitI x.f3.f0 x.f3.f1 c.f5 h.1 c.f4 x.f3.f2 d, utilI x.f3.f0 x.f3.f1 c.f5 h.1 c.f4 x.f3.f2 d⟩,
    addM c.f7 x.f4 ⟨nW h.1, decide (c.f6 < waitI x.f3.f0 x.f3.f1 c.f5 h.1 c.f4 x.f3.f2 d)⟩⟩
/-- WHAT A STEP LEAVES. -/
def stepS (c : S23) (x : S37) (d now : Int) : S37 := if x.f0.f0 = 0 then x else moveS c x (polS c x now) (holdS c x (polS c x now).2.2.2 now) d
theorem hold_next {c : S23} {x : S37} (C : CfgP c) (P : SimP x) (want now : Int) (n0 : 0 ≤ now) (n1 : now ≤ 1099511627776) :
    limit_Next.f c.f0 c.f1 c.f2 c.f3 c.f4 c.f5 c.f6 c.f7 c.f8 c.f9 c.f10 c.f11 x.f2.f0 x.f2.f1 x.f2.f2 want now = some (holdS c x want now) ∧ c.f0 ≤ (holdS c x want now).1 ∧ (holdS c x want now).1 ≤ c.f1 ∧ 0 ≤ (holdS c x want now).2.1 ∧ (holdS c x want now).2.1 ≤ 1099511627776 := by
  have t0 := P.t0; have t1 := P.t1
  obtain ⟨a, l, g, h1, h2⟩ := limit_next (a4 := c.f4) (a5 := c.f5) (a6 := c.f6) (a7 := c.f7) (a8 := c.f8) (a9 := c.f9) (a10 := c.f10) (a11 := c.f11) (cur := x.f2.f0) (last := x.f2.f1) (grew := x.f2.f2) (want := want) (now := now) C.lim n0 (by omega) t0 (by omega)
  have h3 := ref_next C.lim n0 (by omega) t0 (by omega) h2
  rw [show holdS c x want now = (a, l, g) from h3]
  obtain ⟨q1, q2, q3, q4, q5, q6, q7⟩ := C.lim
  refine ⟨h1, ?_⟩
  obtain ⟨u, n, e1, e2, h⟩ := h2
  have b1 : c.f0 ≤ u ∧ u ≤ c.f1 := by rw [e1]; unfold mx mn; omega
  have b2 : c.f0 ≤ n ∧ n ≤ c.f1 := by rw [e2]; unfold mx mn; omega
  dsimp only
  rcases h with ⟨_, rfl, rfl, _⟩ | ⟨_, _, _, rfl, rfl, _⟩ | ⟨_, _, rfl, rfl, _⟩ <;> omega
theorem add_eq {w : Int} {l : List S52} (h : l.length ≤ 32) (w1 : 1 ≤ w) (w2 : w ≤ 32) (a : Int) (b : Bool) : score_Add.f w l a b = some (addM w l ⟨a, b⟩) := by
  unfold score_Add.f api_Mark.f
  rw [if_pos (by omega)]
  simp only [Option.bind_some]
  rw [if_pos (by simp; omega)]
  simp only [Option.bind_some, List.length_append, List.length_cons, List.length_nil, Nat.zero_add]
  have e : mx 0 (wrap64 (((l.length + 1 : Nat) : Int) - mx 0 w)) = mx 0 ((l.length : Int) + 1 - w) := by
    have e1 : mx 0 w = w := by unfold mx; omega
    rw [e1, wr (by omega) (by omega)]
    congr 1
  rw [e, if_pos (by unfold mx; omega), if_pos (by unfold mx; omega)]
  have e2 : (mx 0 ((l.length : Int) + 1 - w)).toNat = ((l.length : Int) + 1 - w).toNat := by unfold mx; omega
  rw [e2]
  rfl
theorem add_len {w : Int} {l : List S52} (w1 : 1 ≤ w) (m : S52) : ((addM w l m).length : Int) = mn ((l.length : Int) + 1) w := by
  unfold addM
  rw [List.length_drop, List.length_append, List.length_singleton]
  unfold mn
  omega
theorem add_all {w : Int} {l : List S52} {m : S52} (h : l.all mkI = true) (hm : mkI m = true) : (addM w l m).all mkI = true := by
  unfold addM
  rw [List.all_eq_true]
  intro x hx
  have hx := List.mem_of_mem_drop hx
  rcases List.mem_append.1 hx with hx | hx
  · exact List.all_eq_true.1 h x hx
  · rw [List.mem_singleton.1 hx]; exact hm
/-- The step's own text comes to what a step leaves. -/
theorem step_tells {c : S23} {x : S37} (C : CfgP c) (P : SimP x) (d now : Int) (n0 : 0 ≤ now) (n1 : now ≤ 1099511627776) (k : Nat) (hk : 20 ≤ k) :
    fleet_Step.f k c.f0 c.f1 c.f2 c.f3 c.f4 c.f5 c.f6 c.f7 c.f8 c.f9 c.f10 c.f11 x.f0.f0 x.f0.f1 x.f0.f2 x.f0.f3 x.f0.f4 x.f0.f5 x.f0.f6 x.f0.f7 x.f1.f0 x.f1.f1 x.f1.f2 x.f2.f0 x.f2.f1 x.f2.f2 x.f3.f0 x.f3.f1 x.f3.f2 x.f3.f3 x.f4 d now = some (tup (stepS c x d now)) := by
  have h1 := P.pol.b8; have h2 := P.pol.s8; have h3 := P.pl.len; have h4 := P.ml
  unfold fleet_Step.f stepS
  rw [if_pos ⟨by omega, by omega, by omega, by omega⟩]
  by_cases z : x.f0.f0 = 0
  · rw [if_pos (by simpa using z), if_pos z]; rfl
  · rw [if_neg (by simpa using z), if_neg z]
    unfold limit_Into.f
    simp only [Option.bind_some]
    rw [polNext_eq P.pol x.f0.f1 x.f0.f3 x.f0.f4 x.f0.f5 x.f1.f0 x.f1.f1 x.f1.f2 (mx c.f0 (mn x.f2.f0 c.f1)) x.f3.f3 now k hk]
    simp only [Option.bind_some]
    rw [show polR x.f0.f0 x.f0.f1 x.f0.f2 x.f0.f3 x.f0.f4 x.f0.f5 x.f0.f6 x.f0.f7 x.f1.f0 x.f1.f1 x.f1.f2 (cl0 (mx c.f0 (mn x.f2.f0 c.f1))) x.f3.f3 now = polS c x now from rfl]
    rw [(hold_next C P (polS c x now).2.2.2 now n0 n1).1]
    simp only [Option.bind_some]
    rw [step_eq P.pl C.pl]
    simp only [Option.bind_some]
    rw [add_eq h4 C.w1 C.w2]
    rfl
/-- A sim that is right is right behind a step. -/
theorem step_sim {c : S23} {x : S37} (C : CfgP c) (P : SimP x) (d now : Int) (n0 : 0 ≤ now) (n1 : now ≤ 1099511627776) : SimP (stepS c x d now) ∧ (stepS c x d now).f0 = x.f0 := by
  unfold stepS
  by_cases z : x.f0.f0 = 0
  · rw [if_pos z]; exact ⟨P, rfl⟩
  · rw [if_neg z]
    obtain ⟨_, b1, b2, b3, b4⟩ := hold_next C P (polS c x now).2.2.2 now n0 n1
    obtain ⟨q1, q2, q3, q4, q5, q6, q7⟩ := C.lim
    have hn := nW_in (holdS c x (polS c x now).2.2.2 now).1
    refine ⟨⟨P.pol, step_right P.pl C.pl _ _, add_all P.mks ?_, ?_, by show 0 ≤ (holdS _ _ _ _).1; omega, by show (holdS _ _ _ _).1 ≤ 1000; omega, b3, b4⟩, rfl⟩
    · unfold mkI; simp; omega
    · have h := add_len (l := x.f4) C.w1 ⟨nW (holdS c x (polS c x now).2.2.2 now).1, decide (c.f6 < waitI x.f3.f0 x.f3.f1 c.f5 (holdS c x (polS c x now).2.2.2 now).1 c.f4 x.f3.f2 d)⟩
      have h2 := C.w2
      show (addM _ _ _).length ≤ 32
      unfold mn at h
      split at h <;> omega
/-! ### of a sim of which less waits -/
/-! ### what is seen of a step -/
end Go.Proofs.Ytefgoffaidjiaaa.PAll
namespace Go.Proofs.Ytefgoffaidjiaaa.PAll
open Go.RowKit Go.Proofs.YtefgoffaidjiaaaW.PrintWords Go.Proofs.YtefgoffaidjiaaaW.PrintLast Go.Proofs.YtefgoffaidjiaaaW.PrintMore
attribute [local go_sem] max2_int min2_int max_two min_two max_three min_three max_four min_four   -- for this text's walks alone
set_option linter.unusedVariables false
set_option linter.unusedSimpArgs false
/-! ### governorlaw18_time: function 12 -/
end Go.Proofs.Ytefgoffaidjiaaa.PAll
