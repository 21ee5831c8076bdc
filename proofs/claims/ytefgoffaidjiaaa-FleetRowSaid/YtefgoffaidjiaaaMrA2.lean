/- What the laws FleetRow lean on: the contracts of the functions that they reach, part 2 of 6. -/
import Derived.Test.YtefgoffaidjiaaaMrA1
namespace Go.Proofs.Ytefgoffaidjiaaa.PAll
open Go.RowKit Go.Proofs.YtefgoffaidjiaaaW.PrintWords Go.Proofs.YtefgoffaidjiaaaW.PrintLast Go.Proofs.YtefgoffaidjiaaaW.PrintMore
attribute [local go_sem] max2_int min2_int max_two min_two max_three min_three max_four min_four   -- for this text's walks alone
set_option linter.unusedVariables false
set_option linter.unusedSimpArgs false
/-! ### policy_Next: function 51 -/
def policy_Next.f (k : Nat) (a0_0 : Int) (a0_1 : Int) (l0_2 : List (S56)) (a0_3 : Int) (a0_4 : Int) (a0_5 : Int) (a0_6 : Int) (l0_7 : List (S58)) (a1_0 : Int) (a1_1 : Int) (a1_2 : Bool) (a2 : Int) (a3 : Int) (a4 : Int) : Option (Int × Int × Bool × Int) :=
 if a0_0 = 1 then (policy_kinds_1.f a0_0 a0_1 l0_2 a0_3 a0_4 a0_5 a0_6 l0_7 a1_0 a1_1 a1_2 (cl0 a2) a3 a4).bind fun n => some (a1_0, a1_1, a1_2, cl0 n)
 else if a0_0 = 2 then (policy_kinds_2.f a0_0 a0_1 l0_2 a0_3 a0_4 a0_5 a0_6 l0_7 a1_0 a1_1 a1_2 (cl0 a2) a3 a4).bind fun n => some (a1_0, a1_1, a1_2, cl0 n)
 else if a0_0 = 3 then (policy_kinds_3.f k a0_0 a0_1 l0_2 a0_3 a0_4 a0_5 a0_6 l0_7 a1_0 a1_1 a1_2 (cl0 a2) a3 a4).bind fun x => some (x.1, x.2.1, x.2.2.1, cl0 (wrap64 (cl0 a2 + x.2.2.2)))
 else if a0_0 = 4 then (policy_kinds_4.f a0_0 a0_1 l0_2 a0_3 a0_4 a0_5 a0_6 l0_7 a1_0 a1_1 a1_2 (cl0 a2) a3 a4).bind fun n => some (a1_0, a1_1, a1_2, cl0 n)
 else some (a1_0, a1_1, a1_2, cl0 (cl0 a2))
set_option maxHeartbeats 2000000 in
theorem polInto_any (n : Int) (w : World) : Calls Try.prog 67 #[.int .i64 n] w fun e w' => e = .returned (.int .i64 (cl0 n)) ∧ Drawn0 w w' := by
 obtain ⟨m, hm⟩ : ∃ m, mn n 1000 = m := ⟨_, rfl⟩
 have hm' : (if 1000 < n then 1000 else n) = m := hm
 obtain ⟨s, hs⟩ : ∃ s, cl0 n = s := ⟨_, rfl⟩
 have hs' : (if 0 < m then m else 0) = s := by rw [← hs, ← hm]; rfl
 rw [hs]
 clear hm hs
 go_enter Try.func67, Try.ntmps67
 go_wp2
 go_ret
 exact ⟨rfl, by repeat (first | exact Drawn0.refl _ | apply Drawn0.step)⟩
section
variable {P : Program} {ops : Array Oper} {Q : Exit → Act → World → Prop}
theorem goesV_ {oi : Oper} {N : Option Tmp} {a : Act} {w : World} {K : Act → World → Prop} {f : FuncId} {fn : Func} {x : Operand} {os_ : Array Operand} {ts : Array TypeId} (hf : P.funcs[f]? = some fn) (hname : (fn.name == "runtime.NumGoroutine") = false) (hb : fn.body.isSome = true) (args : Array Value)
  (hw : Region.wanted oi (yielded ops a.tmps) = true) (hN : oi.dst = N) (hop : oi.op = .call { callee := .value x, args := os_, argTypes := ts }) (hx : a.eval x = .func (Fn.func f) #[] #[]) (hargs : os_.map a.eval = args)
  (h : Calls P f args w fun e w' => ∃ v, e = .returned v ∧ K (a.put N v) w') : if Region.wanted oi (yielded ops a.tmps) = true then Oper.wp P oi a w K Q else K (a.put N undef) w := by
 refine call_ f args hw hN ?_ h
 have he := enters_ hf hname hb args w
 unfold execOp
 simp [hop, resolve, Deferred.ofValue, invoke, hx, hargs, he]
end
theorem kCases (n : Int) : ∃ v1 v2 : Value, (∀ b W, W.heap[b]? = some kMap → (Instr.lookup 110 (.map (some b)) (.int .i64 n) false).run Try.prog W = .ok (.agg #[v1, v2]) W) ∧
  ((n = 1 ∧ v1 = .func (Fn.func 80) #[] #[] ∧ v2 = .nilFunc) ∨ (n = 2 ∧ v1 = .func (Fn.func 82) #[] #[] ∧ v2 = .nilFunc) ∨ (n = 3 ∧ v1 = .nilFunc ∧ v2 = .func (Fn.func 84) #[] #[]) ∨ (n = 4 ∧ v1 = .func (Fn.func 86) #[] #[] ∧ v2 = .nilFunc) ∨ ((n ≠ 1 ∧ n ≠ 2 ∧ n ≠ 3 ∧ n ≠ 4) ∧ v1 = .nilFunc ∧ v2 = .nilFunc)) := by
 by_cases h1 : n = 1
 ·subst h1; exact ⟨_, _, kLook1, .inl ⟨rfl, rfl, rfl⟩⟩
 by_cases h2 : n = 2
 ·subst h2; exact ⟨_, _, kLook2, .inr (.inl ⟨rfl, rfl, rfl⟩)⟩
 by_cases h3 : n = 3
 ·subst h3; exact ⟨_, _, kLook3, .inr (.inr (.inl ⟨rfl, rfl, rfl⟩))⟩
 by_cases h4 : n = 4
 ·subst h4; exact ⟨_, _, kLook4, .inr (.inr (.inr (.inl ⟨rfl, rfl, rfl⟩)))⟩
 exact ⟨_, _, kLook0 n h1 h2 h3 h4, .inr (.inr (.inr (.inr ⟨⟨h1, h2, h3, h4⟩, rfl, rfl⟩)))⟩
theorem kNeqF (f : Fn) (W : World) : (binOp BinOp.neq 106 (.func f #[] #[]) .nilFunc).run Try.prog W = .ok (.bool true) W := by kernel_rfl
theorem kNeqF' (f : Fn) (W : World) : (binOp BinOp.neq 107 (.func f #[] #[]) .nilFunc).run Try.prog W = .ok (.bool true) W := by kernel_rfl
theorem kNeqN (W : World) : (binOp BinOp.neq 106 .nilFunc .nilFunc).run Try.prog W = .ok (.bool false) W := by kernel_rfl
theorem kNeqN' (W : World) : (binOp BinOp.neq 107 .nilFunc .nilFunc).run Try.prog W = .ok (.bool false) W := by kernel_rfl
/-- What stays: the policy's block, the state's, the result's. -/
structure PolW (w W : World) (pc sc : Array Value) : Prop where
 hP : W.heap[w.heap.size]? = some (.cells pc 27 (0, 0))
 hS : W.heap[w.heap.size + 1]? = some (.cells sc 29 (0, 0))
 hR : W.heap[w.heap.size + 1 + 1]? = some (.cells #[.int .i64 0, .int .i64 0, .bool false] 29 (0, 0))
 hB : Below w.heap.size w W
theorem PolW.below {w W W1 : World} {pc sc : Array Value} (h : PolW w W pc sc) (hb : Below W.heap.size W W1) : PolW w W1 pc sc := ⟨blk_below h.hP hb, blk_below h.hS hb, blk_below h.hR hb, below_step h.hB hb⟩
theorem PolW.drew {w W : World} {pc sc : Array Value} (h : PolW w W pc sc) : PolW w W.drew pc sc := ⟨h.hP, h.hS, h.hR, below_drew1 h.hB⟩
theorem PolW.drewN {w W : World} {pc sc : Array Value} (h : PolW w W pc sc) (n : Nat) : PolW w (W.drewN n) pc sc := ⟨h.hP, h.hS, h.hR, pw_below_drewN h.hB n⟩
theorem PolW.far {w W : World} {pc sc : Array Value} (h : PolW w W pc sc) {g j : Nat} {v : Value} (hg : w.heap.size + 1 + 1 < g) : PolW w (W.setCell ⟨g, j, none⟩ v) pc sc :=
 ⟨blk_far h.hP (by show w.heap.size ≠ g; omega) v, blk_far h.hS (by show w.heap.size + 1 ≠ g; omega) v, blk_far h.hR (by show w.heap.size + 1 + 1 ≠ g; omega) v, below_set h.hB (by omega)⟩
theorem PolW.alloc {w W : World} {pc sc : Array Value} (h : PolW w W pc sc) (o : Obj) : PolW w (W.alloc o) pc sc := ⟨blk_alloc h.hP o, blk_alloc h.hS o, blk_alloc h.hR o, below_alloc h.hB o⟩
theorem PolW.put {w W : World} {pc : Array Value} {u v x : Value} (h : PolW w W pc #[u, v, x]) (a b c : Value) : PolW w (((W.setCell ⟨w.heap.size + 1, 0, none⟩ a).setCell ⟨w.heap.size + 1, 1, none⟩ b).setCell ⟨w.heap.size + 1, 2, none⟩ c) pc #[a, b, c] :=
 ⟨blk_far (blk_far (blk_far h.hP (by show w.heap.size ≠ w.heap.size + 1; omega) a) (by show w.heap.size ≠ w.heap.size + 1; omega) b) (by show w.heap.size ≠ w.heap.size + 1; omega) c, blk_put (blk_put (blk_put h.hS 0 a rfl) 1 b rfl) 2 c rfl,
  blk_far (blk_far (blk_far h.hR (by show w.heap.size + 1 + 1 ≠ w.heap.size + 1; omega) a) (by show w.heap.size + 1 + 1 ≠ w.heap.size + 1; omega) b) (by show w.heap.size + 1 + 1 ≠ w.heap.size + 1; omega) c, below_set (below_set (below_set h.hB (by omega)) (by omega)) (by omega)⟩
theorem PolW.cells {w W : World} {pc : Array Value} {u v x : Value} (h : PolW w W pc #[u, v, x]) (o : Obj) : (W.alloc o).cell? ⟨w.heap.size + 1, 0, none⟩ = some u ∧ (W.alloc o).cell? ⟨w.heap.size + 1, 1, none⟩ = some v ∧ (W.alloc o).cell? ⟨w.heap.size + 1, 2, none⟩ = some x :=
 ⟨(blk_cell (blk_alloc h.hS o) 0).trans rfl, (blk_cell (blk_alloc h.hS o) 1).trans rfl, (blk_cell (blk_alloc h.hS o) 2).trans rfl⟩
theorem PolW.new (w : World) (pc sc : Array Value) : PolW w (((w.alloc (.cells pc 27)).alloc (.cells sc 29)).alloc (.cells #[.int .i64 0, .int .i64 0, .bool false] 29)) pc sc := by
 refine ⟨blk_alloc (blk_alloc (blk_new w _) _) _, blk_alloc ?_ _, ?_, (((Below.refl _ w).alloc (Nat.le_refl _) _).alloc (by simp) _).alloc (by simp; omega) _⟩
 ·have z := blk_new (w.alloc (.cells pc 27)) (.cells sc 29)
  rw [World.size_alloc] at z
  exact z
 ·have z := blk_new ((w.alloc (.cells pc 27)).alloc (.cells sc 29)) (.cells #[.int .i64 0, .int .i64 0, .bool false] 29)
  rw [World.size_alloc, World.size_alloc] at z
  exact z
set_option maxHeartbeats 8000000 in
set_option maxRecDepth 100000 in
theorem policy_Next.calls (k : Nat) (a0_0 : Int) (a0_1 : Int) (A0_2 : Option Addr) (c0_2 : Nat) (l0_2 : List (S56)) (a0_3 : Int) (a0_4 : Int) (a0_5 : Int) (a0_6 : Int) (A0_7 : Option Addr) (c0_7 : Nat) (l0_7 : List (S58)) (a1_0 : Int) (a1_1 : Int) (a1_2 : Bool) (a2 : Int) (a3 : Int) (a4 : Int) (r1 : Int) (r2 : Int) (r3 : Bool) (r4 : Int) (w : World) (hr0_2 : Kd.C k56 w A0_2 l0_2.length l0_2) (hc0_2 : l0_2.length ≤ c0_2) (hr0_7 : Kd.C k58 w A0_7 l0_7.length l0_7) (hc0_7 : l0_7.length ≤ c0_7) (h : policy_Next.f k a0_0 a0_1 l0_2 a0_3 a0_4 a0_5 a0_6 l0_7 a1_0 a1_1 a1_2 a2 a3 a4 = some (r1, r2, r3, r4)) :
  Calls Try.prog 51 #[.agg #[.int .i64 a0_0, .int .i64 a0_1, .slice A0_2 l0_2.length c0_2, .int .i64 a0_3, .int .i64 a0_4, .int .i64 a0_5, .int .i64 a0_6, .slice A0_7 l0_7.length c0_7], .agg #[.int .i64 a1_0, .int .i64 a1_1, .bool a1_2], .int .i64 a2, .int .i64 a3, .int .i64 a4] w fun e w' => e = .returned (.tuple #[.agg #[.int .i64 r1, .int .i64 r2, .bool r3], .int .i64 r4]) ∧ Below w.heap.size w w' := by
 have hu45 := Try.underlying27
 have hu47 := Try.underlying29
 have hu74 := Try.underlying105
 have hu78 := Try.underlying109
 obtain ⟨c, hc⟩ : ∃ c, cl0 a2 = c := ⟨_, rfl⟩
 have Hc := Aside0.mk hc
 have HR2 := Aside0.mk hr0_2
 have HR7 := Aside0.mk hr0_7
 have HC2 := Aside0.mk hc0_2
 have HC7 := Aside0.mk hc0_7
 have Hh := Aside0.mk h
 have HI := Aside0.mk (show ∀ W : World, Calls Try.prog 67 #[.int .i64 a2] W fun e w' => e = .returned (.int .i64 c) ∧ Drawn0 W w' from fun W => by rw [← hc]; exact polInto_any a2 W)
 clear hc hr0_2 hr0_7 hc0_2 hc0_7 h
 go_enter Try.func51, Try.ntmps51
 go_upto_region 2 with (fail)
 go_cut [13] (fun s wx => ∃ G : Nat, s = .pointer (some ⟨G, 0, none⟩) ∧ PolW w wx #[.int .i64 a0_0, .int .i64 a0_1, .slice A0_2 l0_2.length c0_2, .int .i64 a0_3, .int .i64 a0_4, .int .i64 a0_5, .int .i64 a0_6, .slice A0_7 l0_7.length c0_7] #[.int .i64 a1_0, .int .i64 a1_1, .bool a1_2] ∧ wx.heap[G]? = some (.cells #[.int .i64 a1_0, .int .i64 a1_1, .bool a1_2, .int .i64 c, .int .i64 a3, .int .i64 a4] 105 (0, 0)) ∧ w.heap.size + 1 + 1 < G)
 case first =>
  have hF0 := PolW.new w #[.int .i64 a0_0, .int .i64 a0_1, .slice A0_2 l0_2.length c0_2, .int .i64 a0_3, .int .i64 a0_4, .int .i64 a0_5, .int .i64 a0_6, .slice A0_7 l0_7.length c0_7] #[.int .i64 a1_0, .int .i64 a1_1, .bool a1_2]
  generalize ((w.alloc _).alloc _).alloc _ = W0 at hF0 ⊢
  refine start_ (n := 9) (S := fun w' => PolW w w' #[.int .i64 a0_0, .int .i64 a0_1, .slice A0_2 l0_2.length c0_2, .int .i64 a0_3, .int .i64 a0_4, .int .i64 a0_5, .int .i64 a0_6, .slice A0_7 l0_7.length c0_7] #[.int .i64 a1_0, .int .i64 a1_1, .bool a1_2]) (ds := []) #[false, false, false, false, false, false, false, false, false] (by kernel_rfl) rfl rfl hF0.drew (fun hHeld => ?_)
  generalize W0.drew = w1 at hHeld ⊢
  clear hF0
  refine pu_ 1 19 #[false, true, false, false, false, false, false, false, false] ?_
  refine pu_ 2 20 #[false, true, true, false, false, false, false, false, false] ?_
  refine pu_ 4 22 #[false, true, true, false, true, false, false, false, false] ?_
  refine pu_ 5 23 #[false, true, true, false, true, true, false, false, false] ?_
  refine ta_ 0 18 #[true, true, true, false, true, true, false, false, false] hHeld (v := ?_) ?_ ?_
  rotate_left
  ·intro w' hS
   have s0 := blk_cell hS.hS 0
   have s1 := blk_cell hS.hS 1
   have s2 := blk_cell hS.hS 2
   simp only [List.getElem?_toArray, List.getElem?_cons_zero, List.getElem?_cons_succ] at s0 s1 s2
   clear hS
   go_simp
   with_reducible rfl
  refine join_ (σ := Nat) 1 #[true, true, true, true, true, true, true, true, false] (fun G => [(21, .int .i64 c), (13, .pointer (some ⟨G, 0, none⟩)), (24, .agg #[.int .i64 a1_0, .int .i64 a1_1, .bool a1_2, .int .i64 c, .int .i64 a3, .int .i64 a4])]) (fun G w' => PolW w w' #[.int .i64 a0_0, .int .i64 a0_1, .slice A0_2 l0_2.length c0_2, .int .i64 a0_3, .int .i64 a0_4, .int .i64 a0_5, .int .i64 a0_6, .slice A0_7 l0_7.length c0_7] #[.int .i64 a1_0, .int .i64 a1_1, .bool a1_2] ∧ w'.heap[G]? = some (.cells #[.int .i64 0, .int .i64 0, .bool false, .int .i64 0, .int .i64 0, .int .i64 0] 105 (0, 0)) ∧ w.heap.size + 1 + 1 < G) ?_ ?_
  rotate_left
  ·intro hCont
   refine two_ (i := 3) (j := 7) (Ni := some 21) (Nj := some 13) #[true, true, true, true, true, true, false, false, false] #[true, true, true, false, true, true, false, true, false] rfl rfl rfl rfl (by kernel_rfl) (by decide) (by decide) (fun K hK => ?_) (fun K hK => ?_)
   ·skip
    refine goesV_ Try.func67 (by kernel_rfl) rfl #[.int .i64 a2] (by rfl) rfl rfl rfl (by simp only [List.map_toArray, List.map_cons, List.map_nil]; rfl) ?_
    refine (HI.out _).mono ?_
    rintro e_ w_ ⟨rfl, ⟨nd, rfl⟩⟩
    refine ⟨_, rfl, ?_⟩
    have F2 := hHeld.drewN nd
    refine hK.out _ _ F2 (fun hHeld => ?_)
    clear hK K
    refine no_ 21 ?_
    refine pu_ 6 24 #[true, true, true, true, true, true, true, false, false] ?_
    refine one_ (i := 7) (N := some 13) #[true, true, true, true, true, true, true, true, false] rfl rfl (by kernel_rfl) (by decide) (fun K hK => ?_)
    refine box_step ?hg (N := 13) ?hd (cs := #[.int .i64 0, .int .i64 0, .bool false, .int .i64 0, .int .i64 0, .int .i64 0]) (t := 105) ?hr ?_; (case hd => rfl); (case hg => rfl); (case hr => first | (go_simp; done) | (go_simp; rfl))
    intro G hg w3 hbox hb
    have F3 := F2.below hb
    have hG : w.heap.size + 1 + 1 < G := by rw [hg]; exact blk_lt F2.hR
    refine hK.out _ _ F3 (fun hHeld => ?_)
    clear hK K
    refine no_ 13 ?_
    exact norm_ (by simp only [putAll, Act.put, List.setIfInBounds_toArray, List.set_cons_zero, List.set_cons_succ]) (hCont G _ ⟨F3, hbox, hG⟩)
   ·skip
    refine box_step ?hg (N := 13) ?hd (cs := #[.int .i64 0, .int .i64 0, .bool false, .int .i64 0, .int .i64 0, .int .i64 0]) (t := 105) ?hr ?_; (case hd => rfl); (case hg => rfl); (case hr => first | (go_simp; done) | (go_simp; rfl))
    intro G hg w3 hbox hb
    have F3 := hHeld.below hb
    have hG : w.heap.size + 1 + 1 < G := by rw [hg]; exact blk_lt hHeld.hR
    refine hK.out _ _ F3 (fun hHeld => ?_)
    clear hK K
    refine no_ 13 ?_
    refine one_ (i := 3) (N := some 21) #[true, true, true, true, true, true, false, true, false] rfl rfl (by kernel_rfl) (by decide) (fun K hK => ?_)
    refine goesV_ Try.func67 (by kernel_rfl) rfl #[.int .i64 a2] (by rfl) rfl rfl rfl (by simp only [List.map_toArray, List.map_cons, List.map_nil]; rfl) ?_
    refine (HI.out _).mono ?_
    rintro e_ w_ ⟨rfl, ⟨nd, rfl⟩⟩
    refine ⟨_, rfl, ?_⟩
    have F4 := F3.drewN nd
    refine hK.out _ _ F4 (fun hHeld => ?_)
    clear hK K
    refine no_ 21 ?_
    refine pu_ 6 24 #[true, true, true, true, true, true, true, true, false] ?_
    exact norm_ (by simp only [putAll, Act.put, List.setIfInBounds_toArray, List.set_cons_zero, List.set_cons_succ]) (hCont G _ ⟨F4, blk_drewN hbox _, hG⟩)
  rintro G w4 ⟨F4, kA, hG⟩
  refine norm_ (a' := ?_) ?_ ?_
  rotate_left
  ·simp only [putAll, Act.put, List.setIfInBounds_toArray, List.set_cons_zero, List.set_cons_succ]
   rfl
  refine one_ (i := 8) (N := none) #[true, true, true, true, true, true, true, true, true] rfl rfl (by kernel_rfl) (by decide) (fun K hK => ?_)
  have z0 := blk_cell kA 0
  have f0 := blk_frozen kA 0
  have z1 := blk_cell kA 1
  have f1 := blk_frozen kA 1
  have z2 := blk_cell kA 2
  have f2 := blk_frozen kA 2
  have z3 := blk_cell kA 3
  have f3 := blk_frozen kA 3
  have z4 := blk_cell kA 4
  have f4 := blk_frozen kA 4
  have z5 := blk_cell kA 5
  have f5 := blk_frozen kA 5
  simp only [List.getElem?_toArray, List.getElem?_cons_zero, List.getElem?_cons_succ] at z0 z1 z2 z3 z4 z5
  refine skip_ (w1 := ?_) (by rfl) rfl ?_ ?_
  rotate_left
  ·go_simp
   rfl
  have F5 := (((((F4.far (j := 0) (v := .int .i64 a1_0) hG).far (j := 1) (v := .int .i64 a1_1) hG).far (j := 2) (v := .bool a1_2) hG).far (j := 3) (v := .int .i64 c) hG).far (j := 4) (v := .int .i64 a3) hG).far (j := 5) (v := .int .i64 a4) hG
  refine hK.out _ _ F5 (fun hHeld => ?_)
  clear hK K
  refine done_ (by kernel_rfl) ?_
  (try go_wp2)
  go_meet
  exact ⟨G, rfl, F5, blk_put (blk_put (blk_put (blk_put (blk_put (blk_put kA 0 _ rfl) 1 _ rfl) 2 _ rfl) 3 _ rfl) 4 _ rfl) 5 _ rfl, hG⟩
 case rest =>
  obtain ⟨G, rfl, F0, kA, hG⟩ := hcut
  have b3 := blk_cell kA 3
  simp only [List.getElem?_toArray, List.getElem?_cons_zero, List.getElem?_cons_succ] at b3
  have HF0 := Aside0.mk F0
  have HkA := Aside0.mk kA
  have HhG := Aside0.mk hG
  clear F0 kA hG
  go_upto_region 4 with (fail)
  clear b3
  have F0 := HF0.out
  have kA := HkA.out
  have hG := HhG.out
  clear HF0 HkA HhG
  obtain ⟨v1, v2, hL, hV⟩ := kCases a0_0
  go_cut [15] (fun s wx => ∃ G2 : Nat, s = .pointer (some ⟨G2, 0, none⟩) ∧ PolW w wx #[.int .i64 a0_0, .int .i64 a0_1, .slice A0_2 l0_2.length c0_2, .int .i64 a0_3, .int .i64 a0_4, .int .i64 a0_5, .int .i64 a0_6, .slice A0_7 l0_7.length c0_7] #[.int .i64 a1_0, .int .i64 a1_1, .bool a1_2] ∧ wx.heap[G]? = some (.cells #[.int .i64 a1_0, .int .i64 a1_1, .bool a1_2, .int .i64 c, .int .i64 a3, .int .i64 a4] 105 (0, 0)) ∧ wx.heap[G2]? = some (.cells #[v1, v2] 109 (0, 0)) ∧ w.heap.size + 1 + 1 < G2)
  case first =>
   refine start_ (n := 6) (S := fun w' => PolW w w' #[.int .i64 a0_0, .int .i64 a0_1, .slice A0_2 l0_2.length c0_2, .int .i64 a0_3, .int .i64 a0_4, .int .i64 a0_5, .int .i64 a0_6, .slice A0_7 l0_7.length c0_7] #[.int .i64 a1_0, .int .i64 a1_1, .bool a1_2] ∧ w'.heap[G]? = some (.cells #[.int .i64 a1_0, .int .i64 a1_1, .bool a1_2, .int .i64 c, .int .i64 a3, .int .i64 a4] 105 (0, 0))) (ds := []) #[false, false, false, false, false, false] (by kernel_rfl) rfl rfl ⟨F0.drew, kA⟩ (fun hHeld => ?_)
   generalize wc.drew = w1 at hHeld ⊢
   clear F0 kA
   refine pu_ 1 28 #[false, true, false, false, false, false] ?_
   refine ta_ 2 29 #[false, true, true, false, false, false] hHeld (v := ?_) ?_ ?_
   rotate_left
   ·intro w' hS
    have p0 := blk_cell hS.1.hP 0
    simp only [List.getElem?_toArray, List.getElem?_cons_zero, List.getElem?_cons_succ] at p0
    clear hS
    go_simp
    with_reducible rfl
   refine join_ (σ := Nat × Nat) 1 #[true, true, true, true, true, false] (fun s_ => [(27, .map (some s_.1)), (30, .agg #[v1, v2]), (15, .pointer (some ⟨s_.2, 0, none⟩))]) (fun s_ w' => (PolW w w' #[.int .i64 a0_0, .int .i64 a0_1, .slice A0_2 l0_2.length c0_2, .int .i64 a0_3, .int .i64 a0_4, .int .i64 a0_5, .int .i64 a0_6, .slice A0_7 l0_7.length c0_7] #[.int .i64 a1_0, .int .i64 a1_1, .bool a1_2] ∧ w'.heap[G]? = some (.cells #[.int .i64 a1_0, .int .i64 a1_1, .bool a1_2, .int .i64 c, .int .i64 a3, .int .i64 a4] 105 (0, 0))) ∧ w'.heap[s_.2]? = some (.cells #[.nilFunc, .nilFunc] 109 (0, 0)) ∧ G < s_.2) ?_ ?_
   rotate_left
   ·intro hCont
    refine two_ (i := 0) (j := 4) (Ni := some 27) (Nj := some 15) #[true, true, true, false, false, false] #[false, true, true, false, true, false] rfl rfl rfl rfl (by kernel_rfl) (by decide) (by decide) (fun K hK => ?_) (fun K hK => ?_)
    ·skip
     refine goes_ Try.func68 (by kernel_rfl) rfl #[] (by rfl) rfl rfl (by (try simp only [List.map_toArray, List.map_cons, List.map_nil]); first | done | rfl) ?_
     refine (policy_kinds.calls _).mono ?_
     rintro e_ w_ ⟨rfl, rfl⟩
     refine ⟨_, rfl, ?_⟩
     have hM := alloc_at w1 kMap
     have hbM := below_alloc (Below.refl w1.heap.size w1) kMap
     have F2 := hHeld.1.below hbM
     have kA2 := blk_below hHeld.2 hbM
     refine hK.out _ _ ⟨F2, kA2⟩ (fun hHeld => ?_)
     clear hK K
     refine no_ 27 ?_
     generalize w1.heap.size = M at hM ⊢
     generalize w1.alloc kMap = w2 at F2 kA2 hM hHeld ⊢
     clear hbM
     refine two_ (i := 3) (j := 4) (Ni := some 30) (Nj := some 15) #[true, true, true, true, false, false] #[true, true, true, false, true, false] rfl rfl rfl rfl (by kernel_rfl) (by decide) (by decide) (fun K hK => ?_) (fun K hK => ?_)
     ·skip
      refine value_ (v := .agg #[v1, v2]) (w1 := w2) (by rfl) rfl ?_ ?_
      ·have hl := hL M w2 hM
       go_simp
      refine hK.out _ _ ⟨F2, kA2⟩ (fun hHeld => ?_)
      clear hK K
      refine no_ 30 ?_
      refine one_ (i := 4) (N := some 15) #[true, true, true, true, true, false] rfl rfl (by kernel_rfl) (by decide) (fun K hK => ?_)
      refine box_step ?hg (N := 15) ?hd (cs := #[.nilFunc, .nilFunc]) (t := 109) ?hr ?_; (case hd => rfl); (case hg => rfl); (case hr => first | (go_simp; done) | (go_simp; rfl))
      intro G2 hg w3 hbox hb
      have hG2 : G < G2 := by rw [hg]; exact blk_lt kA2
      refine hK.out _ _ ⟨F2.below hb, blk_below kA2 hb⟩ (fun hHeld => ?_)
      clear hK K
      refine no_ 15 ?_
      exact norm_ (by simp only [putAll, Act.put, List.setIfInBounds_toArray, List.set_cons_zero, List.set_cons_succ]) (hCont (M, G2) _ ⟨⟨F2.below hb, blk_below kA2 hb⟩, hbox, hG2⟩)
     ·skip
      refine box_step ?hg (N := 15) ?hd (cs := #[.nilFunc, .nilFunc]) (t := 109) ?hr ?_; (case hd => rfl); (case hg => rfl); (case hr => first | (go_simp; done) | (go_simp; rfl))
      intro G2 hg w3 hbox hb
      have hG2 : G < G2 := by rw [hg]; exact blk_lt kA2
      have hM := blk_below hM hb
      refine hK.out _ _ ⟨F2.below hb, blk_below kA2 hb⟩ (fun hHeld => ?_)
      clear hK K
      refine no_ 15 ?_
      refine one_ (i := 3) (N := some 30) #[true, true, true, true, true, false] rfl rfl (by kernel_rfl) (by decide) (fun K hK => ?_)
      refine value_ (v := .agg #[v1, v2]) (w1 := w3) (by rfl) rfl ?_ ?_
      ·have hl := hL M w3 hM
       go_simp
      refine hK.out _ _ ⟨F2.below hb, blk_below kA2 hb⟩ (fun hHeld => ?_)
      clear hK K
      refine no_ 30 ?_
      exact norm_ (by simp only [putAll, Act.put, List.setIfInBounds_toArray, List.set_cons_zero, List.set_cons_succ]) (hCont (M, G2) _ ⟨⟨F2.below hb, blk_below kA2 hb⟩, hbox, hG2⟩)
    ·skip
     refine box_step ?hg (N := 15) ?hd (cs := #[.nilFunc, .nilFunc]) (t := 109) ?hr ?_; (case hd => rfl); (case hg => rfl); (case hr => first | (go_simp; done) | (go_simp; rfl))
     intro G2 hg w3 hbox hb
     have hG2 : G < G2 := by rw [hg]; exact blk_lt hHeld.2
     have F2 := hHeld.1.below hb
     have kA2 := blk_below hHeld.2 hb
     refine hK.out _ _ ⟨F2, kA2⟩ (fun hHeld => ?_)
     clear hK K
     refine no_ 15 ?_
     refine one_ (i := 0) (N := some 27) #[true, true, true, false, true, false] rfl rfl (by kernel_rfl) (by decide) (fun K hK => ?_)
     refine goes_ Try.func68 (by kernel_rfl) rfl #[] (by rfl) rfl rfl (by (try simp only [List.map_toArray, List.map_cons, List.map_nil]); first | done | rfl) ?_
     refine (policy_kinds.calls _).mono ?_
     rintro e_ w_ ⟨rfl, rfl⟩
     refine ⟨_, rfl, ?_⟩
     have hM := alloc_at w3 kMap
     have hbM := below_alloc (Below.refl w3.heap.size w3) kMap
     have F3 := F2.below hbM
     have kA3 := blk_below kA2 hbM
     have hbox3 := blk_below hbox hbM
     refine hK.out _ _ ⟨F3, kA3⟩ (fun hHeld => ?_)
     clear hK K
     refine no_ 27 ?_
     generalize w3.heap.size = M at hM ⊢
     generalize w3.alloc kMap = w4 at F3 kA3 hbox3 hM hHeld ⊢
     refine one_ (i := 3) (N := some 30) #[true, true, true, true, true, false] rfl rfl (by kernel_rfl) (by decide) (fun K hK => ?_)
     refine value_ (v := .agg #[v1, v2]) (w1 := w4) (by rfl) rfl ?_ ?_
     ·have hl := hL M w4 hM
      go_simp
     refine hK.out _ _ ⟨F3, kA3⟩ (fun hHeld => ?_)
     clear hK K
     refine no_ 30 ?_
     exact norm_ (by simp only [putAll, Act.put, List.setIfInBounds_toArray, List.set_cons_zero, List.set_cons_succ]) (hCont (M, G2) _ ⟨⟨F3, kA3⟩, hbox3, hG2⟩)
   rintro ⟨M, G2⟩ w4 ⟨⟨F4, kA4⟩, kK, hG2⟩
   refine norm_ (a' := ?_) ?_ ?_
   rotate_left
   ·simp only [putAll, Act.put, List.setIfInBounds_toArray, List.set_cons_zero, List.set_cons_succ]
    rfl
   refine one_ (i := 5) (N := none) #[true, true, true, true, true, true] rfl rfl (by kernel_rfl) (by decide) (fun K hK => ?_)
   have z0 := blk_cell kK 0
   have f0 := blk_frozen kK 0
   have z1 := blk_cell kK 1
   have f1 := blk_frozen kK 1
   simp only [List.getElem?_toArray, List.getElem?_cons_zero, List.getElem?_cons_succ] at z0 z1
   have st1 : (store ⟨G2, 0, none⟩ v1).run Try.prog w4 = .ok () (w4.setCell ⟨G2, 0, none⟩ v1) := by rcases hV with ⟨_, rfl, rfl⟩ | ⟨_, rfl, rfl⟩ | ⟨_, rfl, rfl⟩ | ⟨_, rfl, rfl⟩ | ⟨_, rfl, rfl⟩ <;> first | (go_simp; done) | (go_simp; rfl)
   have st2 : (store ⟨G2, 1, none⟩ v2).run Try.prog (w4.setCell ⟨G2, 0, none⟩ v1) = .ok () ((w4.setCell ⟨G2, 0, none⟩ v1).setCell ⟨G2, 1, none⟩ v2) := by rcases hV with ⟨_, rfl, rfl⟩ | ⟨_, rfl, rfl⟩ | ⟨_, rfl, rfl⟩ | ⟨_, rfl, rfl⟩ | ⟨_, rfl, rfl⟩ <;> first | (go_simp; done) | (go_simp; rfl)
   refine skip_ (w1 := ?_) (by rfl) rfl ?_ ?_
   rotate_left
   ·go_simp
    rfl
   have F5 := (F4.far (j := 0) (v := v1) (by omega : w.heap.size + 1 + 1 < G2)).far (j := 1) (v := v2) (by omega : w.heap.size + 1 + 1 < G2)
   have kA5 := blk_far (p := ⟨G2, 1, none⟩) (blk_far (p := ⟨G2, 0, none⟩) kA4 (by show G ≠ G2; omega) v1) (by show G ≠ G2; omega) v2
   refine hK.out _ _ ⟨F5, kA5⟩ (fun hHeld => ?_)
   clear hK K
   refine done_ (by kernel_rfl) ?_
   (try go_wp2)
   go_meet
   exact ⟨G2, rfl, F5, kA5, blk_put (blk_put kK 0 _ rfl) 1 _ rfl, by omega⟩
  case rest =>
   obtain ⟨G2, rfl, F1, kA1, kK, hG2⟩ := hcut
   have p0 := blk_cell F1.hP 0
   have p1 := blk_cell F1.hP 1
   have p2 := blk_cell F1.hP 2
   have p3 := blk_cell F1.hP 3
   have p4 := blk_cell F1.hP 4
   have p5 := blk_cell F1.hP 5
   have p6 := blk_cell F1.hP 6
   have p7 := blk_cell F1.hP 7
   have b0 := blk_cell kA1 0
   have b1 := blk_cell kA1 1
   have b2 := blk_cell kA1 2
   have b3 := blk_cell kA1 3
   have b4 := blk_cell kA1 4
   have b5 := blk_cell kA1 5
   have q0 := blk_cell kK 0
   have q1 := blk_cell kK 1
   simp only [List.getElem?_toArray, List.getElem?_cons_zero, List.getElem?_cons_succ] at p0 p1 p2 p3 p4 p5 p6 p7 b0 b1 b2 b3 b4 b5 q0 q1
   have HA2 := Aside0.mk (Kd.C_below HR2.out F1.hB)
   have HA7 := Aside0.mk (Kd.C_below HR7.out F1.hB)
   have HF1 := Aside0.mk F1
   clear F1 kA1 kK hG2 hL hG HI
   have e1 := kNeqF
   have e2 := kNeqF'
   have e3 := kNeqN
   have e4 := kNeqN'
   rcases hV with ⟨rfl, rfl, rfl⟩ | ⟨rfl, rfl, rfl⟩ | ⟨rfl, rfl, rfl⟩ | ⟨rfl, rfl, rfl⟩ | ⟨hk, rfl, rfl⟩
   ·have h := Hh.out
    unfold policy_Next.f at h
    rw [if_pos rfl, Hc.out] at h
    obtain ⟨n, hn, h⟩ := Option.bind_eq_some_iff.1 h
    simp only [Option.some.injEq, Prod.mk.injEq] at h
    obtain ⟨rfl, rfl, rfl, rfl⟩ := h
    have Hn := Aside0.mk hn
    clear hn Hh Hc
    go_upto_region 10 with (go_at_call 80; refine (policy_kinds_1.calls 1 a0_1 A0_2 c0_2 l0_2 a0_3 a0_4 a0_5 a0_6 A0_7 c0_7 l0_7 a1_0 a1_1 a1_2 c a3 a4 n _ HA2.out HC2.out HA7.out HC7.out Hn.out).mono ?_; rintro e_ w5 ⟨rfl, hb⟩; have HF2 := Aside0.mk (HF1.out.below hb); clear hb)
    have F2 : PolW w w5 #[.int .i64 1, .int .i64 a0_1, .slice A0_2 l0_2.length c0_2, .int .i64 a0_3, .int .i64 a0_4, .int .i64 a0_5, .int .i64 a0_6, .slice A0_7 l0_7.length c0_7] #[.int .i64 a1_0, .int .i64 a1_1, .bool a1_2] := HF2.out
    clear p0 p1 p2 p3 p4 p5 p6 p7 b0 b1 b2 b3 b4 b5 q0 q1 e1 e2 e3 e4 HF1 HF2
    have F3 := F2.drew
    refine start_ (n := 6) (S := fun w' => w'.heap[w.heap.size + 1]? = some (.cells #[.int .i64 a1_0, .int .i64 a1_1, .bool a1_2] 29 (0, 0))) (ds := []) #[false, false, false, false, false, false] (by kernel_rfl) rfl rfl F3.hS (fun hHeld => ?_)
    clear F2
    generalize (w5).drew = w6 at F3 hHeld ⊢
    refine pu_ 1 57 #[false, true, false, false, false, false] ?_
    refine pu_ 2 58 #[false, true, true, false, false, false] ?_
    refine ta_ 0 56 #[true, true, true, false, false, false] hHeld (v := ?_) ?_ ?_
    rotate_left
    ·intro w' hS
     have s0 := blk_cell hS 0
     have s1 := blk_cell hS 1
     have s2 := blk_cell hS 2
     simp only [List.getElem?_toArray, List.getElem?_cons_zero, List.getElem?_cons_succ] at s0 s1 s2
     clear hS
     go_simp
     with_reducible rfl
    refine one_ (i := 3) (N := some 59) #[true, true, true, true, false, false] rfl rfl (by kernel_rfl) (by decide) (fun K hK => ?_)
    refine goesV_ Try.func67 (by kernel_rfl) rfl #[.int .i64 (n)] (by rfl) rfl rfl rfl (by simp only [List.map_toArray, List.map_cons, List.map_nil]; rfl) ?_
    refine (polInto_any (n) _).mono ?_
    rintro e_ w_ ⟨rfl, ⟨nd, rfl⟩⟩
    refine ⟨_, rfl, ?_⟩
    have F4 := F3.drewN nd
    clear F3
    refine hK.out _ _ F4.hS (fun hHeld => ?_)
    clear hK K
    refine no_ 59 ?_
    generalize w6.drewN nd = w7 at F4 hHeld ⊢
    refine one_ (i := 4) (N := none) #[true, true, true, true, true, false] rfl rfl (by kernel_rfl) (by decide) (fun K hK => ?_)
    have z0 := blk_cell F4.hR 0
    have f0 := blk_frozen F4.hR 0
    have z1 := blk_cell F4.hR 1
    have f1 := blk_frozen F4.hR 1
    have z2 := blk_cell F4.hR 2
    have f2 := blk_frozen F4.hR 2
    simp only [List.getElem?_toArray, List.getElem?_cons_zero, List.getElem?_cons_succ] at z0 z1 z2
    refine skip_ (w1 := ?_) (by rfl) rfl ?_ ?_
    rotate_left
    ·go_simp
     rfl
    have R5 := blk_put (blk_put (blk_put F4.hR 0 (.int .i64 a1_0) rfl) 1 (.int .i64 a1_1) rfl) 2 (.bool a1_2) rfl
    have S5 := blk_far (p := ⟨w.heap.size + 1 + 1, 2, none⟩) (blk_far (p := ⟨w.heap.size + 1 + 1, 1, none⟩) (blk_far (p := ⟨w.heap.size + 1 + 1, 0, none⟩) F4.hS (by show w.heap.size + 1 ≠ w.heap.size + 1 + 1; omega) (.int .i64 a1_0)) (by show w.heap.size + 1 ≠ w.heap.size + 1 + 1; omega) (.int .i64 a1_1)) (by show w.heap.size + 1 ≠ w.heap.size + 1 + 1; omega) (.bool a1_2)
    have B5 := below_set (g := w.heap.size + 1 + 1) (j := 2) (v := .bool a1_2) (below_set (g := w.heap.size + 1 + 1) (j := 1) (v := .int .i64 a1_1) (below_set (g := w.heap.size + 1 + 1) (j := 0) (v := .int .i64 a1_0) F4.hB (by omega)) (by omega)) (by omega)
    clear z0 z1 z2 f0 f1 f2
    refine hK.out _ _ S5 (fun hHeld => ?_)
    clear hK K
    refine pu_ 5 11 #[true, true, true, true, true, true] ?_
    refine done_ (by kernel_rfl) ?_
    have HR5 := Aside0.mk R5
    have HB5 := Aside0.mk B5
    clear R5 B5 S5 hHeld F4
    go_wp2
    refine bodyPost_ret (results_ct rfl _ _ (w.heap.size + 1 + 1) 29 _ (0, 0) _ rfl HR5.out Try.underlying29 rfl (by kernel_rfl)) rfl ?_
    exact ⟨rfl, HB5.out⟩
   ·have h := Hh.out
    unfold policy_Next.f at h
    rw [if_neg (by omega), if_pos rfl, Hc.out] at h
    obtain ⟨n, hn, h⟩ := Option.bind_eq_some_iff.1 h
    simp only [Option.some.injEq, Prod.mk.injEq] at h
    obtain ⟨rfl, rfl, rfl, rfl⟩ := h
    have Hn := Aside0.mk hn
    clear hn Hh Hc
    go_upto_region 10 with (go_at_call 82; refine (policy_kinds_2.calls 2 a0_1 A0_2 c0_2 l0_2 a0_3 a0_4 a0_5 a0_6 A0_7 c0_7 l0_7 a1_0 a1_1 a1_2 c a3 a4 n _ HA2.out HC2.out HA7.out HC7.out Hn.out).mono ?_; rintro e_ w5 ⟨rfl, hb⟩; have HF2 := Aside0.mk (HF1.out.below hb); clear hb)
    have F2 : PolW w w5 #[.int .i64 2, .int .i64 a0_1, .slice A0_2 l0_2.length c0_2, .int .i64 a0_3, .int .i64 a0_4, .int .i64 a0_5, .int .i64 a0_6, .slice A0_7 l0_7.length c0_7] #[.int .i64 a1_0, .int .i64 a1_1, .bool a1_2] := HF2.out
    clear p0 p1 p2 p3 p4 p5 p6 p7 b0 b1 b2 b3 b4 b5 q0 q1 e1 e2 e3 e4 HF1 HF2
    have F3 := F2.drew
    refine start_ (n := 6) (S := fun w' => w'.heap[w.heap.size + 1]? = some (.cells #[.int .i64 a1_0, .int .i64 a1_1, .bool a1_2] 29 (0, 0))) (ds := []) #[false, false, false, false, false, false] (by kernel_rfl) rfl rfl F3.hS (fun hHeld => ?_)
    clear F2
    generalize (w5).drew = w6 at F3 hHeld ⊢
    refine pu_ 1 57 #[false, true, false, false, false, false] ?_
    refine pu_ 2 58 #[false, true, true, false, false, false] ?_
    refine ta_ 0 56 #[true, true, true, false, false, false] hHeld (v := ?_) ?_ ?_
    rotate_left
    ·intro w' hS
     have s0 := blk_cell hS 0
     have s1 := blk_cell hS 1
     have s2 := blk_cell hS 2
     simp only [List.getElem?_toArray, List.getElem?_cons_zero, List.getElem?_cons_succ] at s0 s1 s2
     clear hS
     go_simp
     with_reducible rfl
    refine one_ (i := 3) (N := some 59) #[true, true, true, true, false, false] rfl rfl (by kernel_rfl) (by decide) (fun K hK => ?_)
    refine goesV_ Try.func67 (by kernel_rfl) rfl #[.int .i64 (n)] (by rfl) rfl rfl rfl (by simp only [List.map_toArray, List.map_cons, List.map_nil]; rfl) ?_
    refine (polInto_any (n) _).mono ?_
    rintro e_ w_ ⟨rfl, ⟨nd, rfl⟩⟩
    refine ⟨_, rfl, ?_⟩
    have F4 := F3.drewN nd
    clear F3
    refine hK.out _ _ F4.hS (fun hHeld => ?_)
    clear hK K
    refine no_ 59 ?_
    generalize w6.drewN nd = w7 at F4 hHeld ⊢
    refine one_ (i := 4) (N := none) #[true, true, true, true, true, false] rfl rfl (by kernel_rfl) (by decide) (fun K hK => ?_)
    have z0 := blk_cell F4.hR 0
    have f0 := blk_frozen F4.hR 0
    have z1 := blk_cell F4.hR 1
    have f1 := blk_frozen F4.hR 1
    have z2 := blk_cell F4.hR 2
    have f2 := blk_frozen F4.hR 2
    simp only [List.getElem?_toArray, List.getElem?_cons_zero, List.getElem?_cons_succ] at z0 z1 z2
    refine skip_ (w1 := ?_) (by rfl) rfl ?_ ?_
    rotate_left
    ·go_simp
     rfl
    have R5 := blk_put (blk_put (blk_put F4.hR 0 (.int .i64 a1_0) rfl) 1 (.int .i64 a1_1) rfl) 2 (.bool a1_2) rfl
    have S5 := blk_far (p := ⟨w.heap.size + 1 + 1, 2, none⟩) (blk_far (p := ⟨w.heap.size + 1 + 1, 1, none⟩) (blk_far (p := ⟨w.heap.size + 1 + 1, 0, none⟩) F4.hS (by show w.heap.size + 1 ≠ w.heap.size + 1 + 1; omega) (.int .i64 a1_0)) (by show w.heap.size + 1 ≠ w.heap.size + 1 + 1; omega) (.int .i64 a1_1)) (by show w.heap.size + 1 ≠ w.heap.size + 1 + 1; omega) (.bool a1_2)
    have B5 := below_set (g := w.heap.size + 1 + 1) (j := 2) (v := .bool a1_2) (below_set (g := w.heap.size + 1 + 1) (j := 1) (v := .int .i64 a1_1) (below_set (g := w.heap.size + 1 + 1) (j := 0) (v := .int .i64 a1_0) F4.hB (by omega)) (by omega)) (by omega)
    clear z0 z1 z2 f0 f1 f2
    refine hK.out _ _ S5 (fun hHeld => ?_)
    clear hK K
    refine pu_ 5 11 #[true, true, true, true, true, true] ?_
    refine done_ (by kernel_rfl) ?_
    have HR5 := Aside0.mk R5
    have HB5 := Aside0.mk B5
    clear R5 B5 S5 hHeld F4
    go_wp2
    refine bodyPost_ret (results_ct rfl _ _ (w.heap.size + 1 + 1) 29 _ (0, 0) _ rfl HR5.out Try.underlying29 rfl (by kernel_rfl)) rfl ?_
    exact ⟨rfl, HB5.out⟩
   ·have h := Hh.out
    unfold policy_Next.f at h
    rw [if_neg (by omega), if_neg (by omega), if_pos rfl, Hc.out] at h
    obtain ⟨⟨y1, y2, y3, n⟩, hn, h⟩ := Option.bind_eq_some_iff.1 h
    simp only [Option.some.injEq, Prod.mk.injEq] at h
    obtain ⟨rfl, rfl, rfl, rfl⟩ := h
    have Hn := Aside0.mk hn
    clear hn Hh Hc
    go_upto_region 10 with (go_at_call 84; refine (policy_kinds_3.calls k 3 a0_1 A0_2 c0_2 l0_2 a0_3 a0_4 a0_5 a0_6 A0_7 c0_7 l0_7 a1_0 a1_1 a1_2 c a3 a4 y1 y2 y3 n _ HA2.out HC2.out HA7.out HC7.out Hn.out).mono ?_; rintro e_ w5 ⟨rfl, hb⟩; have HF2 := Aside0.mk (HF1.out.below hb); clear hb; have t0 := fun o => (HF2.out.cells o).1; have t1 := fun o => (HF2.out.cells o).2.1; have t2 := fun o => (HF2.out.cells o).2.2; have tf0 := fun o => blk_frozen (blk_alloc HF2.out.hS o) 0; have tf1 := fun o => blk_frozen (blk_alloc HF2.out.hS o) 1; have tf2 := fun o => blk_frozen (blk_alloc HF2.out.hS o) 2)
    have F2 : PolW w ((((w5.alloc (.cells #[.int .i64 y1, .int .i64 y2, .bool y3] 29)).setCell ⟨w.heap.size + 1, 0, none⟩ (.int .i64 y1)).setCell ⟨w.heap.size + 1, 1, none⟩ (.int .i64 y2)).setCell ⟨w.heap.size + 1, 2, none⟩ (.bool y3)) #[.int .i64 3, .int .i64 a0_1, .slice A0_2 l0_2.length c0_2, .int .i64 a0_3, .int .i64 a0_4, .int .i64 a0_5, .int .i64 a0_6, .slice A0_7 l0_7.length c0_7] #[.int .i64 y1, .int .i64 y2, .bool y3] := (HF2.out.alloc _).put _ _ _
    clear p0 p1 p2 p3 p4 p5 p6 p7 b0 b1 b2 b3 b4 b5 q0 q1 e1 e2 e3 e4 HF1 t0 t1 t2 tf0 tf1 tf2 HF2
    generalize ((((w5.alloc (.cells #[.int .i64 y1, .int .i64 y2, .bool y3] 29)).setCell ⟨w.heap.size + 1, 0, none⟩ (.int .i64 y1)).setCell ⟨w.heap.size + 1, 1, none⟩ (.int .i64 y2)).setCell ⟨w.heap.size + 1, 2, none⟩ (.bool y3)) = w5b at F2 ⊢
    have F3 := F2.drew
    refine start_ (n := 6) (S := fun w' => w'.heap[w.heap.size + 1]? = some (.cells #[.int .i64 y1, .int .i64 y2, .bool y3] 29 (0, 0))) (ds := []) #[false, false, false, false, false, false] (by kernel_rfl) rfl rfl F3.hS (fun hHeld => ?_)
    clear F2
    generalize (w5b).drew = w6 at F3 hHeld ⊢
    refine pu_ 1 57 #[false, true, false, false, false, false] ?_
    refine pu_ 2 58 #[false, true, true, false, false, false] ?_
    refine ta_ 0 56 #[true, true, true, false, false, false] hHeld (v := ?_) ?_ ?_
    rotate_left
    ·intro w' hS
     have s0 := blk_cell hS 0
     have s1 := blk_cell hS 1
     have s2 := blk_cell hS 2
     simp only [List.getElem?_toArray, List.getElem?_cons_zero, List.getElem?_cons_succ] at s0 s1 s2
     clear hS
     go_simp
     with_reducible rfl
    refine one_ (i := 3) (N := some 59) #[true, true, true, true, false, false] rfl rfl (by kernel_rfl) (by decide) (fun K hK => ?_)
    refine goesV_ Try.func67 (by kernel_rfl) rfl #[.int .i64 (wrap64 (c + n))] (by rfl) rfl rfl rfl (by simp only [List.map_toArray, List.map_cons, List.map_nil]; rfl) ?_
    refine (polInto_any (wrap64 (c + n)) _).mono ?_
    rintro e_ w_ ⟨rfl, ⟨nd, rfl⟩⟩
    refine ⟨_, rfl, ?_⟩
    have F4 := F3.drewN nd
    clear F3
    refine hK.out _ _ F4.hS (fun hHeld => ?_)
    clear hK K
    refine no_ 59 ?_
    generalize w6.drewN nd = w7 at F4 hHeld ⊢
    refine one_ (i := 4) (N := none) #[true, true, true, true, true, false] rfl rfl (by kernel_rfl) (by decide) (fun K hK => ?_)
    have z0 := blk_cell F4.hR 0
    have f0 := blk_frozen F4.hR 0
    have z1 := blk_cell F4.hR 1
    have f1 := blk_frozen F4.hR 1
    have z2 := blk_cell F4.hR 2
    have f2 := blk_frozen F4.hR 2
    simp only [List.getElem?_toArray, List.getElem?_cons_zero, List.getElem?_cons_succ] at z0 z1 z2
    refine skip_ (w1 := ?_) (by rfl) rfl ?_ ?_
    rotate_left
    ·go_simp
     rfl
    have R5 := blk_put (blk_put (blk_put F4.hR 0 (.int .i64 y1) rfl) 1 (.int .i64 y2) rfl) 2 (.bool y3) rfl
    have S5 := blk_far (p := ⟨w.heap.size + 1 + 1, 2, none⟩) (blk_far (p := ⟨w.heap.size + 1 + 1, 1, none⟩) (blk_far (p := ⟨w.heap.size + 1 + 1, 0, none⟩) F4.hS (by show w.heap.size + 1 ≠ w.heap.size + 1 + 1; omega) (.int .i64 y1)) (by show w.heap.size + 1 ≠ w.heap.size + 1 + 1; omega) (.int .i64 y2)) (by show w.heap.size + 1 ≠ w.heap.size + 1 + 1; omega) (.bool y3)
    have B5 := below_set (g := w.heap.size + 1 + 1) (j := 2) (v := .bool y3) (below_set (g := w.heap.size + 1 + 1) (j := 1) (v := .int .i64 y2) (below_set (g := w.heap.size + 1 + 1) (j := 0) (v := .int .i64 y1) F4.hB (by omega)) (by omega)) (by omega)
    clear z0 z1 z2 f0 f1 f2
    refine hK.out _ _ S5 (fun hHeld => ?_)
    clear hK K
    refine pu_ 5 11 #[true, true, true, true, true, true] ?_
    refine done_ (by kernel_rfl) ?_
    have HR5 := Aside0.mk R5
    have HB5 := Aside0.mk B5
    clear R5 B5 S5 hHeld F4
    go_wp2
    refine bodyPost_ret (results_ct rfl _ _ (w.heap.size + 1 + 1) 29 _ (0, 0) _ rfl HR5.out Try.underlying29 rfl (by kernel_rfl)) rfl ?_
    exact ⟨rfl, HB5.out⟩
   ·have h := Hh.out
    unfold policy_Next.f at h
    rw [if_neg (by omega), if_neg (by omega), if_neg (by omega), if_pos rfl, Hc.out] at h
    obtain ⟨n, hn, h⟩ := Option.bind_eq_some_iff.1 h
    simp only [Option.some.injEq, Prod.mk.injEq] at h
    obtain ⟨rfl, rfl, rfl, rfl⟩ := h
    have Hn := Aside0.mk hn
    clear hn Hh Hc
    go_upto_region 10 with (go_at_call 86; refine (policy_kinds_4.calls 4 a0_1 A0_2 c0_2 l0_2 a0_3 a0_4 a0_5 a0_6 A0_7 c0_7 l0_7 a1_0 a1_1 a1_2 c a3 a4 n _ HA2.out HC2.out HA7.out HC7.out Hn.out).mono ?_; rintro e_ w5 ⟨rfl, hb⟩; have HF2 := Aside0.mk (HF1.out.below hb); clear hb)
    have F2 : PolW w w5 #[.int .i64 4, .int .i64 a0_1, .slice A0_2 l0_2.length c0_2, .int .i64 a0_3, .int .i64 a0_4, .int .i64 a0_5, .int .i64 a0_6, .slice A0_7 l0_7.length c0_7] #[.int .i64 a1_0, .int .i64 a1_1, .bool a1_2] := HF2.out
    clear p0 p1 p2 p3 p4 p5 p6 p7 b0 b1 b2 b3 b4 b5 q0 q1 e1 e2 e3 e4 HF1 HF2
    have F3 := F2.drew
    refine start_ (n := 6) (S := fun w' => w'.heap[w.heap.size + 1]? = some (.cells #[.int .i64 a1_0, .int .i64 a1_1, .bool a1_2] 29 (0, 0))) (ds := []) #[false, false, false, false, false, false] (by kernel_rfl) rfl rfl F3.hS (fun hHeld => ?_)
    clear F2
    generalize (w5).drew = w6 at F3 hHeld ⊢
    refine pu_ 1 57 #[false, true, false, false, false, false] ?_
    refine pu_ 2 58 #[false, true, true, false, false, false] ?_
    refine ta_ 0 56 #[true, true, true, false, false, false] hHeld (v := ?_) ?_ ?_
    rotate_left
    ·intro w' hS
     have s0 := blk_cell hS 0
     have s1 := blk_cell hS 1
     have s2 := blk_cell hS 2
     simp only [List.getElem?_toArray, List.getElem?_cons_zero, List.getElem?_cons_succ] at s0 s1 s2
     clear hS
     go_simp
     with_reducible rfl
    refine one_ (i := 3) (N := some 59) #[true, true, true, true, false, false] rfl rfl (by kernel_rfl) (by decide) (fun K hK => ?_)
    refine goesV_ Try.func67 (by kernel_rfl) rfl #[.int .i64 (n)] (by rfl) rfl rfl rfl (by simp only [List.map_toArray, List.map_cons, List.map_nil]; rfl) ?_
    refine (polInto_any (n) _).mono ?_
    rintro e_ w_ ⟨rfl, ⟨nd, rfl⟩⟩
    refine ⟨_, rfl, ?_⟩
    have F4 := F3.drewN nd
    clear F3
    refine hK.out _ _ F4.hS (fun hHeld => ?_)
    clear hK K
    refine no_ 59 ?_
    generalize w6.drewN nd = w7 at F4 hHeld ⊢
    refine one_ (i := 4) (N := none) #[true, true, true, true, true, false] rfl rfl (by kernel_rfl) (by decide) (fun K hK => ?_)
    have z0 := blk_cell F4.hR 0
    have f0 := blk_frozen F4.hR 0
    have z1 := blk_cell F4.hR 1
    have f1 := blk_frozen F4.hR 1
    have z2 := blk_cell F4.hR 2
    have f2 := blk_frozen F4.hR 2
    simp only [List.getElem?_toArray, List.getElem?_cons_zero, List.getElem?_cons_succ] at z0 z1 z2
    refine skip_ (w1 := ?_) (by rfl) rfl ?_ ?_
    rotate_left
    ·go_simp
     rfl
    have R5 := blk_put (blk_put (blk_put F4.hR 0 (.int .i64 a1_0) rfl) 1 (.int .i64 a1_1) rfl) 2 (.bool a1_2) rfl
    have S5 := blk_far (p := ⟨w.heap.size + 1 + 1, 2, none⟩) (blk_far (p := ⟨w.heap.size + 1 + 1, 1, none⟩) (blk_far (p := ⟨w.heap.size + 1 + 1, 0, none⟩) F4.hS (by show w.heap.size + 1 ≠ w.heap.size + 1 + 1; omega) (.int .i64 a1_0)) (by show w.heap.size + 1 ≠ w.heap.size + 1 + 1; omega) (.int .i64 a1_1)) (by show w.heap.size + 1 ≠ w.heap.size + 1 + 1; omega) (.bool a1_2)
    have B5 := below_set (g := w.heap.size + 1 + 1) (j := 2) (v := .bool a1_2) (below_set (g := w.heap.size + 1 + 1) (j := 1) (v := .int .i64 a1_1) (below_set (g := w.heap.size + 1 + 1) (j := 0) (v := .int .i64 a1_0) F4.hB (by omega)) (by omega)) (by omega)
    clear z0 z1 z2 f0 f1 f2
    refine hK.out _ _ S5 (fun hHeld => ?_)
    clear hK K
    refine pu_ 5 11 #[true, true, true, true, true, true] ?_
    refine done_ (by kernel_rfl) ?_
    have HR5 := Aside0.mk R5
    have HB5 := Aside0.mk B5
    clear R5 B5 S5 hHeld F4
    go_wp2
    refine bodyPost_ret (results_ct rfl _ _ (w.heap.size + 1 + 1) 29 _ (0, 0) _ rfl HR5.out Try.underlying29 rfl (by kernel_rfl)) rfl ?_
    exact ⟨rfl, HB5.out⟩
   ·have h := Hh.out
    unfold policy_Next.f at h
    rw [if_neg hk.1, if_neg hk.2.1, if_neg hk.2.2.1, if_neg hk.2.2.2, Hc.out] at h
    simp only [Option.some.injEq, Prod.mk.injEq] at h
    obtain ⟨rfl, rfl, rfl, rfl⟩ := h
    clear hk Hh Hc
    go_upto_region 10 with (fail)
    have F2 : PolW w wc #[.int .i64 a0_0, .int .i64 a0_1, .slice A0_2 l0_2.length c0_2, .int .i64 a0_3, .int .i64 a0_4, .int .i64 a0_5, .int .i64 a0_6, .slice A0_7 l0_7.length c0_7] #[.int .i64 a1_0, .int .i64 a1_1, .bool a1_2] := HF1.out
    clear p0 p1 p2 p3 p4 p5 p6 p7 b0 b1 b2 b3 b4 b5 q0 q1 e1 e2 e3 e4 HF1
    have F3 := F2.drew
    refine start_ (n := 6) (S := fun w' => w'.heap[w.heap.size + 1]? = some (.cells #[.int .i64 a1_0, .int .i64 a1_1, .bool a1_2] 29 (0, 0))) (ds := []) #[false, false, false, false, false, false] (by kernel_rfl) rfl rfl F3.hS (fun hHeld => ?_)
    clear F2
    generalize (wc).drew = w6 at F3 hHeld ⊢
    refine pu_ 1 57 #[false, true, false, false, false, false] ?_
    refine pu_ 2 58 #[false, true, true, false, false, false] ?_
    refine ta_ 0 56 #[true, true, true, false, false, false] hHeld (v := ?_) ?_ ?_
    rotate_left
    ·intro w' hS
     have s0 := blk_cell hS 0
     have s1 := blk_cell hS 1
     have s2 := blk_cell hS 2
     simp only [List.getElem?_toArray, List.getElem?_cons_zero, List.getElem?_cons_succ] at s0 s1 s2
     clear hS
     go_simp
     with_reducible rfl
    refine one_ (i := 3) (N := some 59) #[true, true, true, true, false, false] rfl rfl (by kernel_rfl) (by decide) (fun K hK => ?_)
    refine goesV_ Try.func67 (by kernel_rfl) rfl #[.int .i64 (c)] (by rfl) rfl rfl rfl (by simp only [List.map_toArray, List.map_cons, List.map_nil]; rfl) ?_
    refine (polInto_any (c) _).mono ?_
    rintro e_ w_ ⟨rfl, ⟨nd, rfl⟩⟩
    refine ⟨_, rfl, ?_⟩
    have F4 := F3.drewN nd
    clear F3
    refine hK.out _ _ F4.hS (fun hHeld => ?_)
    clear hK K
    refine no_ 59 ?_
    generalize w6.drewN nd = w7 at F4 hHeld ⊢
    refine one_ (i := 4) (N := none) #[true, true, true, true, true, false] rfl rfl (by kernel_rfl) (by decide) (fun K hK => ?_)
    have z0 := blk_cell F4.hR 0
    have f0 := blk_frozen F4.hR 0
    have z1 := blk_cell F4.hR 1
    have f1 := blk_frozen F4.hR 1
    have z2 := blk_cell F4.hR 2
    have f2 := blk_frozen F4.hR 2
    simp only [List.getElem?_toArray, List.getElem?_cons_zero, List.getElem?_cons_succ] at z0 z1 z2
    refine skip_ (w1 := ?_) (by rfl) rfl ?_ ?_
    rotate_left
    ·go_simp
     rfl
    have R5 := blk_put (blk_put (blk_put F4.hR 0 (.int .i64 a1_0) rfl) 1 (.int .i64 a1_1) rfl) 2 (.bool a1_2) rfl
    have S5 := blk_far (p := ⟨w.heap.size + 1 + 1, 2, none⟩) (blk_far (p := ⟨w.heap.size + 1 + 1, 1, none⟩) (blk_far (p := ⟨w.heap.size + 1 + 1, 0, none⟩) F4.hS (by show w.heap.size + 1 ≠ w.heap.size + 1 + 1; omega) (.int .i64 a1_0)) (by show w.heap.size + 1 ≠ w.heap.size + 1 + 1; omega) (.int .i64 a1_1)) (by show w.heap.size + 1 ≠ w.heap.size + 1 + 1; omega) (.bool a1_2)
    have B5 := below_set (g := w.heap.size + 1 + 1) (j := 2) (v := .bool a1_2) (below_set (g := w.heap.size + 1 + 1) (j := 1) (v := .int .i64 a1_1) (below_set (g := w.heap.size + 1 + 1) (j := 0) (v := .int .i64 a1_0) F4.hB (by omega)) (by omega)) (by omega)
    clear z0 z1 z2 f0 f1 f2
    refine hK.out _ _ S5 (fun hHeld => ?_)
    clear hK K
    refine pu_ 5 11 #[true, true, true, true, true, true] ?_
    refine done_ (by kernel_rfl) ?_
    have HR5 := Aside0.mk R5
    have HB5 := Aside0.mk B5
    clear R5 B5 S5 hHeld F4
    go_wp2
    refine bodyPost_ret (results_ct rfl _ _ (w.heap.size + 1 + 1) 29 _ (0, 0) _ rfl HR5.out Try.underlying29 rfl (by kernel_rfl)) rfl ?_
    exact ⟨rfl, HB5.out⟩
/-! ### governorref09_within: function 23 -/
def governorref09_within.f (a0 : Int) (a1 : Int) (a2 : Int) : Option (Bool) := if a0 ≥ a1 then (some (decide (a0 ≤ a2))) else (some false)
set_option maxHeartbeats 8000000 in
set_option maxRecDepth 100000 in
theorem governorref09_within.calls (a0 : Int) (a1 : Int) (a2 : Int) (r : Bool) (w : World) (h : governorref09_within.f a0 a1 a2 = some r) :
  Calls Try.prog 23 #[.int .i64 a0, .int .i64 a1, .int .i64 a2] w fun e w' => e = .returned (.bool r) ∧ Drawn0 w w' := by
 have H : (if a0 ≥ a1 then (some (decide (a0 ≤ a2))) else (some false)) = some r := h
 clear h
 by_cases c4 : a0 ≥ a1
 ·rw [if_pos c4] at H
  have c4b0 : decide (a1 ≤ a0) = true := decide_eq_true c4
  clear c4
  obtain rfl := Option.some.inj H
  go_enter Try.func23, Try.ntmps23
  go_wp2
  go_ret
  exact ⟨by first | rfl | (simp; done) | (simp [*]; done), by repeat (first | exact Drawn0.refl _ | apply Drawn0.step)⟩
 ·rw [if_neg c4] at H
  have c4b0 : decide (a1 ≤ a0) = false := decide_eq_false c4
  clear c4
  obtain rfl := Option.some.inj H
  go_enter Try.func23, Try.ntmps23
  go_wp2
  go_ret
  exact ⟨by first | rfl | (simp; done) | (simp [*]; done), by repeat (first | exact Drawn0.refl _ | apply Drawn0.step)⟩
/-! ### governorref09_none: function 43 -/
def noneB (tg kp ki kd pe lb ls : Int) (a1 a2 a3 a4 : Bool) : Bool := (!a1 || tg == 0) && ((!a2 || lb == 0) && ((!a3 || (kp == 0 && (ki == 0 && kd == 0))) && (!a4 || (pe == 0 && ls == 0))))
def governorref09_none.f (a0_0 : Int) (a0_1 : Int) (l0_2 : List (S56)) (a0_3 : Int) (a0_4 : Int) (a0_5 : Int) (a0_6 : Int) (l0_7 : List (S58)) (a1 : Bool) (a2 : Bool) (a3 : Bool) (a4 : Bool) : Option (Bool) :=
 some (noneB a0_1 a0_3 a0_4 a0_5 a0_6 (l0_2.length : Int) (l0_7.length : Int) a1 a2 a3 a4)
theorem nB1 (a : Bool) (x : Int) : a = false ∨ (a = true ∧ (x == 0) = true) ∨ (a = true ∧ (x == 0) = false) := by
 cases a <;> cases (x == 0) <;> simp
theorem nB2 (a : Bool) (x y : Int) : a = false ∨ (a = true ∧ (x == 0) = true ∧ (y == 0) = true) ∨ (a = true ∧ (x == 0) = true ∧ (y == 0) = false) ∨ (a = true ∧ (x == 0) = false) := by
 cases a <;> cases (x == 0) <;> cases (y == 0) <;> simp
theorem nB3 (a : Bool) (x y z : Int) : a = false ∨ (a = true ∧ (x == 0) = true ∧ (y == 0) = true ∧ (z == 0) = true) ∨ (a = true ∧ (x == 0) = true ∧ (y == 0) = true ∧ (z == 0) = false) ∨ (a = true ∧ (x == 0) = true ∧ (y == 0) = false) ∨ (a = true ∧ (x == 0) = false) := by
 cases a <;> cases (x == 0) <;> cases (y == 0) <;> cases (z == 0) <;> simp
set_option maxHeartbeats 8000000 in
set_option maxRecDepth 100000 in
theorem governorref09_none.calls (a0_0 : Int) (a0_1 : Int) (A0_2 : Option Addr) (c0_2 : Nat) (l0_2 : List (S56)) (a0_3 : Int) (a0_4 : Int) (a0_5 : Int) (a0_6 : Int) (A0_7 : Option Addr) (c0_7 : Nat) (l0_7 : List (S58)) (a1 : Bool) (a2 : Bool) (a3 : Bool) (a4 : Bool) (r : Bool) (w : World) (hr0_2 : Kd.C k56 w A0_2 l0_2.length l0_2) (hc0_2 : l0_2.length ≤ c0_2) (hr0_7 : Kd.C k58 w A0_7 l0_7.length l0_7) (hc0_7 : l0_7.length ≤ c0_7) (h : governorref09_none.f a0_0 a0_1 l0_2 a0_3 a0_4 a0_5 a0_6 l0_7 a1 a2 a3 a4 = some r) :
  Calls Try.prog 43 #[.agg #[.int .i64 a0_0, .int .i64 a0_1, .slice A0_2 l0_2.length c0_2, .int .i64 a0_3, .int .i64 a0_4, .int .i64 a0_5, .int .i64 a0_6, .slice A0_7 l0_7.length c0_7], .bool a1, .bool a2, .bool a3, .bool a4] w fun e w' => e = .returned (.bool r) ∧ Below w.heap.size w w' := by
 have hu45 := Try.underlying27
 obtain rfl := Option.some.inj h
 clear h hr0_2 hc0_2 hr0_7 hc0_7
 have HB := Aside0.mk (Below.refl w.heap.size w)
 rcases nB1 a1 a0_1 with rfl | ⟨rfl, q1⟩ | ⟨rfl, q1⟩
 rotate_left 2
 ·go_enter Try.func43, Try.ntmps43; go_wp2; go_ret; exact ⟨by first | rfl | simp [noneB, *], by repeat (first | (with_reducible first | exact HB.out | apply below_alloc | apply pw_below_drewN | apply below_drew1) | exact HB.out)⟩
 all_goals
  rcases nB1 a2 (l0_2.length : Int) with rfl | ⟨rfl, q2⟩ | ⟨rfl, q2⟩
  rotate_left 2
  ·go_enter Try.func43, Try.ntmps43; go_wp2; go_ret; exact ⟨by first | rfl | simp [noneB, *], by repeat (first | (with_reducible first | exact HB.out | apply below_alloc | apply pw_below_drewN | apply below_drew1) | exact HB.out)⟩
  all_goals
   rcases nB3 a3 a0_3 a0_4 a0_5 with rfl | ⟨rfl, q3, q4, q5⟩ | ⟨rfl, q3, q4, q5⟩ | ⟨rfl, q3, q4⟩ | ⟨rfl, q3⟩
   rotate_left 2
   ·go_enter Try.func43, Try.ntmps43; go_wp2; go_ret; exact ⟨by first | rfl | simp [noneB, *], by repeat (first | (with_reducible first | exact HB.out | apply below_alloc | apply pw_below_drewN | apply below_drew1) | exact HB.out)⟩
   ·go_enter Try.func43, Try.ntmps43; go_wp2; go_ret; exact ⟨by first | rfl | simp [noneB, *], by repeat (first | (with_reducible first | exact HB.out | apply below_alloc | apply pw_below_drewN | apply below_drew1) | exact HB.out)⟩
   ·go_enter Try.func43, Try.ntmps43; go_wp2; go_ret; exact ⟨by first | rfl | simp [noneB, *], by repeat (first | (with_reducible first | exact HB.out | apply below_alloc | apply pw_below_drewN | apply below_drew1) | exact HB.out)⟩
   all_goals
    rcases nB2 a4 a0_6 (l0_7.length : Int) with rfl | ⟨rfl, q6, q7⟩ | ⟨rfl, q6, q7⟩ | ⟨rfl, q6⟩
    all_goals (go_enter Try.func43, Try.ntmps43; go_wp2; go_ret; exact ⟨by first | rfl | simp [noneB, *], by repeat (first | (with_reducible first | exact HB.out | apply below_alloc | apply pw_below_drewN | apply below_drew1) | exact HB.out)⟩)
/-! ### governorref09_Conf: function 10 -/
def wB (n lo hi : Int) : Bool := decide (lo ≤ n) && decide (n ≤ hi)
def cfSize (a0 a1 a2 : Int) : Bool := decide (1 ≤ a0) && (decide (a0 ≤ a1) && (decide (a1 ≤ 1000) && (decide (1 ≤ a2) && decide (a2 ≤ 1000))))
def cfPlant (a3 a4 a5 a6 : Int) : Bool := wB a3 0 1099511627776 && (wB a4 1 1000000 && (decide (0 ≤ a5) && (decide (a5 ≤ 8) && wB a6 0 1000000000)))
def cfJudge (a7 a8 a9 a10 a11 : Int) : Bool := decide (1 ≤ a7) && (decide (a7 ≤ 32) && (wB a8 0 1000000000 && (decide (0 ≤ a9) && (decide (a9 ≤ 32) && (decide (1 ≤ a10) && (decide (a10 ≤ 32) && (decide (0 ≤ a11) && decide (a11 ≤ 32))))))))
def governorref09_Conf.f (a0_0 : Int) (a0_1 : Int) (a0_2 : Int) (a0_3 : Int) (a0_4 : Int) (a0_5 : Int) (a0_6 : Int) (a0_7 : Int) (a0_8 : Int) (a0_9 : Int) (a0_10 : Int) (a0_11 : Int) : Option (Bool) :=
 some (cfSize a0_0 a0_1 a0_2 && (cfPlant a0_3 a0_4 a0_5 a0_6 && cfJudge a0_7 a0_8 a0_9 a0_10 a0_11))
theorem wB_any (n lo hi : Int) (w : World) : Calls Try.prog 23 #[.int .i64 n, .int .i64 lo, .int .i64 hi] w fun e w' => e = .returned (.bool (wB n lo hi)) ∧ Drawn0 w w' :=
 governorref09_within.calls n lo hi (wB n lo hi) w (by unfold governorref09_within.f wB; by_cases h : lo ≤ n <;> simp [h])
theorem wB_t {n lo hi : Int} (h : wB n lo hi = true) (w : World) : Calls Try.prog 23 #[.int .i64 n, .int .i64 lo, .int .i64 hi] w fun e w' => e = .returned (.bool true) ∧ Drawn0 w w' := h ▸ wB_any n lo hi w
theorem wB_f {n lo hi : Int} (h : wB n lo hi = false) (w : World) : Calls Try.prog 23 #[.int .i64 n, .int .i64 lo, .int .i64 hi] w fun e w' => e = .returned (.bool false) ∧ Drawn0 w w' := h ▸ wB_any n lo hi w
set_option maxHeartbeats 4000000 in
set_option maxRecDepth 100000 in
theorem governorref09_Conf.calls (a0_0 : Int) (a0_1 : Int) (a0_2 : Int) (a0_3 : Int) (a0_4 : Int) (a0_5 : Int) (a0_6 : Int) (a0_7 : Int) (a0_8 : Int) (a0_9 : Int) (a0_10 : Int) (a0_11 : Int) (r : Bool) (w : World) (h : governorref09_Conf.f a0_0 a0_1 a0_2 a0_3 a0_4 a0_5 a0_6 a0_7 a0_8 a0_9 a0_10 a0_11 = some r) :
  Calls Try.prog 10 #[.agg #[.int .i64 a0_0, .int .i64 a0_1, .int .i64 a0_2, .int .i64 a0_3, .int .i64 a0_4, .int .i64 a0_5, .int .i64 a0_6, .int .i64 a0_7, .int .i64 a0_8, .int .i64 a0_9, .int .i64 a0_10, .int .i64 a0_11]] w fun e w' => e = .returned (.bool r) ∧ Below w.heap.size w w' := by
 have hu37 := Try.underlying23
 obtain rfl := Option.some.inj h
 clear h
 go_enter Try.func10, Try.ntmps10
 go_upto_region 1 with (fail)
 go_cut [3] (fun s wx => s = .bool (cfSize a0_0 a0_1 a0_2) ∧ Drawn0 (w.alloc (.cells #[.int .i64 a0_0, .int .i64 a0_1, .int .i64 a0_2, .int .i64 a0_3, .int .i64 a0_4, .int .i64 a0_5, .int .i64 a0_6, .int .i64 a0_7, .int .i64 a0_8, .int .i64 a0_9, .int .i64 a0_10, .int .i64 a0_11] 23)) wx)
 case first =>
  cases c0 : decide (1 ≤ a0_0)
  case false => (go_wp2; go_meet; exact ⟨by simp [cfSize, *], by repeat (first | exact Drawn0.refl _ | apply Drawn0.step)⟩)
  case true =>
   cases c1 : decide (a0_0 ≤ a0_1)
   case false => (go_wp2; go_meet; exact ⟨by simp [cfSize, *], by repeat (first | exact Drawn0.refl _ | apply Drawn0.step)⟩)
   case true =>
    cases c2 : decide (a0_1 ≤ 1000)
    case false => (go_wp2; go_meet; exact ⟨by simp [cfSize, *], by repeat (first | exact Drawn0.refl _ | apply Drawn0.step)⟩)
    case true =>
     cases c3 : decide (1 ≤ a0_2)
     case false => (go_wp2; go_meet; exact ⟨by simp [cfSize, *], by repeat (first | exact Drawn0.refl _ | apply Drawn0.step)⟩)
     case true =>
      cases c4 : decide (a0_2 ≤ 1000)
      case false => (go_wp2; go_meet; exact ⟨by simp [cfSize, *], by repeat (first | exact Drawn0.refl _ | apply Drawn0.step)⟩)
      case true =>
       (go_wp2; go_meet; exact ⟨by simp [cfSize, *], by repeat (first | exact Drawn0.refl _ | apply Drawn0.step)⟩)
 case rest =>
  obtain ⟨rfl, ⟨n1, rfl⟩⟩ := hcut
  go_upto_region 2 with (fail)
  go_cut [4] (fun s wx => s = .bool (cfPlant a0_3 a0_4 a0_5 a0_6) ∧ Drawn0 (w.alloc (.cells #[.int .i64 a0_0, .int .i64 a0_1, .int .i64 a0_2, .int .i64 a0_3, .int .i64 a0_4, .int .i64 a0_5, .int .i64 a0_6, .int .i64 a0_7, .int .i64 a0_8, .int .i64 a0_9, .int .i64 a0_10, .int .i64 a0_11] 23)) wx)
  case first =>
   cases c0 : wB a0_3 0 1099511627776
   case false => (go_wp2_with (first | (go_at_call 23; (with_reducible refine (wB_t (by assumption) _).mono ?_); rintro e w' ⟨rfl, ⟨_, rfl⟩⟩) | (go_at_call 23; (with_reducible refine (wB_f (by assumption) _).mono ?_); rintro e w' ⟨rfl, ⟨_, rfl⟩⟩)); go_meet; exact ⟨by simp [cfPlant, *], by repeat (first | exact Drawn0.refl _ | apply Drawn0.step)⟩)
   case true =>
    cases c1 : wB a0_4 1 1000000
    case false => (go_wp2_with (first | (go_at_call 23; (with_reducible refine (wB_t (by assumption) _).mono ?_); rintro e w' ⟨rfl, ⟨_, rfl⟩⟩) | (go_at_call 23; (with_reducible refine (wB_f (by assumption) _).mono ?_); rintro e w' ⟨rfl, ⟨_, rfl⟩⟩)); go_meet; exact ⟨by simp [cfPlant, *], by repeat (first | exact Drawn0.refl _ | apply Drawn0.step)⟩)
    case true =>
     cases c2 : decide (0 ≤ a0_5)
     case false => (go_wp2_with (first | (go_at_call 23; (with_reducible refine (wB_t (by assumption) _).mono ?_); rintro e w' ⟨rfl, ⟨_, rfl⟩⟩) | (go_at_call 23; (with_reducible refine (wB_f (by assumption) _).mono ?_); rintro e w' ⟨rfl, ⟨_, rfl⟩⟩)); go_meet; exact ⟨by simp [cfPlant, *], by repeat (first | exact Drawn0.refl _ | apply Drawn0.step)⟩)
     case true =>
      cases c3 : decide (a0_5 ≤ 8)
      case false => (go_wp2_with (first | (go_at_call 23; (with_reducible refine (wB_t (by assumption) _).mono ?_); rintro e w' ⟨rfl, ⟨_, rfl⟩⟩) | (go_at_call 23; (with_reducible refine (wB_f (by assumption) _).mono ?_); rintro e w' ⟨rfl, ⟨_, rfl⟩⟩)); go_meet; exact ⟨by simp [cfPlant, *], by repeat (first | exact Drawn0.refl _ | apply Drawn0.step)⟩)
      case true =>
       cases c4 : wB a0_6 0 1000000000
       case false => (go_wp2_with (first | (go_at_call 23; (with_reducible refine (wB_t (by assumption) _).mono ?_); rintro e w' ⟨rfl, ⟨_, rfl⟩⟩) | (go_at_call 23; (with_reducible refine (wB_f (by assumption) _).mono ?_); rintro e w' ⟨rfl, ⟨_, rfl⟩⟩)); go_meet; exact ⟨by simp [cfPlant, *], by repeat (first | exact Drawn0.refl _ | apply Drawn0.step)⟩)
       case true =>
        (go_wp2_with (first | (go_at_call 23; (with_reducible refine (wB_t (by assumption) _).mono ?_); rintro e w' ⟨rfl, ⟨_, rfl⟩⟩) | (go_at_call 23; (with_reducible refine (wB_f (by assumption) _).mono ?_); rintro e w' ⟨rfl, ⟨_, rfl⟩⟩)); go_meet; exact ⟨by simp [cfPlant, *], by repeat (first | exact Drawn0.refl _ | apply Drawn0.step)⟩)
  case rest =>
   obtain ⟨rfl, ⟨n2, rfl⟩⟩ := hcut
   go_upto_region 3 with (fail)
   go_cut [5] (fun s wx => s = .bool (cfJudge a0_7 a0_8 a0_9 a0_10 a0_11) ∧ Drawn0 (w.alloc (.cells #[.int .i64 a0_0, .int .i64 a0_1, .int .i64 a0_2, .int .i64 a0_3, .int .i64 a0_4, .int .i64 a0_5, .int .i64 a0_6, .int .i64 a0_7, .int .i64 a0_8, .int .i64 a0_9, .int .i64 a0_10, .int .i64 a0_11] 23)) wx)
   case first =>
    cases c0 : decide (1 ≤ a0_7)
    case false => (go_wp2_with (first | (go_at_call 23; (with_reducible refine (wB_t (by assumption) _).mono ?_); rintro e w' ⟨rfl, ⟨_, rfl⟩⟩) | (go_at_call 23; (with_reducible refine (wB_f (by assumption) _).mono ?_); rintro e w' ⟨rfl, ⟨_, rfl⟩⟩)); go_meet; exact ⟨by simp [cfJudge, *], by repeat (first | exact Drawn0.refl _ | apply Drawn0.step)⟩)
    case true =>
     cases c1 : decide (a0_7 ≤ 32)
     case false => (go_wp2_with (first | (go_at_call 23; (with_reducible refine (wB_t (by assumption) _).mono ?_); rintro e w' ⟨rfl, ⟨_, rfl⟩⟩) | (go_at_call 23; (with_reducible refine (wB_f (by assumption) _).mono ?_); rintro e w' ⟨rfl, ⟨_, rfl⟩⟩)); go_meet; exact ⟨by simp [cfJudge, *], by repeat (first | exact Drawn0.refl _ | apply Drawn0.step)⟩)
     case true =>
      cases c2 : wB a0_8 0 1000000000
      case false => (go_wp2_with (first | (go_at_call 23; (with_reducible refine (wB_t (by assumption) _).mono ?_); rintro e w' ⟨rfl, ⟨_, rfl⟩⟩) | (go_at_call 23; (with_reducible refine (wB_f (by assumption) _).mono ?_); rintro e w' ⟨rfl, ⟨_, rfl⟩⟩)); go_meet; exact ⟨by simp [cfJudge, *], by repeat (first | exact Drawn0.refl _ | apply Drawn0.step)⟩)
      case true =>
       cases c3 : decide (0 ≤ a0_9)
       case false => (go_wp2_with (first | (go_at_call 23; (with_reducible refine (wB_t (by assumption) _).mono ?_); rintro e w' ⟨rfl, ⟨_, rfl⟩⟩) | (go_at_call 23; (with_reducible refine (wB_f (by assumption) _).mono ?_); rintro e w' ⟨rfl, ⟨_, rfl⟩⟩)); go_meet; exact ⟨by simp [cfJudge, *], by repeat (first | exact Drawn0.refl _ | apply Drawn0.step)⟩)
       case true =>
        cases c4 : decide (a0_9 ≤ 32)
        case false => (go_wp2_with (first | (go_at_call 23; (with_reducible refine (wB_t (by assumption) _).mono ?_); rintro e w' ⟨rfl, ⟨_, rfl⟩⟩) | (go_at_call 23; (with_reducible refine (wB_f (by assumption) _).mono ?_); rintro e w' ⟨rfl, ⟨_, rfl⟩⟩)); go_meet; exact ⟨by simp [cfJudge, *], by repeat (first | exact Drawn0.refl _ | apply Drawn0.step)⟩)
        case true =>
         cases c5 : decide (1 ≤ a0_10)
         case false => (go_wp2_with (first | (go_at_call 23; (with_reducible refine (wB_t (by assumption) _).mono ?_); rintro e w' ⟨rfl, ⟨_, rfl⟩⟩) | (go_at_call 23; (with_reducible refine (wB_f (by assumption) _).mono ?_); rintro e w' ⟨rfl, ⟨_, rfl⟩⟩)); go_meet; exact ⟨by simp [cfJudge, *], by repeat (first | exact Drawn0.refl _ | apply Drawn0.step)⟩)
         case true =>
          cases c6 : decide (a0_10 ≤ 32)
          case false => (go_wp2_with (first | (go_at_call 23; (with_reducible refine (wB_t (by assumption) _).mono ?_); rintro e w' ⟨rfl, ⟨_, rfl⟩⟩) | (go_at_call 23; (with_reducible refine (wB_f (by assumption) _).mono ?_); rintro e w' ⟨rfl, ⟨_, rfl⟩⟩)); go_meet; exact ⟨by simp [cfJudge, *], by repeat (first | exact Drawn0.refl _ | apply Drawn0.step)⟩)
          case true =>
           cases c7 : decide (0 ≤ a0_11)
           case false => (go_wp2_with (first | (go_at_call 23; (with_reducible refine (wB_t (by assumption) _).mono ?_); rintro e w' ⟨rfl, ⟨_, rfl⟩⟩) | (go_at_call 23; (with_reducible refine (wB_f (by assumption) _).mono ?_); rintro e w' ⟨rfl, ⟨_, rfl⟩⟩)); go_meet; exact ⟨by simp [cfJudge, *], by repeat (first | exact Drawn0.refl _ | apply Drawn0.step)⟩)
           case true =>
            cases c8 : decide (a0_11 ≤ 32)
            case false => (go_wp2_with (first | (go_at_call 23; (with_reducible refine (wB_t (by assumption) _).mono ?_); rintro e w' ⟨rfl, ⟨_, rfl⟩⟩) | (go_at_call 23; (with_reducible refine (wB_f (by assumption) _).mono ?_); rintro e w' ⟨rfl, ⟨_, rfl⟩⟩)); go_meet; exact ⟨by simp [cfJudge, *], by repeat (first | exact Drawn0.refl _ | apply Drawn0.step)⟩)
            case true =>
             (go_wp2_with (first | (go_at_call 23; (with_reducible refine (wB_t (by assumption) _).mono ?_); rintro e w' ⟨rfl, ⟨_, rfl⟩⟩) | (go_at_call 23; (with_reducible refine (wB_f (by assumption) _).mono ?_); rintro e w' ⟨rfl, ⟨_, rfl⟩⟩)); go_meet; exact ⟨by simp [cfJudge, *], by repeat (first | exact Drawn0.refl _ | apply Drawn0.step)⟩)
   case rest =>
    obtain ⟨rfl, ⟨n3, rfl⟩⟩ := hcut
    cases b1 : cfSize a0_0 a0_1 a0_2
    case false => (go_wp2; go_ret; exact ⟨by simp [*], by repeat (first | exact (Below.refl _ w).alloc (Nat.le_refl _) _ | apply pw_below_drewN)⟩)
    case true =>
     cases b2 : cfPlant a0_3 a0_4 a0_5 a0_6
     case false => (go_wp2; go_ret; exact ⟨by simp [*], by repeat (first | exact (Below.refl _ w).alloc (Nat.le_refl _) _ | apply pw_below_drewN)⟩)
     case true => (go_wp2; go_ret; exact ⟨by simp [*], by repeat (first | exact (Below.refl _ w).alloc (Nat.le_refl _) _ | apply pw_below_drewN)⟩)
/-! ### governorref09_bands: function 45 -/
def governorref09_bands.l0 : Nat → List (S56) → Int → Option (Bool)
 | 0, _, _ => none
 | k + 1, x0, x3 => if x3 < (x0.length : Int) then (if 0 ≤ x3 then ((governorref09_within.f ((rd_T56 x0 x3).f0) 0 1000000000).bind fun t219 => (if t219 = true then (if x3 > 0 then (if 0 ≤ (wrap64 (x3 - 1)) then (if (wrap64 (x3 - 1)) < (x0.length : Int) then (if ((rd_T56 x0 x3).f0) ≤ ((rd_T56 x0 (wrap64 (x3 - 1))).f0) then (some false) else ((governorref09_within.f ((rd_T56 x0 x3).f1) (-1000) 1000).bind fun t223 => (if t223 = true then (governorref09_bands.l0 k x0 (wrap64 (x3 + 1))) else (some false)))) else (none)) else (none)) else ((governorref09_within.f ((rd_T56 x0 x3).f1) (-1000) 1000).bind fun t225 => (if t225 = true then (governorref09_bands.l0 k x0 (wrap64 (x3 + 1))) else (some false)))) else (some false))) else (none)) else (if (x0.length : Int) ≥ 1 then (some (decide ((x0.length : Int) ≤ 8))) else (some false))
def governorref09_bands.f (k : Nat) (l0 : List (S56)) : Option (Bool) := governorref09_bands.l0 k l0 0
theorem within_eq (n lo hi : Int) : governorref09_within.f n lo hi = some (wB n lo hi) := by unfold governorref09_within.f wB; by_cases h : lo ≤ n <;> simp [h]
theorem wB_q (n lo hi : Int) (w : World) : Calls Try.prog 23 #[.int .i64 n, .int .i64 lo, .int .i64 hi] w fun e w' => e = .returned (.bool (wB n lo hi)) ∧ ∃ m, w' = w.drewN m := ((wB_any n lo hi w).mono fun _ _ ⟨he, m, hm⟩ => ⟨he, m, hm⟩)
set_option maxHeartbeats 8000000 in
set_option maxRecDepth 100000 in
theorem governorref09_bands.calls (k : Nat) (A0 : Option Addr) (c0 : Nat) (l0 : List (S56)) (r : Bool) (w : World) (hr0 : Kd.C k56 w A0 l0.length l0) (hc0 : l0.length ≤ c0) (h : governorref09_bands.f k l0 = some r) :
  Calls Try.prog 45 #[.slice A0 l0.length c0] w fun e w' => e = .returned (.bool r) ∧ Below w.heap.size w w' := by
 have HR0 := Aside0.mk hr0
 have HC0 := Aside0.mk hc0
 have hl0 : l0.length ≤ 9223372036854775807 := hr0.2.1
 clear hr0 hc0
 have HB := Aside0.mk (Below.refl w.heap.size w)
 have H' := Aside0.mk (show (governorref09_bands.l0 k l0 0) = some r from h)
 clear h
 go_enter Try.func45, Try.ntmps45
 go_wp2
 go_loopg [3] k (fun kq v3 w' => ∃ (x : Int), v3 = .int .i64 x ∧ Aside0 (governorref09_bands.l0 kq l0 x = some r) ∧ Aside0 (kq ≤ k) ∧ Aside0 (Below w.heap.size w w'))
 case atStart => exact ⟨0, (by first | rfl | (simp; done) | (simp [*]; done)), H', ⟨Nat.le_refl _⟩, HB⟩
 case round =>
  clear H'
  obtain ⟨x, rfl, HA, HK1, HB⟩ := hrel
  cases gk with
  | zero => exact absurd HA.out (by simp [governorref09_bands.l0])
  | succ k1 =>
   have H := HA.out
   clear HA
   simp only [governorref09_bands.l0, within_eq, Option.bind_some] at H
   by_cases c2 : x < (l0.length : Int)
   ·rw [if_pos c2] at H
    by_cases c3 : 0 ≤ x
    ·rw [if_pos c3] at H
     obtain ⟨ad, e1, hx0, hx1⟩ := at_T56 HR0.out x c3 c2
     cases e1
     replace hx0 := (HB.out.cell (World.block_lt_of_cell? w _ hx0)).trans hx0
     replace hx1 := (HB.out.cell (World.block_lt_of_cell? w _ hx1)).trans hx1
     obtain ⟨f0, hf0⟩ : ∃ f0, (rd_T56 l0 x).f0 = f0 := ⟨_, rfl⟩
     obtain ⟨f1, hf1⟩ : ∃ f1, (rd_T56 l0 x).f1 = f1 := ⟨_, rfl⟩
     rw [hf0] at hx0
     rw [hf1] at hx1
     simp only [hf0, hf1] at H
     clear hf0 hf1
     have c2b : decide (x < (l0.length : Int)) = true := decide_eq_true c2
     have c3b : decide (0 ≤ x) = true := decide_eq_true c3
     cases q1 : wB f0 0 1000000000 with
     | false =>
      rw [q1] at H
      simp only [Bool.false_eq_true, reduceIte] at H
      obtain rfl := Option.some.inj H
      clear H
      go_wp2
      go_quiet ((go_at_call 23; exact Calls.quiet_of (wB_q _ _ _ _)))
      go_wp2
      go_ret
      exact ⟨rfl, by repeat (first | (with_reducible first | exact HB.out | apply below_alloc | apply pw_below_drewN | apply below_drew1) | exact HB.out)⟩
     | true =>
      rw [q1] at H
      simp only [reduceIte] at H
      by_cases cp : x > 0
      ·rw [if_pos cp] at H
       have cpb : decide (0 < x) = true := decide_eq_true cp
       obtain ⟨ji, hji⟩ : ∃ ji : Int, wrap64 (x - 1) = ji := ⟨_, rfl⟩
       have hjiw : IntKind.i64.wrap (x - 1) = ji := (i64_w _).trans hji
       have hj1 : ji = x - 1 := by rw [← hji]; exact IntWalk.wrap64_in _ (by omega)
       have pj0 : 0 ≤ ji := by omega
       have pj1 : ji < (l0.length : Int) := by omega
       rw [hji, if_pos pj0, if_pos pj1] at H
       obtain ⟨ad2, e2, hy0, hy1⟩ := at_T56 HR0.out ji pj0 pj1
       cases e2
       replace hy0 := (HB.out.cell (World.block_lt_of_cell? w _ hy0)).trans hy0
       clear hy1 hj1
       obtain ⟨p0, hp0⟩ : ∃ p0, (rd_T56 l0 ji).f0 = p0 := ⟨_, rfl⟩
       rw [hp0] at H hy0
       clear hp0
       by_cases co : f0 ≤ p0
       ·rw [if_pos co] at H
        have cob : decide (f0 ≤ p0) = true := decide_eq_true co
        obtain rfl := Option.some.inj H
        clear H
        go_wp2
        go_quiet ((go_at_call 23; exact Calls.quiet_of (wB_q _ _ _ _)))
        go_wp2
        go_ret
        exact ⟨rfl, by repeat (first | (with_reducible first | exact HB.out | apply below_alloc | apply pw_below_drewN | apply below_drew1) | exact HB.out)⟩
       ·rw [if_neg co] at H
        have cob : decide (f0 ≤ p0) = false := decide_eq_false co
        cases q2 : wB f1 (-1000) 1000 with
        | false =>
         rw [q2] at H
         simp only [Bool.false_eq_true, reduceIte] at H
         obtain rfl := Option.some.inj H
         clear H
         go_wp2
         go_quiet ((go_at_call 23; exact Calls.quiet_of (wB_q _ _ _ _)))
         go_wp2
         go_ret
         exact ⟨rfl, by repeat (first | (with_reducible first | exact HB.out | apply below_alloc | apply pw_below_drewN | apply below_drew1) | exact HB.out)⟩
        | true =>
         rw [q2] at H
         simp only [reduceIte] at H
         rw [show wrap64 (x + 1) = x + 1 from IntWalk.wrap64_in _ (by omega)] at H
         have H' := Aside0.mk H
         clear H
         go_wp2
         go_quiet ((go_at_call 23; exact Calls.quiet_of (wB_q _ _ _ _)))
         go_wp2
         go_roundg k1
         case measure => have := HK1.out; omega
         case rel => exact ⟨x + 1, (by first | rfl | (simp; done) | (simp [*]; done)), H', ⟨by have := HK1.out; omega⟩, ⟨by repeat (first | (with_reducible first | exact HB.out | apply below_alloc | apply pw_below_drewN | apply below_drew1) | exact HB.out)⟩⟩
      ·rw [if_neg cp] at H
       have cpb : decide (0 < x) = false := decide_eq_false (by omega)
       cases q2 : wB f1 (-1000) 1000 with
       | false =>
        rw [q2] at H
        simp only [Bool.false_eq_true, reduceIte] at H
        obtain rfl := Option.some.inj H
        clear H
        go_wp2
        go_quiet ((go_at_call 23; exact Calls.quiet_of (wB_q _ _ _ _)))
        go_wp2
        go_ret
        exact ⟨rfl, by repeat (first | (with_reducible first | exact HB.out | apply below_alloc | apply pw_below_drewN | apply below_drew1) | exact HB.out)⟩
       | true =>
        rw [q2] at H
        simp only [reduceIte] at H
        rw [show wrap64 (x + 1) = x + 1 from IntWalk.wrap64_in _ (by omega)] at H
        have H' := Aside0.mk H
        clear H
        go_wp2
        go_quiet ((go_at_call 23; exact Calls.quiet_of (wB_q _ _ _ _)))
        go_wp2
        go_roundg k1
        case measure => have := HK1.out; omega
        case rel => exact ⟨x + 1, (by first | rfl | (simp; done) | (simp [*]; done)), H', ⟨by have := HK1.out; omega⟩, ⟨by repeat (first | (with_reducible first | exact HB.out | apply below_alloc | apply pw_below_drewN | apply below_drew1) | exact HB.out)⟩⟩
    ·rw [if_neg c3] at H
     cases H
   ·rw [if_neg c2] at H
    have c2b : decide (x < (l0.length : Int)) = false := decide_eq_false c2
    by_cases c4 : (l0.length : Int) ≥ 1
    ·rw [if_pos c4] at H
     have c4b : decide (1 ≤ (l0.length : Int)) = true := decide_eq_true c4
     have c4n : decide (1 ≤ l0.length) = true := decide_eq_true (by omega)
     obtain rfl := Option.some.inj H
     clear H
     go_wp2
     go_ret
     exact ⟨by first | rfl | simp, HB.out⟩
    ·rw [if_neg c4] at H
     have c4b : decide (1 ≤ (l0.length : Int)) = false := decide_eq_false c4
     have c4n : decide (1 ≤ l0.length) = false := decide_eq_false (by omega)
     obtain rfl := Option.some.inj H
     clear H
     go_wp2
     go_ret
     exact ⟨by first | rfl | simp, HB.out⟩
/-! ### governorref09_slots: function 46 -/
mutual
def governorref09_slots.j0 : Nat → List (S58) → Int → Bool → Option (Bool)
 | 0, _, _, _ => none
 | k + 1, x0, x1, x25 => if x25 = true then (some false) else (governorref09_slots.l0 k x0 x1 0)
def governorref09_slots.l0 : Nat → List (S58) → Int → Int → Option (Bool)
 | 0, _, _, _ => none
 | k + 1, x0, x1, x5 => if x5 < (x0.length : Int) then (if 0 ≤ x5 then ((governorref09_within.f ((rd_T58 x0 x5).f0) 0 (wrap64 (x1 - 1))).bind fun t229 => (if t229 = true then (if x5 > 0 then (if 0 ≤ (wrap64 (x5 - 1)) then (if (wrap64 (x5 - 1)) < (x0.length : Int) then (if ((rd_T58 x0 x5).f0) ≤ ((rd_T58 x0 (wrap64 (x5 - 1))).f0) then (some false) else ((governorref09_within.f ((rd_T58 x0 x5).f1) 0 1000).bind fun t233 => (if t233 = true then (governorref09_slots.l0 k x0 x1 (wrap64 (x5 + 1))) else (some false)))) else (none)) else (none)) else ((governorref09_within.f ((rd_T58 x0 x5).f1) 0 1000).bind fun t235 => (if t235 = true then (governorref09_slots.l0 k x0 x1 (wrap64 (x5 + 1))) else (some false)))) else (some false))) else (none)) else (some true)
end
def governorref09_slots.f (k : Nat) (l0 : List (S58)) (a1 : Int) : Option (Bool) := if (l0.length : Int) < 1 then (governorref09_slots.j0 k l0 a1 true) else (if (l0.length : Int) > 8 then (governorref09_slots.j0 k l0 a1 true) else (if 0 < (l0.length : Int) then (if ((rd_T58 l0 0).f0) = 0 then ((governorref09_within.f a1 1 1099511627776).bind fun t227 => (governorref09_slots.j0 k l0 a1 (!t227))) else (governorref09_slots.j0 k l0 a1 true)) else (none)))
set_option maxHeartbeats 8000000 in
set_option maxRecDepth 100000 in
theorem governorref09_slots.calls (k : Nat) (A0 : Option Addr) (c0 : Nat) (l0 : List (S58)) (a1 : Int) (r : Bool) (w : World) (hr0 : Kd.C k58 w A0 l0.length l0) (hc0 : l0.length ≤ c0) (h : governorref09_slots.f k l0 a1 = some r) :
  Calls Try.prog 46 #[.slice A0 l0.length c0, .int .i64 a1] w fun e w' => e = .returned (.bool r) ∧ Below w.heap.size w w' := by
 have HR0 := Aside0.mk hr0
 have HC0 := Aside0.mk hc0
 have hl0 : l0.length ≤ 9223372036854775807 := hr0.2.1
 clear hr0 hc0
 have HB := Aside0.mk (Below.refl w.heap.size w)
 have H := h
 clear h
 unfold governorref09_slots.f at H
 simp only [within_eq, Option.bind_some] at H
 by_cases c1 : (l0.length : Int) < 1
 ·rw [if_pos c1] at H
  have c1b : decide ((l0.length : Int) < 1) = true := decide_eq_true c1
  have c1n : decide (l0.length < 1) = true := decide_eq_true (by omega)
  cases k with
  | zero => exact absurd H (by simp [governorref09_slots.j0])
  | succ k =>
   rw [governorref09_slots.j0, if_pos rfl] at H
   obtain rfl := Option.some.inj H
   clear H
   go_enter Try.func46, Try.ntmps46
   go_wp2_with (go_at_call 23; refine (wB_q _ _ _ _).mono ?_; rintro e_ w_ ⟨rfl, ⟨nd, rfl⟩⟩)
   go_ret
   exact ⟨rfl, by repeat (first | (with_reducible first | exact HB.out | apply below_alloc | apply pw_below_drewN | apply below_drew1) | exact HB.out)⟩
 ·rw [if_neg c1] at H
  have c1b : decide ((l0.length : Int) < 1) = false := decide_eq_false c1
  have c1n : decide (l0.length < 1) = false := decide_eq_false (by omega)
  by_cases c2 : (l0.length : Int) > 8
  ·rw [if_pos c2] at H
   have c2b : decide (8 < (l0.length : Int)) = true := decide_eq_true c2
   have c2n : decide (8 < l0.length) = true := decide_eq_true (by omega)
   cases k with
   | zero => exact absurd H (by simp [governorref09_slots.j0])
   | succ k =>
    rw [governorref09_slots.j0, if_pos rfl] at H
    obtain rfl := Option.some.inj H
    clear H
    go_enter Try.func46, Try.ntmps46
    go_wp2_with (go_at_call 23; refine (wB_q _ _ _ _).mono ?_; rintro e_ w_ ⟨rfl, ⟨nd, rfl⟩⟩)
    go_ret
    exact ⟨rfl, by repeat (first | (with_reducible first | exact HB.out | apply below_alloc | apply pw_below_drewN | apply below_drew1) | exact HB.out)⟩
  ·rw [if_neg c2, if_pos (by omega)] at H
   have c2b : decide (8 < (l0.length : Int)) = false := decide_eq_false c2
   have c2n : decide (8 < l0.length) = false := decide_eq_false (by omega)
   have c0 : 0 < (l0.length : Int) := by omega
   obtain ⟨ad, e1, hz0, hz1⟩ := at_T58 HR0.out 0 (by omega) c0
   cases e1
   have hz0' : w.cell? ad = some (.int .i64 (rd_T58 l0 0).f0) := by
    have e : ad.add ((0 : Int).toNat * 2) = ad := by simp [Addr.add]
    rw [e] at hz0
    exact hz0
   clear hz1
   obtain ⟨f0, hf0⟩ : ∃ f0, (rd_T58 l0 0).f0 = f0 := ⟨_, rfl⟩
   rw [hf0] at H hz0 hz0'
   clear hf0
   by_cases c3 : f0 = 0
   ·rw [if_pos c3] at H
    subst c3
    cases q0 : wB a1 1 1099511627776 with
    | false =>
     rw [q0] at H
     simp only [Bool.not_false] at H
     cases k with
     | zero => exact absurd H (by simp [governorref09_slots.j0])
     | succ k =>
      rw [governorref09_slots.j0, if_pos rfl] at H
      obtain rfl := Option.some.inj H
      clear H
      go_enter Try.func46, Try.ntmps46
      go_wp2_with (go_at_call 23; refine (wB_q _ _ _ _).mono ?_; rintro e_ w_ ⟨rfl, ⟨nd, rfl⟩⟩)
      go_ret
      exact ⟨rfl, by repeat (first | (with_reducible first | exact HB.out | apply below_alloc | apply pw_below_drewN | apply below_drew1) | exact HB.out)⟩
    | true =>
     rw [q0] at H
     simp only [Bool.not_true] at H
     cases k with
     | zero => exact absurd H (by simp [governorref09_slots.j0])
     | succ k =>
     rw [governorref09_slots.j0, if_neg (by simp)] at H
     have H' := Aside0.mk H
     obtain ⟨pj, hpj⟩ : ∃ pj : Int, wrap64 (a1 - 1) = pj := ⟨_, rfl⟩
     have hpjw : IntKind.i64.wrap (a1 - 1) = pj := (i64_w _).trans hpj
     clear H hz0
     go_enter Try.func46, Try.ntmps46
     go_wp2_with (go_at_call 23; refine (wB_q _ _ _ _).mono ?_; rintro e_ w_ ⟨rfl, ⟨nd, rfl⟩⟩)
     have HB := Aside0.mk (pw_below_drewN HB.out nd)
     go_loopg [5] k (fun kq v5 w' => ∃ (x : Int), v5 = .int .i64 x ∧ Aside0 (governorref09_slots.l0 kq l0 a1 x = some r) ∧ Aside0 (kq ≤ k) ∧ Aside0 (Below w.heap.size w w'))
     case atStart => exact ⟨0, (by first | rfl | (simp; done) | (simp [*]; done)), H', ⟨Nat.le_refl _⟩, HB⟩
     case round =>
      clear H' hz0'
      obtain ⟨x, rfl, HA, HK1, HB⟩ := hrel
      cases gk with
      | zero => exact absurd HA.out (by simp [governorref09_slots.l0])
      | succ k1 =>
       have H := HA.out
       clear HA
       simp only [governorref09_slots.l0, within_eq, Option.bind_some] at H
       rw [hpj] at H
       by_cases c2 : x < (l0.length : Int)
       ·rw [if_pos c2] at H
        by_cases c3 : 0 ≤ x
        ·rw [if_pos c3] at H
         obtain ⟨ad, e1, hx0, hx1⟩ := at_T58 HR0.out x c3 c2
         cases e1
         replace hx0 := (HB.out.cell (World.block_lt_of_cell? w _ hx0)).trans hx0
         replace hx1 := (HB.out.cell (World.block_lt_of_cell? w _ hx1)).trans hx1
         obtain ⟨f0, hf0⟩ : ∃ f0, (rd_T58 l0 x).f0 = f0 := ⟨_, rfl⟩
         obtain ⟨f1, hf1⟩ : ∃ f1, (rd_T58 l0 x).f1 = f1 := ⟨_, rfl⟩
         rw [hf0] at hx0
         rw [hf1] at hx1
         simp only [hf0, hf1] at H
         clear hf0 hf1
         have c2b : decide (x < (l0.length : Int)) = true := decide_eq_true c2
         have c3b : decide (0 ≤ x) = true := decide_eq_true c3
         cases q1 : wB f0 0 pj with
         | false =>
          rw [q1] at H
          simp only [Bool.false_eq_true, reduceIte] at H
          obtain rfl := Option.some.inj H
          clear H
          go_wp2
          go_quiet ((go_at_call 23; exact Calls.quiet_of (wB_q _ _ _ _)))
          go_wp2
          go_ret
          exact ⟨rfl, by repeat (first | (with_reducible first | exact HB.out | apply below_alloc | apply pw_below_drewN | apply below_drew1) | exact HB.out)⟩
         | true =>
          rw [q1] at H
          simp only [reduceIte] at H
          by_cases cp : x > 0
          ·rw [if_pos cp] at H
           have cpb : decide (0 < x) = true := decide_eq_true cp
           obtain ⟨ji, hji⟩ : ∃ ji : Int, wrap64 (x - 1) = ji := ⟨_, rfl⟩
           have hjiw : IntKind.i64.wrap (x - 1) = ji := (i64_w _).trans hji
           have hj1 : ji = x - 1 := by rw [← hji]; exact IntWalk.wrap64_in _ (by omega)
           have pj0 : 0 ≤ ji := by omega
           have pj1 : ji < (l0.length : Int) := by omega
           rw [hji, if_pos pj0, if_pos pj1] at H
           obtain ⟨ad2, e2, hy0, hy1⟩ := at_T58 HR0.out ji pj0 pj1
           cases e2
           replace hy0 := (HB.out.cell (World.block_lt_of_cell? w _ hy0)).trans hy0
           clear hy1 hj1
           obtain ⟨p0, hp0⟩ : ∃ p0, (rd_T58 l0 ji).f0 = p0 := ⟨_, rfl⟩
           rw [hp0] at H hy0
           clear hp0
           by_cases co : f0 ≤ p0
           ·rw [if_pos co] at H
            have cob : decide (f0 ≤ p0) = true := decide_eq_true co
            obtain rfl := Option.some.inj H
            clear H
            go_wp2
            go_quiet ((go_at_call 23; exact Calls.quiet_of (wB_q _ _ _ _)))
            go_wp2
            go_ret
            exact ⟨rfl, by repeat (first | (with_reducible first | exact HB.out | apply below_alloc | apply pw_below_drewN | apply below_drew1) | exact HB.out)⟩
           ·rw [if_neg co] at H
            have cob : decide (f0 ≤ p0) = false := decide_eq_false co
            cases q2 : wB f1 0 1000 with
            | false =>
             rw [q2] at H
             simp only [Bool.false_eq_true, reduceIte] at H
             obtain rfl := Option.some.inj H
             clear H
             go_wp2
             go_quiet ((go_at_call 23; exact Calls.quiet_of (wB_q _ _ _ _)))
             go_wp2
             go_ret
             exact ⟨rfl, by repeat (first | (with_reducible first | exact HB.out | apply below_alloc | apply pw_below_drewN | apply below_drew1) | exact HB.out)⟩
            | true =>
             rw [q2] at H
             simp only [reduceIte] at H
             rw [show wrap64 (x + 1) = x + 1 from IntWalk.wrap64_in _ (by omega)] at H
             have H' := Aside0.mk H
             clear H
             go_wp2
             go_quiet ((go_at_call 23; exact Calls.quiet_of (wB_q _ _ _ _)))
             go_wp2
             go_roundg k1
             case measure => have := HK1.out; omega
             case rel => exact ⟨x + 1, (by first | rfl | (simp; done) | (simp [*]; done)), H', ⟨by have := HK1.out; omega⟩, ⟨by repeat (first | (with_reducible first | exact HB.out | apply below_alloc | apply pw_below_drewN | apply below_drew1) | exact HB.out)⟩⟩
          ·rw [if_neg cp] at H
           have cpb : decide (0 < x) = false := decide_eq_false (by omega)
           cases q2 : wB f1 0 1000 with
           | false =>
            rw [q2] at H
            simp only [Bool.false_eq_true, reduceIte] at H
            obtain rfl := Option.some.inj H
            clear H
            go_wp2
            go_quiet ((go_at_call 23; exact Calls.quiet_of (wB_q _ _ _ _)))
            go_wp2
            go_ret
            exact ⟨rfl, by repeat (first | (with_reducible first | exact HB.out | apply below_alloc | apply pw_below_drewN | apply below_drew1) | exact HB.out)⟩
           | true =>
            rw [q2] at H
            simp only [reduceIte] at H
            rw [show wrap64 (x + 1) = x + 1 from IntWalk.wrap64_in _ (by omega)] at H
            have H' := Aside0.mk H
            clear H
            go_wp2
            go_quiet ((go_at_call 23; exact Calls.quiet_of (wB_q _ _ _ _)))
            go_wp2
            go_roundg k1
            case measure => have := HK1.out; omega
            case rel => exact ⟨x + 1, (by first | rfl | (simp; done) | (simp [*]; done)), H', ⟨by have := HK1.out; omega⟩, ⟨by repeat (first | (with_reducible first | exact HB.out | apply below_alloc | apply pw_below_drewN | apply below_drew1) | exact HB.out)⟩⟩
        ·rw [if_neg c3] at H
         cases H
       ·rw [if_neg c2] at H
        have c2b : decide (x < (l0.length : Int)) = false := decide_eq_false c2
        obtain rfl := Option.some.inj H
        clear H
        go_wp2
        go_ret
        exact ⟨by first | rfl | simp, HB.out⟩
   ·rw [if_neg c3] at H
    have c3b : (f0 == 0) = false := by simp [c3]
    have c3n : (f0 != 0) = true := by simp [c3]
    cases k with
    | zero => exact absurd H (by simp [governorref09_slots.j0])
    | succ k =>
     rw [governorref09_slots.j0, if_pos rfl] at H
     obtain rfl := Option.some.inj H
     clear H
     go_enter Try.func46, Try.ntmps46
     go_wp2_with (go_at_call 23; refine (wB_q _ _ _ _).mono ?_; rintro e_ w_ ⟨rfl, ⟨nd, rfl⟩⟩)
     go_ret
     exact ⟨rfl, by repeat (first | (with_reducible first | exact HB.out | apply below_alloc | apply pw_below_drewN | apply below_drew1) | exact HB.out)⟩
/-! ### slices_Clone_int_int: function 41 -/
def slices_Clone_int_int.f (l0 : List Int) : Option (List Int) := if l0.length < 17592186044416 then some l0 else none
theorem cloneNil (n c : Nat) (W : World) : (binOp BinOp.eql 32 (.slice none n c) (.slice none 0 0)).run Try.prog W = .ok (.bool true) W := by kernel_rfl
theorem cloneSome (ad : Addr) (n c : Nat) (W : World) : (binOp BinOp.eql 32 (.slice (some ad) n c) (.slice none 0 0)).run Try.prog W = .ok (.bool false) W := by kernel_rfl
set_option maxHeartbeats 4000000 in
set_option maxRecDepth 100000 in
theorem slices_Clone_int_int.calls (A0 : Option Addr) (c0 : Nat) (l0 : List Int) (r : List Int) (w : World) (hr0 : Kd.C (Kd.int .i64) w A0 l0.length l0) (hc0 : l0.length ≤ c0) (h : slices_Clone_int_int.f l0 = some r) :
  Calls Try.prog 41 #[.slice A0 l0.length c0] w fun e w' => ∃ v0_ : Value, e = .returned v0_ ∧ Kd.R (Kd.int .i64) 3 w' w.heap.size (fun _ => True) v0_ r ∧ Below w.heap.size w w' := by
 unfold slices_Clone_int_int.f at h
 by_cases c5 : l0.length < 17592186044416
 ·rw [if_pos c5] at h
  obtain rfl := Option.some.inj h
  clear h
  have LMc5 := Aside0.mk c5
  have HR0 := Aside0.mk hr0
  have HB := Aside0.mk (Below.refl w.heap.size w)
  clear c5
  cases A0 with
  | none =>
   have e1 := cloneNil l0.length c0
   go_enter Try.func41, Try.ntmps41
   go_wp2
   go_ret
   have hz : l0 = [] := by
    cases l0 with
    | nil => rfl
    | cons x xs =>
     obtain ⟨_, _, h3⟩ := HR0.out
     obtain ⟨ad, hn, _⟩ := h3 (by simp)
     cases hn
   subst hz
   exact ⟨_, rfl, Kd.R_nil _ _ _ _ _, HB.out⟩
  | some ad =>
   have e1 := cloneSome ad l0.length c0
   obtain ⟨y1, hy1⟩ : ∃ y_ : List Int, y_ = ([] : List Int) := ⟨_, rfl⟩
   have Ny := Aside0.mk hy1
   clear hy1 hr0
   go_enter Try.func41, Try.ntmps41
   go_wp2_with (first
    | ((with_reducible refine gate_dst (N := 5) rfl ?_); refine Kd.R_lit (Kd.int .i64) _ 3 ?hg (N := 5) ?hd (xs := ([] : List Int)) (inner := []) (ok := fun _ => True) (okp := fun _ => True) ?hr ?hp (fun _ hk => hk) trivial (Below.refl _ _) (Nat.le_refl _) (by simp) ?_; (case hd => rfl); (case hg => rfl); (case hr => first | (go_simp; done) | (go_simp; rfl)); (case hp => exact (Reps.none _ _)); intro v142 w12 ho13 hb hg_ hnew_; clear hg_ hnew_; rw [← Ny.out] at ho13; have HO := Aside0.mk ho13; have HB1 := Aside0.mk hb; clear ho13 hb)
    | ((with_reducible refine gate_builtin (b := .append) (xs := #[.tmp 5, .tmp 6]) rfl ?_); at_builtin; refine Kd.R_append_rows (Kd.int .i64) (w0 := w) w.heap.size rfl (.tmp 5) (.tmp 6) 32 3 (.int .i64 0) 8 rfl Try.underlying32 info3 rfl (by decide) (by omega) v142 y1 l0 _ _ _ (fun _ => True) (fun _ => False) rfl rfl ?aO ?aR (fun _ _ h => h) (fun _ h => h.elim) ?aF ?aB ?aS ?aL ?_; (case aR => exact Kd.C_below HR0.out HB1.out); (case aB => exact HB1.out); (case aF => exact (fun _ _ => trivial)); (case aO => exact HO.out); (case aS => exact below_size HB1.out); (case aL => have := LMc5.out; rw [Ny.out]; simp; omega); intro v145 w15 ho hb hg hat; rw [Ny.out] at ho; have HO2 := Aside0.mk ho; have HB2 := Aside0.mk hb; clear ho hb hg hat))
   go_ret
   exact ⟨_, rfl, HO2.out, HB2.out⟩
 ·rw [if_neg c5] at h
  cases h
/-! ### plant_All: function 61 -/
def plant_All.l0 : Nat → Int → List Int → Int → Int → Option (Int)
 | 0, _, _, _, _ => none
 | k + 1, x3, x9, x10, x11 => if x11 < x10 then (if 0 ≤ x11 then (if x11 < (x9.length : Int) then (plant_All.l0 k (wrap64 (x3 + (rd x9 x11))) x9 x10 (wrap64 (x11 + 1))) else (none)) else (none)) else (some x3)
def plant_All.f (k : Nat) (a0_0 : Int) (l0_1 : List Int) (a0_2 : Int) (a0_3 : Int) : Option (Int) := plant_All.l0 k a0_0 l0_1 (l0_1.length : Int) 0
set_option maxHeartbeats 8000000 in
set_option maxRecDepth 100000 in
theorem plant_All.calls (k : Nat) (a0_0 : Int) (A0_1 : Option Addr) (c0_1 : Nat) (l0_1 : List Int) (a0_2 : Int) (a0_3 : Int) (r : Int) (w : World) (hr0_1 : Kd.C (Kd.int .i64) w A0_1 l0_1.length l0_1) (hc0_1 : l0_1.length ≤ c0_1) (h : plant_All.f k a0_0 l0_1 a0_2 a0_3 = some r) :
  Calls Try.prog 61 #[.agg #[.int .i64 a0_0, .slice A0_1 l0_1.length c0_1, .int .i64 a0_2, .int .i64 a0_3]] w fun e w' => e = .returned (.int .i64 r) ∧ Below w.heap.size w w' := by
 have hu34 := Try.underlying34
 have HR0_1 := Aside0.mk hr0_1
 have HC0_1 := Aside0.mk hc0_1
 clear hr0_1 hc0_1
 have HB := Aside0.mk (Below.refl w.heap.size w)
 have H : (plant_All.l0 k a0_0 l0_1 (l0_1.length : Int) 0) = some r := h
 clear h
 have H' := Aside0.mk H
 clear H
 go_enter Try.func61, Try.ntmps61
 go_wp2_with (first | ((with_reducible refine gate_dst (N := 1) rfl ?_); refine box_event ?hg (N := 1) ?hd (cs := #[.int .i64 a0_0, .slice A0_1 l0_1.length c0_1, .int .i64 a0_2, .int .i64 a0_3]) (t := 34) ?hr ?_; (case hd => rfl); (case hg => rfl); (case hr => first | (go_simp; done) | (go_simp; rfl)); intro gb105 hg w2 hbox hb; have n0_ := Aside0.mk (below_step (by repeat (first | (with_reducible first | exact HB.out | apply below_alloc | apply pw_below_drewN | apply below_drew1) | exact HB.out)) hb); have n1_ := Aside0.mk (hbox); have n2_ := Aside0.mk ((by rw [hg]; exact (below_size (by repeat (first | (with_reducible first | exact HB.out | apply below_alloc | apply pw_below_drewN | apply below_drew1) | exact HB.out))) : w.heap.size ≤ gb105)); have n3_ := Aside0.mk ((by rw [hg]; exact (below_size (by repeat (first | (with_reducible first | exact HB.out | apply below_alloc | apply pw_below_drewN | apply below_drew1) | exact HB.out))) : w.heap.size ≤ gb105)); clear HB; have HB := n0_; have BK105 := n1_; have GW105 := n2_; have GE105 := n3_; clear n0_ n1_ n2_ n3_; clear hb hbox hg; have hcz3_0 : w2.cell? ⟨gb105, 0, none⟩ = some (.int .i64 a0_0) := (blk_cell BK105.out 0).trans rfl; have hcz3_1 : w2.cell? ⟨gb105, 1, none⟩ = some (.slice A0_1 l0_1.length c0_1) := (blk_cell BK105.out 1).trans rfl; have hcz3_2 : w2.cell? ⟨gb105, 2, none⟩ = some (.int .i64 a0_2) := (blk_cell BK105.out 2).trans rfl; have hcz3_3 : w2.cell? ⟨gb105, 3, none⟩ = some (.int .i64 a0_3) := (blk_cell BK105.out 3).trans rfl; have hfz3_0 := blk_frozen BK105.out 0; have hfz3_1 := blk_frozen BK105.out 1; have hfz3_2 := blk_frozen BK105.out 2; have hfz3_3 := blk_frozen BK105.out 3))
 go_loopg [3, 11] k (fun kq v3 v11 w' => ∃ (x3_1 : Int) (x11_1 : Int), v3 = .int .i64 x3_1 ∧ v11 = .int .i64 x11_1 ∧ Aside0 (plant_All.l0 kq x3_1 l0_1 (l0_1.length : Int) x11_1 = some r) ∧ Aside0 (kq ≤ k) ∧ Aside0 (w'.heap[gb105]? = some (.cells #[.int .i64 a0_0, (.slice A0_1 l0_1.length c0_1), .int .i64 a0_2, .int .i64 a0_3] 34 (0, 0))) ∧ Aside0 (Below w.heap.size w w'))
 case atStart => exact ⟨(a0_0), (0), (by first | rfl | (simp; done) | (simp [*]; done)), (by first | rfl | (simp; done) | (simp [*]; done)), H', ⟨Nat.le_refl _⟩, ⟨by (with_reducible repeat (first | refine blk_drewN ?_ _ | refine blk_drew ?_ | refine blk_alloc ?_ _)); exact BK105.out⟩, ⟨by repeat (first | (with_reducible first | exact HB.out | apply below_alloc | apply pw_below_drewN | apply below_drew1 | refine below_set ?_ GE105.out) | exact HB.out)⟩⟩
 case round =>
  clear H'
  try clear p2
  try clear hcz3_0
  try clear hcz3_1
  try clear hcz3_2
  try clear hcz3_3
  try clear hfz3_0
  try clear hfz3_1
  try clear hfz3_2
  try clear hfz3_3
  obtain ⟨x3_1, x11_1, rfl, rfl, HA, HK1, BK105, HB⟩ := hrel
  cases gk with
  | zero => exact absurd HA.out (by simp [plant_All.l0])
  | succ k1 =>
   have H := HA.out
   clear HA
   simp only [plant_All.l0] at H
   by_cases c4 : x11_1 < (l0_1.length : Int)
   ·rw [if_pos c4] at H
    have c4b0 : decide (x11_1 < (l0_1.length : Int)) = true := decide_eq_true c4
    clear c4
    by_cases c5 : 0 ≤ x11_1
    ·rw [if_pos c5] at H
     have c5b0 : decide (0 ≤ x11_1) = true := decide_eq_true c5
     clear c5
     by_cases c6 : x11_1 < (l0_1.length : Int)
     ·rw [if_pos c6] at H
      have c6b0 : decide (x11_1 < (l0_1.length : Int)) = true := decide_eq_true c6
      clear c6
      have H' := Aside0.mk H
      clear H
      have p106 : 0 ≤ (x11_1 : Int) := of_decide_eq_true (by first | (with_reducible assumption) | assumption)
      have q106 : x11_1 < (l0_1.length : Int) := of_decide_eq_true (by first | (with_reducible assumption) | assumption)
      obtain ⟨ad106, e106, hx106_0⟩ := Kd.at_int HR0_1.out x11_1 p106 q106
      cases e106
      replace hx106_0 := (HB.out.cell (World.block_lt_of_cell? w _ hx106_0)).trans hx106_0
      replace p106 := eq_true p106
      replace q106 := eq_true q106
      go_wp2
      go_roundg k1
      case measure => have := HK1.out; omega
      case rel => exact ⟨(wrap64 (x3_1 + (rd l0_1 x11_1))), (wrap64 (x11_1 + 1)), (by first | rfl | (simp; done) | (simp [*]; done)), (by first | rfl | (simp; done) | (simp [*]; done)), H', ⟨by have := HK1.out; omega⟩, ⟨by (with_reducible repeat (first | refine blk_drewN ?_ _ | refine blk_drew ?_ | refine blk_alloc ?_ _)); exact BK105.out⟩, ⟨by repeat (first | (with_reducible first | exact HB.out | apply below_alloc | apply pw_below_drewN | apply below_drew1 | refine below_set ?_ GE105.out) | exact HB.out)⟩⟩
     ·rw [if_neg c6] at H
      exact absurd H (by simp)
    ·rw [if_neg c5] at H
     exact absurd H (by simp)
   ·rw [if_neg c4] at H
    have c4b0 : decide (x11_1 < (l0_1.length : Int)) = false := decide_eq_false c4
    clear c4
    obtain rfl := Option.some.inj H
    go_wp2
    go_ret
    exact ⟨by first | rfl | (simp [errW_none, errW_some] <;> rfl) | (simp [*, errW_none, errW_some] <;> rfl), by repeat (first | (with_reducible first | exact HB.out | apply below_alloc | apply pw_below_drewN | apply below_drew1 | refine below_set ?_ GE105.out) | exact HB.out)⟩
/-! ### plant_grow: function 62 -/
section
variable {P : Program}
theorem q_zeros (w : World) (base : Nat) (t ti ty e : TypeId) (i : TypeInfo) (z : Value) (size bytes : Nat) (ht : P.underlying t = some (.slice e)) {k : IntKind} (hti : P.underlying ti = some (.int k)) (hi : P.info? e = some i) (hz : i.zero = some z)
  (hsize : i.size = size) (hby : i.bytes = bytes) (hzs : z.cells.size = size) (hsz : 0 < size) (hb0 : 0 < bytes)
  (v : Value) (n : Nat) (xs : List Value) (hown : QRow w base e size v n xs) (kx : IntKind) (m : Nat) (hm : m ≠ 0) (h1 : ∀ u ∈ (Builtin.zeroCells z.cells m).toList, u.oneCell' = true)
  (hbytes : (n + m) * bytes ≤ 140737488355328) (hbase : base ≤ w.heap.size) :
  ∃ v' w', (Builtin.append_ #[t, ti] ty #[v, .int kx m]).run P w = .ok v' w' ∧ QRow w' base e size v' (n + m) (xs ++ (Builtin.zeroCells z.cells m).toList) ∧ w.grownBy w' v.ownBlock ∧
   (v'.ownBlock = v.ownBlock ∨ ∃ b, v'.ownBlock = some b ∧ w.heap.size ≤ b) := by
 subst hsize
 subst hby
 have hle : n + m ≤ 140737488355328 := Nat.le_trans (Nat.le_mul_of_pos_right _ hb0) hbytes
 have h63 : n + m ≤ maxLen := by simp only [maxLen]; omega
 have hw : IntKind.i64.wrap (m : Int) = m := by rw [IntKind.wrap_i64]; omega
 have hneg : ¬ ((m : Int) < 0) := by omega
 have hmb : m * i.bytes ≤ 140737488355328 := Nat.le_trans (Nat.mul_le_mul_right _ (Nat.le_add_left m n)) hbytes
 have hbig : ¬ (281474976710656 < (m : Int) * (i.bytes : Int)) := by
  rw [← Int.natCast_mul]
  omega
 have hsn : i.size ≠ 0 := by omega
 have hmz : ¬ (m * i.size = 0) := Nat.mul_ne_zero hm hsn
 obtain ⟨news, hnews⟩ : ∃ news, news = (Builtin.zeroCells z.cells m).toList := ⟨_, rfl⟩
 rw [← hnews] at h1 ⊢
 have hl : news.length = m * i.size := by rw [hnews, Array.length_toList, size_zeroCells, hzs]
 have hna : Builtin.zeroCells z.cells m = news.toArray := by rw [hnews]
 have hlen : (xs ++ news).length = (n + m) * i.size := by rw [List.length_append, hown.1, hl, Nat.add_mul]
 have grown : ∀ (old : Nat), old < n + m → ∀ (row : Option Nat),
   (w.drew.alloc (.cells (xs.toArray ++ news.toArray ++ Builtin.zeroCells z.cells (grownCap w (n + m) old e - (n + m))) e)).ownsRow base e i.size
    (.slice (some ⟨w.heap.size, 0, none⟩) (n + m) (grownCap w (n + m) old e)) (n + m) (xs ++ news) ∧
   w.grownBy (w.drew.alloc (.cells (xs.toArray ++ news.toArray ++ Builtin.zeroCells z.cells (grownCap w (n + m) old e - (n + m))) e)) row := by
  intro old ho row
  have hge := grownCap_ge w (n + m) old e
  have hcm : grownCap w (n + m) old e ≤ maxLen := grownCap_le_maxLen w (n + m) old e h63
  refine ⟨⟨hlen, .inr ⟨w.heap.size, _, _, rfl, hbase, heap_alloc_new w.drew _, hge, hcm, ?_, ?_⟩⟩, ⟨rfl, rfl, rfl, by simp, fun k hk _ => heap_alloc_old w.drew _ hk⟩⟩
  ·simp only [Array.size_append, List.size_toArray, size_zeroCells, hzs, hown.1, hl, ← Nat.add_mul]
   congr 1
   omega
  ·simp only [Array.toList_append, List.append_assoc]
   rw [← List.append_assoc, ← hlen]
   exact List.take_left
 have runs : ∀ (A : Option Addr) (cap : Nat), cap < n + m → (Builtin.firstCells i.size n (.slice A n cap)).run P w.drew = .ok xs.toArray w.drew → (Builtin.append_ #[t, ti] ty #[.slice A n cap, .int kx m]).run P w =
   .ok (.slice (some ⟨w.heap.size, 0, none⟩) (n + m) (grownCap w (n + m) cap e)) (w.drew.alloc (.cells (xs.toArray ++ news.toArray ++ Builtin.zeroCells z.cells (grownCap w (n + m) cap e - (n + m))) e)) := by
  intro A cap hcap hfo
  have hn : ¬ (n + m ≤ cap) := by omega
  have h63' : ¬ (9223372036854775807 < ((n : Int) + (m : Int))) := by omega
  have hfit := growslice_fits hcap hbytes
  have h48' : ¬ (281474976710656 < Builtin.nextslicecap (n + m) cap * i.bytes) := by omega
  simp [Builtin.append_, run_underlying ht, run_underlying hti, sizeOf, typeInfo, zeroValue, hi, hz, asInt, asIntOf, hw, hneg, hbig, hn, h63', h48', Question.forced, hfo, newRow, grownCap, hmz, hna]
  congr 2
  apply Array.ext'
  simp [List.append_assoc]
 have grows : ∀ (A : Option Addr) (cap : Nat), cap < n + m → (Builtin.firstCells i.size n (.slice A n cap)).run P w.drew = .ok xs.toArray w.drew → v = .slice A n cap →
   ∃ v' w', (Builtin.append_ #[t, ti] ty #[v, .int kx m]).run P w = .ok v' w' ∧ QRow w' base e i.size v' (n + m) (xs ++ news) ∧ w.grownBy w' v.ownBlock ∧ (v'.ownBlock = v.ownBlock ∨ ∃ b, v'.ownBlock = some b ∧ w.heap.size ≤ b) := by
  intro A cap hcap hfo hv
  have hgr := grown cap hcap v.ownBlock
  exact ⟨_, _, by rw [hv]; exact runs A cap hcap hfo, q_of_own hgr.1, hgr.2, .inr ⟨_, rfl, Nat.le_refl _⟩⟩
 rcases hown.2 with ⟨h0, A, hv, hA⟩ | ⟨g, off, cap, cur, hv, hbg, hg, hnc, hcm, hcs, htake⟩
 ·have hx : xs = [] := List.eq_nil_of_length_eq_zero (by rw [hown.1, h0, Nat.zero_mul])
  refine grows A 0 (by omega) ?_ (by rw [hv, h0])
  subst hx
  subst h0
  cases A with
  | none => simp [Builtin.firstCells]
  | some b => simpa using run_firstCells_some (P := P) w.drew i.size 0 b 0 0 [] (by simp) (by simp)
 ·by_cases hroom : n + m ≤ cap
  ·have hfit : off * i.size + n * i.size + news.length ≤ cur.size := by
    rw [hl, hcs, ← Nat.add_mul, ← Nat.add_mul]
    exact Nat.mul_le_mul_right _ (by omega)
   have hst := run_storeCells_cells (P := P) g (off * i.size + n * i.size) news 0 w (fun j hj => by rw [cell_of_row w g _ cur e (0, 0) hg]; simp; omega) (fun j _ => blk_frozen hg _) h1
   simp only [Nat.add_zero] at hst
   obtain ⟨cur', h3, h4, h5⟩ := setCells_row news (off * i.size + n * i.size) w cur hg hfit
   obtain ⟨s1, s2, s3, s4⟩ := setCells_same g news (off * i.size + n * i.size) w
   have hadd : (⟨g, off * i.size, none⟩ : Addr).add (n * i.size) = ⟨g, off * i.size + n * i.size, none⟩ := add_at _ _ _
   refine ⟨.slice (some ⟨g, off * i.size, none⟩) (n + m) cap, w.setCells g (off * i.size + n * i.size) news, ?_, ⟨by rw [List.length_append, hown.1, hl, Nat.add_mul], .inr ⟨g, off, cap, cur', rfl, hbg, h3, hroom, hcm, by rw [h4, hcs], ?_⟩⟩,
    ⟨s1, s2, s3, by rw [s4]; exact Nat.le_refl _, fun k _ hk => setCells_far news _ k (fun he => hk (by rw [hv, he]; simp [Value.ownBlock]))⟩, .inl (by rw [hv]; rfl)⟩
   ·rw [hv]
    simp [Builtin.append_, run_underlying ht, run_underlying hti, sizeOf, typeInfo, zeroValue, hi, hz, asInt, asIntOf, hw, hneg, hbig, hroom, hmz, hna, hadd, hst]
   ·rw [h5, List.append_assoc, List.drop_append_of_le_length (by rw [List.length_take, Array.length_toList]; omega), List.drop_take]
    rw [show off * i.size + n * i.size - off * i.size = n * i.size by omega, htake]
    rw [← List.append_assoc]
    exact List.take_left' (by rw [List.length_append, hown.1, hl, Nat.add_mul])
  ·refine grows (some ⟨g, off * i.size, none⟩) cap (by omega) ?_ hv
   refine run_firstCells_some (P := P) w.drew i.size n _ n cap xs hown.1 (fun j u hu => ?_)
   have hgd : w.drew.heap[g]? = some (.cells cur e (0, 0)) := hg
   rw [add_at, cell_of_row w.drew g _ cur e (0, 0) hgd]
   rw [← htake, List.getElem?_take] at hu
   split at hu
   ·rw [List.getElem?_drop] at hu
    rw [← Array.getElem?_toList]
    exact hu
   ·cases hu
end
section
variable {P : Program} {α : Type}
theorem Q_zeros_run (d : Kd α) {W : World} (base : Nat) (t ti ty e : TypeId) (z : Value) (bytes : Nat) (ht : P.underlying t = some (.slice e)) {k : IntKind} (hti : P.underlying ti = some (.int k)) (hinfo : (P.info? e).map (fun i => (i.zero, i.size, i.bytes)) = some (some z, d.sz, bytes)) (hz : z.cells.size = d.sz) (hs0 : 0 < d.sz) (hb0 : 0 < bytes)
  (v : Value) (xs : List α) (z0 : α) {ok : Nat → Prop} (hzero : d.M W base (fun _ => False) z0 z.cells.toList) (hfresh : ∀ k, W.heap.size ≤ k → ok k) (HO : d.Q e W base ok v xs) (kx : IntKind) (n : Int) (h0 : 0 < n) (hl : (xs.length + n.toNat) * bytes ≤ 140737488355328) (hbase : base ≤ W.heap.size) :
  ∃ v1 w1, (Builtin.append_ #[t, ti] ty #[v, .int kx n]).run P W = .ok v1 w1 ∧ d.Q e w1 base ok v1 (xs ++ List.replicate n.toNat z0) ∧ W.grownBy w1 v.ownBlock ∧ (v1.ownBlock = v.ownBlock ∨ ∃ b, v1.ownBlock = some b ∧ W.heap.size ≤ b) := by
 obtain ⟨m, rfl⟩ := Int.eq_ofNat_of_zero_le (Int.le_of_lt h0)
 simp only [Int.toNat_natCast] at hl ⊢
 have hm : m ≠ 0 := by omega
 obtain ⟨i0, hi, hzz⟩ := Option.map_eq_some_iff.1 hinfo
 simp only [Prod.mk.injEq] at hzz
 obtain ⟨hz0, hz1, hz2⟩ := hzz
 obtain ⟨hok, inner, hown, hr⟩ := HO
 have hnM : Reps (d.M W base (fun _ => False)) d.sz (List.replicate m z0) (Builtin.zeroCells z.cells m).toList := Kd.reps_zeros hz hs0 hzero m
 obtain ⟨v1, w1, hrun, h2, hg, hat'⟩ := q_zeros (P := P) W base t ti ty e i0 z d.sz bytes ht hti hi hz0 hz1 hz2 hz hs0 hb0 v xs.length inner hown kx m hm (Kd.reps_one hnM hs0 (fun _ _ hp => d.K_one (d.K_of_M hp))) hl hbase
 have hne : ∀ k, some k ≠ v.ownBlock → k < W.heap.size → some k ≠ v1.ownBlock := by
  intro k hk hlt
  rcases hat' with hat | ⟨b, hb, hle⟩
  ·rw [hat]; exact hk
  ·rw [hb]
   intro he
   injection he with he
   omega
 have step : ∀ {q : α} {c : List Value} {o : Nat → Prop}, d.M W base o q c → (∀ k, o k → ok k ∧ some k ≠ v.ownBlock) → d.M w1 base (fun k => ok k ∧ some k ≠ v1.ownBlock) q c := by
  intro q c o hq ho
  have h1 := d.M_move (w1 := w1) (fun k hk => hg.block k hk.2.2.1 (ho k hk.1).2) (d.M_bound hq)
  exact d.M_mono (fun k hk => ⟨(ho k hk.1).1, hne k (ho k hk.1).2 hk.2.2.1⟩) h1
 refine ⟨v1, w1, hrun, ⟨fun k hk => ?_, inner ++ (Builtin.zeroCells z.cells m).toList, by rw [List.length_append, List.length_replicate]; exact h2, Kd.reps_append (hr.imp_ (fun _ _ hq => step hq (fun _ hk => hk))) (hnM.imp_ (fun _ _ hq => step hq (fun _ hk => hk.elim)))⟩, hg, hat'⟩
 rcases hat' with hat | ⟨b, hb, hle⟩
 ·exact hok k (hat ▸ hk)
 ·rw [hb] at hk
  injection hk with hk
  exact hfresh k (by omega)
end
section
variable {P : Program} {ops : Array Oper} {rest : List Oper} {o : Oper} {a : Act} {Q : Exit → Act → World → Prop} {α : Type}
theorem Q_append_zeros (d : Kd α) {W : World} (base : Nat) (hgd : o.guard = none) (s x : Operand) (t ti e : TypeId) (z : Value) (bytes : Nat)
  (ho : o.op = .call { callee := .builtin .append, args := #[s, x], argTypes := #[t, ti] })
  (ht : P.underlying t = some (.slice e)) {k : IntKind} (hti : P.underlying ti = some (.int k)) (hinfo : (P.info? e).map (fun i => (i.zero, i.size, i.bytes)) = some (some z, d.sz, bytes)) (hz : z.cells.size = d.sz) (hs0 : 0 < d.sz) (hb0 : 0 < bytes)
  (v : Value) (xs : List α) (z0 : α) {kx : IntKind} (n : Int) (ok : Nat → Prop) (hs : a.eval s = v) (hx : a.eval x = .int kx n) (hzero : d.M W base (fun _ => False) z0 z.cells.toList) (hfresh : ∀ k, W.heap.size ≤ k → ok k)
  (HO : d.Q e W base ok v xs) (h0 : 0 < n) (hbase : base ≤ W.heap.size) (hl : (xs.length + n.toNat) * bytes ≤ 140737488355328)
  (h : ∀ v1 w1, d.Q e w1 base ok v1 (xs ++ List.replicate n.toNat z0) → W.grownBy w1 v.ownBlock → (v1.ownBlock = v.ownBlock ∨ ∃ b, v1.ownBlock = some b ∧ W.heap.size ≤ b) → wpList P ops Q rest (a.put o.dst v1) w1) :
  wpList P ops Q (o :: rest) a W := by
 obtain ⟨v1, w1, hr1, h1, hg, hat⟩ := Q_zeros_run (P := P) d base t ti o.type e z bytes ht hti hinfo hz hs0 hb0 v xs z0 hzero hfresh HO kx n h0 hl hbase
 refine wpList_plain hgd fun K hK => ?_
 unfold Oper.wp execOp
 simp only [ho, resolve, invoke, builtin, Sem.run_bind, Sem.run_pure, Result.andThen_ok, List.map_toArray, List.map_cons, List.map_nil, hs, hx, hr1]
 exact hK _ _ (h v1 w1 h1 hg hat)
end
/-- WHAT grow DOES, delay ahead of 0. -/
def growL (delay many : Int) (l : List Int) : List Int :=
 let l2 := if delay - (l.length : Int) > 0 then l ++ List.replicate (delay - (l.length : Int)).toNat 0 else l
 l2.set (delay - 1).toNat (wrap64 (rd l2 (delay - 1) + many))
set_option maxHeartbeats 8000000 in
set_option maxRecDepth 100000 in
theorem grow_zero (pb : Nat) (many R wt ut : Int) (v : Value) (W : World) (hP : W.heap[pb]? = some (.cells #[.int .i64 R, v, .int .i64 wt, .int .i64 ut] 34 (0, 0))) :
  Calls Try.prog 62 #[.pointer (some ⟨pb, 0, none⟩), .int .i64 0, .int .i64 many] W fun e W' => e = .returned (.tuple #[]) ∧ W' = W.setCell ⟨pb, 0, none⟩ (.int .i64 (wrap64 (R + many))) := by
 have hu := Try.underlying34
 have p0 := blk_cell hP 0
 have f0 := blk_frozen hP 0
 simp only [List.getElem?_toArray, List.getElem?_cons_zero, List.getElem?_cons_succ] at p0
 clear hP
 go_enter Try.func62, Try.ntmps62
 go_wp2
 exact bodyPost_ret (results_none rfl _ _ _) rfl ⟨rfl, rfl⟩
set_option maxHeartbeats 8000000 in
set_option maxRecDepth 100000 in
theorem grow_old (pb g off cap : Nat) (delay many R wt ut : Int) (l : List Int) (base : Nat) (W : World) (hP : W.heap[pb]? = some (.cells #[.int .i64 R, .slice (some ⟨g, off, none⟩) l.length cap, .int .i64 wt, .int .i64 ut] 34 (0, 0)))
  (hQ : (Kd.int .i64).Q 3 W base (fun _ => True) (.slice (some ⟨g, off, none⟩) l.length cap) l) (hd : 0 < delay) (hd8 : delay ≤ 8) (hl : delay ≤ (l.length : Int)) (hl8 : l.length ≤ 8) :
  Calls Try.prog 62 #[.pointer (some ⟨pb, 0, none⟩), .int .i64 delay, .int .i64 many] W fun e W' => e = .returned (.tuple #[]) ∧ W' = W.setCell ⟨g, off + (delay - 1).toNat, none⟩ (.int .i64 (wrap64 (rd l (delay - 1) + many))) := by
 have hu := Try.underlying34
 have p1 := blk_cell hP 1
 simp only [List.getElem?_toArray, List.getElem?_cons_zero, List.getElem?_cons_succ] at p1
 obtain ⟨c1, c2⟩ := Kd.Q_cell (0 : Int) hQ (delay - 1) (by omega) (by omega)
 have e : (delay - 1).toNat = delay.toNat - 1 := by omega
 obtain ⟨x, hx⟩ : ∃ x, rd l (delay - 1) = x := ⟨_, rfl⟩
 have c1' : W.cell? ⟨g, off + (delay.toNat - 1), none⟩ = some (.int .i64 x) := by rw [← hx, ← e]; exact c1
 have c2' : W.frozen? ⟨g, off + (delay.toNat - 1), none⟩ = false := by rw [← e]; exact c2
 rw [e, hx]
 clear hP hQ c1 c2
 have w1 : wrap64 (delay - (l.length : Int)) = delay - (l.length : Int) := IntWalk.wrap64_in _ (by omega)
 have w2 : wrap64 (delay - 1) = delay - 1 := IntWalk.wrap64_in _ (by omega)
 have b1 : (delay == 0) = false := by simp; omega
 have b2 : decide ((l.length : Int) < delay) = false := decide_eq_false (by omega)
 have b3 : 0 ≤ delay - 1 := by omega
 have b4 : delay - 1 < (l.length : Int) := by omega
 clear hx e
 go_enter Try.func62, Try.ntmps62
 go_wp2
 exact bodyPost_end (results_none rfl _ _ _) rfl ⟨rfl, rfl⟩
set_option maxHeartbeats 8000000 in
set_option maxRecDepth 100000 in
theorem grow_new (pb : Nat) (v : Value) (delay many R wt ut : Int) (l : List Int) (base : Nat) (W : World) (hP : W.heap[pb]? = some (.cells #[.int .i64 R, v, .int .i64 wt, .int .i64 ut] 34 (0, 0)))
  (hQ : (Kd.int .i64).Q 3 W base (fun _ => True) v l) (hbase : base ≤ W.heap.size) (hd : 0 < delay) (hd8 : delay ≤ 8) (hl : (l.length : Int) < delay) :
  Calls Try.prog 62 #[.pointer (some ⟨pb, 0, none⟩), .int .i64 delay, .int .i64 many] W fun e W' => e = .returned (.tuple #[]) ∧ ∃ v', W'.heap[pb]? = some (.cells #[.int .i64 R, v', .int .i64 wt, .int .i64 ut] 34 (0, 0)) ∧ (Kd.int .i64).Q 3 W' base (fun _ => True) v' (growL delay many l) ∧ Kept W W' (fun k => k = pb ∨ some k = v.ownBlock) ∧ (W'.os = W.os ∧ W'.tape = W.tape ∧ W'.output = W.output) := by
 have hu := Try.underlying34
 obtain ⟨A, cap, rfl, hcap⟩ := Kd.Q_slice hQ
 have p1 := blk_cell hP 1
 have f1 := blk_frozen hP 1
 simp only [List.getElem?_toArray, List.getElem?_cons_zero, List.getElem?_cons_succ] at p1
 have HQ := Aside0.mk hQ
 have HP := Aside0.mk hP
 have hne := Aside0.mk (Kd.Q_ne hQ hP (by decide))
 have hs0 : 0 < delay - (l.length : Int) := by omega
 have w1 : wrap64 (delay - (l.length : Int)) = delay - (l.length : Int) := IntWalk.wrap64_in _ (by omega)
 have w2 : wrap64 (delay - 1) = delay - 1 := IntWalk.wrap64_in _ (by omega)
 have b1 : (delay == 0) = false := by simp; omega
 have b2 : decide ((l.length : Int) < delay) = true := decide_eq_true hl
 have b3 : 0 ≤ delay - 1 := by omega
 have Hb := Aside0.mk hbase
 have Hl := Aside0.mk hl
 have Hd8 := Aside0.mk hd8
 have Hs0 := Aside0.mk hs0
 clear hP hQ hcap hs0
 go_enter Try.func62, Try.ntmps62
 go_wp2_with ((with_reducible refine gate_builtin (b := .append) (xs := #[.tmp 30, .tmp 31]) rfl ?_); at_builtin; refine Q_append_zeros (Kd.int .i64) base rfl (.tmp 30) (.tmp 31) 32 3 3 (.int .i64 0) 8 rfl Try.underlying32 Try.underlying3 info3 rfl (by decide) (by omega) _ l (0 : Int) (delay - (l.length : Int)) (fun _ => True) rfl rfl ?z (fun _ _ => trivial) HQ.out Hs0.out Hb.out (by have := Hl.out; have := Hd8.out; omega) ?_; (case z => exact rfl); intro v1 u1 hq hg hat; obtain ⟨l2, hl2⟩ : ∃ l2, l ++ List.replicate (delay - (l.length : Int)).toNat (0 : Int) = l2 := ⟨_, rfl⟩; rw [hl2] at hq; have hlen : l2.length = delay.toNat := (by rw [← hl2]; have := Hl.out; simp; omega); obtain ⟨g, o1, cap1, hv1, _, _, _⟩ := Kd.Q_form hq (by have := Hl.out; omega); subst hv1; have hP1 := blk_grown HP.out hg hne.out; have hq2 := Kd.Q_set hq hP1 (by decide) 1 (.slice (some ⟨g, o1, none⟩) l2.length cap1); have en : (delay - 1).toNat = delay.toNat - 1 := (by omega); obtain ⟨c1, c2⟩ := Kd.Q_cell (0 : Int) hq2 (delay - 1) (by omega) (by omega); rw [en] at c1 c2; obtain ⟨x, hx⟩ : ∃ x, rd l2 (delay - 1) = x := ⟨_, rfl⟩; have c3 : (u1.setCell ⟨pb, 1, none⟩ (.slice (some ⟨g, o1, none⟩) l2.length cap1)).cell? ⟨g, o1 + (delay.toNat - 1), none⟩ = some (.int .i64 x) := (by rw [← hx]; exact c1); have q1 := blk_cell hP1 1; have qf1 := blk_frozen hP1 1; simp only [List.getElem?_toArray, List.getElem?_cons_zero, List.getElem?_cons_succ] at q1; have b4 : delay - 1 < (l2.length : Int) := (by omega); have HX := Aside0.mk hx; have HQ1 := Aside0.mk hq; have HQ2 := Aside0.mk hq2; have HG := Aside0.mk hg; have HAT := Aside0.mk hat; have HP1 := Aside0.mk hP1; have HL2 := Aside0.mk hl2; have c2' : (u1.setCell ⟨pb, 1, none⟩ (.slice (some ⟨g, o1, none⟩) l2.length cap1)).frozen? ⟨g, o1 + (delay.toNat - 1), none⟩ = false := c2; clear hx hq hq2 hg hat hP1 hl2 c1 c2 hlen)
 have hgp : g ≠ pb := by
  have z := Kd.Q_ne HQ1.out HP1.out (by decide)
  intro h
  exact z (by rw [h]; rfl)
 have hfin := (Kd.Q_putg HQ2.out (delay - 1) b3 b4 (wrap64 (x + many))).1
 have hown : ∀ k, k = g → (k = pb ∨ some k = (Value.slice A l.length cap).ownBlock) ∨ W.heap.size ≤ k := by
  rintro k rfl
  rcases HAT.out with h | ⟨b, h, hle⟩
  ·exact .inl (.inr h)
  ·have : k = b := Option.some.inj h
   exact .inr (by omega)
 have en : (delay - 1).toNat = delay.toNat - 1 := by omega
 refine bodyPost_end (results_none rfl _ _ _) rfl ⟨rfl, _, blk_far (blk_put HP1.out 1 _ rfl) (Ne.symm hgp) _, ?_, ?_, ?_⟩
 ·have e : growL delay many l = l2.set (delay - 1).toNat (wrap64 (x + many)) := by
   unfold growL
   simp only
   rw [if_pos (by have := Hl.out; omega), HL2.out, HX.out]
  rw [e, ← en]
  exact hfin
 ·refine Kept.setCell (Kept.setCell (Kept.of_grown HG.out (Kept.refl W _) (fun k h => .inl (.inr h.symm))) (.inl (.inl rfl)) _) ?_ _
  exact hown g rfl
 ·exact ⟨HG.out.os, HG.out.tape, HG.out.output⟩
/-! ### governorref16_Same: function 26 -/
def eqL {α : Type} (e : α → α → Bool) : List α → List α → Bool
 | [], [] => true
 | a :: l, b :: m => e a b && eqL e l m
 | _, _ => false
theorem eqL_step {α : Type} (e : α → α → Bool) (d : α) : ∀ (l m : List α) (i : Nat), i < l.length → i < m.length → eqL e (l.drop i) (m.drop i) = (e (l.getD i d) (m.getD i d) && eqL e (l.drop (i + 1)) (m.drop (i + 1)))
 | a :: l, b :: m, 0, _, _ => rfl
 | a :: l, b :: m, i + 1, h, h' => by simpa using eqL_step e d l m i (by simpa using h) (by simpa using h')
theorem eqL_end {α : Type} (e : α → α → Bool) (l m : List α) (h : l.length = m.length) : eqL e (l.drop l.length) (m.drop l.length) = true := by
 rw [List.drop_length, h, List.drop_length]; rfl
/-- From i on, by steps: what a loop has still to compare. -/
def eqAt {α : Type} (e : α → α → Bool) (l m : List α) (i : Int) : Bool := eqL e (l.drop i.toNat) (m.drop i.toNat)
theorem eqAt_lt {α : Type} (e : α → α → Bool) (d : α) (l m : List α) (i : Int) (h0 : 0 ≤ i) (h : i < (l.length : Int)) (h' : i < (m.length : Int)) : eqAt e l m i = (e (l.getD i.toNat d) (m.getD i.toNat d) && eqAt e l m (i + 1)) := by
 unfold eqAt
 rw [eqL_step e d l m i.toNat (by omega) (by omega), show (i + 1).toNat = i.toNat + 1 by omega]
theorem eqAt_end {α : Type} (e : α → α → Bool) (l m : List α) (i : Int) (h : l.length = m.length) (hi : i = (l.length : Int)) : eqAt e l m i = true := by
 unfold eqAt
 rw [hi, Int.toNat_natCast]; exact eqL_end e l m h
theorem ch (x : Bool) {P : Prop} (h : P) : x = true ∨ (x = false ∧ P) := by cases x <;> simp [h]
theorem chN (x : Bool) {P : Prop} (h : P) : x = false ∨ (x = true ∧ P) := by cases x <;> simp [h]
/-- The two blocks that a comparison reads. -/
structure Two (w W : World) (a b : Array Value) (t : Nat) : Prop where
 hA : W.heap[w.heap.size]? = some (.cells a t (0, 0))
 hB : W.heap[w.heap.size + 1]? = some (.cells b t (0, 0))
 hW : Below w.heap.size w W
theorem Two.drewN {w W : World} {a b : Array Value} {t : Nat} (h : Two w W a b t) (n : Nat) : Two w (W.drewN n) a b t := ⟨blk_drewN h.hA n, blk_drewN h.hB n, pw_below_drewN h.hW n⟩
theorem Two.below {w W W' : World} {a b : Array Value} {t : Nat} (h : Two w W a b t) (hb : Below W.heap.size W W') : Two w W' a b t := ⟨blk_below h.hA hb, blk_below h.hB hb, below_step h.hW hb⟩
theorem two_mk (w : World) (a b : Array Value) (t : Nat) : Two w ((w.alloc (.cells a t)).alloc (.cells b t)) a b t := by
 have z := blk_new (w.alloc (.cells a t)) (.cells b t)
 rw [World.size_alloc] at z
 exact ⟨blk_alloc (blk_new w _) _, z, below_alloc (below_alloc (Below.refl _ _) _) _⟩
def eqInt (x y : Int) : Bool := x == y
def governorref16_Same.b (a0_0 : Int) (l0_1 : List (Int)) (a0_2 : Int) (a0_3 : Int) (a1_0 : Int) (l1_1 : List (Int)) (a1_2 : Int) (a1_3 : Int) : Bool := !(a0_0 != a1_0 || (a0_2 != a1_2 || (a0_3 != a1_3 || ((l0_1.length : Int) != (l1_1.length : Int))))) && eqAt eqInt l0_1 l1_1 0
def governorref16_Same.f (a0_0 : Int) (l0_1 : List (Int)) (a0_2 : Int) (a0_3 : Int) (a1_0 : Int) (l1_1 : List (Int)) (a1_2 : Int) (a1_3 : Int) : Option Bool := if l0_1.length < 140737488355328 then some (governorref16_Same.b a0_0 l0_1 a0_2 a0_3 a1_0 l1_1 a1_2 a1_3) else none
set_option maxHeartbeats 8000000 in
set_option maxRecDepth 100000 in
theorem governorref16_Same.calls (a0_0 : Int) (A0_1 : Option Addr) (c0_1 : Nat) (l0_1 : List (Int)) (a0_2 : Int) (a0_3 : Int) (a1_0 : Int) (A1_1 : Option Addr) (c1_1 : Nat) (l1_1 : List (Int)) (a1_2 : Int) (a1_3 : Int) (r : Bool) (w : World) (hr0_1 : Kd.C (Kd.int .i64) w A0_1 l0_1.length l0_1) (hc0_1 : l0_1.length ≤ c0_1) (hr1_1 : Kd.C (Kd.int .i64) w A1_1 l1_1.length l1_1) (hc1_1 : l1_1.length ≤ c1_1) (h : governorref16_Same.f a0_0 l0_1 a0_2 a0_3 a1_0 l1_1 a1_2 a1_3 = some r) :
  Calls Try.prog 26 #[.agg #[.int .i64 a0_0, .slice A0_1 l0_1.length c0_1, .int .i64 a0_2, .int .i64 a0_3], .agg #[.int .i64 a1_0, .slice A1_1 l1_1.length c1_1, .int .i64 a1_2, .int .i64 a1_3]] w fun e w' => e = .returned (.bool r) ∧ Below w.heap.size w w' := by
 have hu34 := Try.underlying34
 unfold governorref16_Same.f at h
 by_cases hN : l0_1.length < 140737488355328
 rotate_left
 ·rw [if_neg hN] at h; cases h
 rw [if_pos hN] at h
 have hr := Option.some.inj h
 unfold governorref16_Same.b at hr
 have HN1 := Aside0.mk hN
 clear h hN
 have HR0_1 := Aside0.mk hr0_1
 clear hr0_1 hc0_1
 have HR1_1 := Aside0.mk hr1_1
 clear hr1_1 hc1_1
 go_enter Try.func26, Try.ntmps26
 go_upto_region 1 with (fail)
 have ht := two_mk w #[.int .i64 a0_0, .slice A0_1 l0_1.length c0_1, .int .i64 a0_2, .int .i64 a0_3] #[.int .i64 a1_0, .slice A1_1 l1_1.length c1_1, .int .i64 a1_2, .int .i64 a1_3] 34
 generalize ((w.alloc _).alloc _) = W at ht ⊢
 have xa := blk_cell ht.hA
 have xb := blk_cell ht.hB
 have HT := Aside0.mk ht
 clear ht
 go_cut [33] (fun v wc => v = .bool (a0_0 != a1_0 || (a0_2 != a1_2 || (a0_3 != a1_3 || ((l0_1.length : Int) != (l1_1.length : Int))))) ∧ W = wc)
 case first =>
  rcases (ch (a0_0 != a1_0) (ch (a0_2 != a1_2) (ch (a0_3 != a1_3) (Bool.eq_false_or_eq_true ((l0_1.length : Int) != (l1_1.length : Int)))))) with h0 | ⟨h0, h1 | ⟨h1, h2 | ⟨h2, h3 | h3⟩⟩⟩ <;> (go_wp2; go_meet; exact ⟨by simp [*], rfl⟩)
 case rest =>
  obtain ⟨rfl, rfl⟩ := hcut
  cases hX : (a0_0 != a1_0 || (a0_2 != a1_2 || (a0_3 != a1_3 || ((l0_1.length : Int) != (l1_1.length : Int)))))
  case true => (rw [hX] at hr; replace hr := Aside0.mk hr; go_wp2; go_ret; exact ⟨by rw [← hr.out]; rfl, HT.out.hW⟩)
  case false =>
   rw [hX] at hr
   simp only [Bool.or_eq_false_iff, bne_eq_false_iff_eq] at hX
   obtain ⟨h0, h1, h2, h3⟩ := hX
   clear h0 h1 h2
   replace hr := Aside0.mk hr
   have HL1 := Aside0.mk (show l0_1.length = l1_1.length by omega)
   clear h3
   go_wp2
   go_loopw [5] (fun v wr => ∃ i : Int, 0 ≤ i ∧ i ≤ (l0_1.length : Int) ∧ v = .int .i64 i ∧ Aside0 ((eqAt eqInt l0_1 l1_1 i) = r) ∧ Aside0 (Two w wr #[.int .i64 a0_0, .slice A0_1 l0_1.length c0_1, .int .i64 a0_2, .int .i64 a0_3] #[.int .i64 a1_0, .slice A1_1 l1_1.length c1_1, .int .i64 a1_2, .int .i64 a1_3] 34)) (fun v _ => ((l0_1.length : Int) - intOf v).toNat)
   case atStart => exact ⟨0, Int.le_refl _, by omega, rfl, hr, HT⟩
   case round =>
    obtain ⟨i, h0, hi, rfl, hr, HT⟩ := hrel
    have xa := blk_cell HT.out.hA
    have xb := blk_cell HT.out.hB
    by_cases hlt : i < (l0_1.length : Int)
    ·have hlt' : i < (l1_1.length : Int) := by have := HL1.out; omega
     obtain ⟨ad0, e0, u0⟩ := Kd.at_int (Kd.C_below HR0_1.out HT.out.hW) i h0 hlt
     obtain ⟨ad1, e1, v0⟩ := Kd.at_int (Kd.C_below HR1_1.out HT.out.hW) i h0 hlt'
     cases e0; cases e1
     have hs := eqAt_lt eqInt 0 l0_1 l1_1 i h0 hlt hlt'
     change _ = (eqInt (rd l0_1 i) (rd l1_1 i) && _) at hs
     cases hc : eqInt (rd l0_1 i) (rd l1_1 i)
     case true =>
      rw [hc, Bool.true_and] at hs
      replace hr := Aside0.mk ((congrArg (fun b => b) hs.symm).trans hr.out)
      replace hc : (rd l0_1 i == rd l1_1 i) = true := hc; have hc' : (rd l0_1 i != rd l1_1 i) = false := by rw [bne, hc]; rfl
      clear hs
      go_wp2
      repeat (go_quiet (fail); try go_wp2)
      go_roundw
      case measure => have hn := HN1.out; have h_ : wrap64 (i + 1) = i + 1 := (by unfold wrap64; omega); simp [intOf, h_]; omega
      case rel => exact ⟨i + 1, by omega, by omega, by first | rfl | (have h_ : wrap64 (i + 1) = i + 1 := (by have := HN1.out; unfold wrap64; omega); simp [h_]), hr, ⟨HT.out.drewN _⟩⟩
     case false =>
      rw [hc, Bool.false_and] at hs
      replace hr := Aside0.mk ((congrArg (fun b => b) hs.symm).trans hr.out)
      replace hc : (rd l0_1 i == rd l1_1 i) = false := hc; have hc' : (rd l0_1 i != rd l1_1 i) = true := by rw [bne, hc]; rfl
      clear hs
      go_wp2
      repeat (go_quiet (fail); try go_wp2)
      go_ret
      exact ⟨by rw [← hr.out]; rfl, pw_below_drewN HT.out.hW _⟩
    ·have hs := eqAt_end eqInt l0_1 l1_1 i HL1.out (by omega)
     replace hr := Aside0.mk ((congrArg (fun b => b) hs.symm).trans hr.out)
     clear hs
     go_wp2
     go_ret
     exact ⟨by rw [← hr.out]; rfl, HT.out.hW⟩
/-! ### slices_Backward_int_int: function 76 -/
section
variable {F : Fence} {n : Nat} {P : Program}
/-- An iterator's contract, where what the caller's invariant tells (Fi) may be used by it at every round. -/
def SeqTold {α : Type} (F : Fence) (n : Nat) (P : Program) (g : Nat) (lb : Array Value) (encs : α → Array Value) (Kp : World → World → Prop) (Fi : List α → World → Prop) (Gd : List α → α → Prop) (S Sp : List α → Prop) (N : Nat) (w : World) : Prop :=
 ∀ (l : Nat) (J Jx : List α → World → Prop) (W : World), Below w.heap.size w W → AbidesFrom W.heap.size J → AbidesFrom W.heap.size Jx → (∀ pre W1, J pre W1 → Fi pre W1) →
  (∀ pre x W1, J pre W1 → pre.length < N → Gd pre x → YieldAt F (n - 1) P l (encs x) W1 fun e W' =>
   (e = .returned (.bool true) ∧ J (pre ++ [x]) W' ∧ Kp W1 W') ∨ (e = .returned (.bool false) ∧ Jx (pre ++ [x]) W')) →
  J [] W →
  CallsIn F n P g (#[.func (.yield l) #[] #[]] ++ lb) W fun e W' => (∃ v, e = .returned v) ∧ ((∃ xs, S xs ∧ J xs W') ∨ (∃ pre, Sp pre ∧ Jx pre W'))
theorem rangeFunc_told {α : Type} {g : Operand} {ps : Array Tmp} {assign body : Code} {Q : Exit → Act → World → Prop} {a : Act} {w : World}
  (hro : F.round = none) (h1 : 1 ≤ n) {gf : Nat} {lb : Array Value} (hg : a.eval g = .func (.func gf) #[] lb) (hFg : F.fn gf) (eg : ∀ args w, (callFunc gf args).run P w = .ok (.enter gf args) w)
  {encs : α → Array Value} {Kp : World → World → Prop} {S Sp : List α → Prop} {N : Nat} {w0 : World} {Fi : List α → World → Prop} {Gd : List α → α → Prop} (hseq : SeqTold F (n - 1) P gf lb encs Kp Fi Gd S Sp N w0)
  (hKt : ∀ {A B C : World}, Kp A B → Kp B C → Kp A C) (hKb : ∀ (W : World) (l : Nat) (o o' : Obj), w.heap.size ≤ l → W.heap[l]? = some o → o.isCells = false → o.isWalk = false → Kp W (W.putObj l o')) (hb0 : Below w0.heap.size w0 w) (hps : ∀ x, (encs x).size = ps.size)
  (I : List α → World → Prop) (Ix : Code → List α → World → Prop) (hFi : ∀ pre W, I pre W → Fi pre W) (hI : OwnFrom w.heap.size I) (hIx : ∀ c, OwnFrom w.heap.size (Ix c)) (h0 : I [] w) (Ax : α → Act → World → Prop) (hAx : ∀ x a', OwnFrom w.heap.size (fun (_ : Unit) W => Ax x a' W))
  (hassign : ∀ (l : Nat) (pre : List α) (x : α) (W : World) (K : Act → World → Prop), I pre W → (∀ a' W', KeepsFrom w.heap.size W W' → Kp W W' → I pre W' → Ax x a' W' → K a' W') →
   assign.wpIn (F.inRound l) (n - 1 - 1) P (Exit.then K (fun _ _ _ => False)) { tmps := (ps.zip (encs x)).foldl (fun t (p, v) => t.setIfInBounds p v) a.tmps, defers := [] } W)
  (hbody : ∀ (l : Nat) (pre : List α) (x : α) (a' : Act) (W : World), w.heap.size ≤ l → (∃ r, W.heap[l]? = some (.loop r)) → I pre W → Ax x a' W → pre.length < N → Gd pre x → body.wpIn (F.inRound l) (n - 1 - 1) P (ownPostG w.heap.size Kp I Ix (pre ++ [x]) W) a' W)
  (hdone : ∀ (D : Nat) (xs : List α) (W : World), w.heap.size ≤ D → S xs → I xs W → W.heap[D]? = some (.deferred (some [])) → Q .normal { a with defers := { target := .collected D, args := #[] } :: a.defers } W)
  (hstop : ∀ (D : Nat) (c : Code) (pre : List α) (W : World), w.heap.size ≤ D → Sp pre → Ix c pre W → W.heap[D]? = some (.deferred (some [])) → c.wpIn F n P Q { a with defers := { target := .collected D, args := #[] } :: a.defers } W) :
  (Code.rangeFunc g ps assign body).wpIn F n P Q a w := by
 refine wpIn_rangeFunc ?_
 intro fn hfn
 rw [hro]
 obtain ⟨rec, hrec⟩ : ∃ rec : LoopState → Option Code → Loop, rec = fun st pe => { state := st, pending := pe, fn, tmps := a.tmps, params := ps, assign, body, defers := w.heap.size } := ⟨_, rfl⟩
 obtain ⟨W1, hW1⟩ : ∃ W1, (w.alloc (.deferred (some []))).alloc (.loop (rec .ready none)) = W1 := ⟨_, rfl⟩
 have hL1 : W1.heap[w.heap.size + 1]? = some (.loop (rec .ready none)) := by
  rw [← hW1]; have := World.alloc_heap_new (w.alloc (.deferred (some []))) (.loop (rec .ready none)); rwa [World.size_alloc] at this
 have hK1 : W1.heap[w.heap.size]? = some (.deferred (some [])) := by
  rw [← hW1]; exact (Below.heap_alloc _ _ _ (by simp)).trans (World.alloc_heap_new w _)
 have hI1 : I [] W1 := by rw [← hW1]; exact hI.alloc _ (hI.alloc _ h0)
 have hb1 : Below w0.heap.size w0 W1 := by
  rw [← hW1]; exact hb0.trans ((((Below.refl _ w).alloc (Nat.le_refl _) _).alloc (by simp) _).mono hb0.size)
 refine ⟨w.heap.size + 1, [{ target := .collected w.heap.size, args := #[] }], W1, { target := .fn (.func gf) lb, args := #[.func (.yield (w.heap.size + 1)) #[] #[]] }, W1, gf,
  #[.func (.yield (w.heap.size + 1)) #[] #[]] ++ lb, W1, ?_, ?_, ?_, ?_, fun _ => h1, ?_⟩
 ·rw [← hW1, hrec]; exact run_enterLoop_outer _ _ _ _ _
 ·simp only [resolve, hg]
  simp [go_sem]
 ·intro f' hf'; simp [Target.leads] at hf'; subst hf'; exact hFg
 ·simp [invoke, go_sem, eg]
 ·-- THE ITERATOR's CONTRACT, AT THE CALLER's INVARIANT WITH THE TWO FACTS OF BOOK-KEEPING BESIDE IT
  have hnw : ∀ {A B : World} {row : Option Nat}, (∀ r, row = some r → W1.heap.size ≤ r ∧ ∃ o : Obj, A.heap[r]? = some o ∧ o.isWalk = true) → (∀ r, row = some r → w.heap.size ≤ r ∧ ∃ o : Obj, A.heap[r]? = some o ∧ o.isCells = false) :=
   fun hr r e => by obtain ⟨hB, o, ho, hw⟩ := hr r e; exact ⟨by rw [← hW1] at hB; simp at hB; omega, o, ho, Obj.not_cells_of_walk hw⟩
  refine (hseq (w.heap.size + 1)
   (fun pre W => I pre W ∧ W.heap[w.heap.size + 1]? = some (.loop (rec .ready none)) ∧ W.heap[w.heap.size]? = some (.deferred (some [])))
   (fun pre W => ∃ c, Ix c pre W ∧ W.heap[w.heap.size + 1]? = some (.loop (rec .done (some c))) ∧ W.heap[w.heap.size]? = some (.deferred (some [])))
   W1 hb1
   (fun s A B row hs hg' hr => ⟨hI s A B row hs.1 hg' (hnw (B := B) hr), (grownBy_keeps hg' (fun r e => (hr r e).2) hs.2.1 rfl).trans hs.2.1, (grownBy_keeps hg' (fun r e => (hr r e).2) hs.2.2 rfl).trans hs.2.2⟩)
   (fun s A B row hs hg' hr => by
    obtain ⟨c, hc, hl, hk⟩ := hs
    exact ⟨c, hIx c s A B row hc hg' (hnw (B := B) hr), (grownBy_keeps hg' (fun r e => (hr r e).2) hl rfl).trans hl, (grownBy_keeps hg' (fun r e => (hr r e).2) hk rfl).trans hk⟩)
   (fun pre W h => hFi pre W h.1) ?_ ⟨hI1, hL1, hK1⟩).mono ?_
  ·-- ONE ROUND
   rintro pre x W ⟨hi, hl, hk⟩ hlen hgd
   have hlt : w.heap.size + 1 < W.heap.size := (Array.getElem?_eq_some_iff.1 hl).1
   have hy := run_yield (P := P) (args := encs x) hl (by rw [hrec]; exact hps x)
   rw [hrec] at hy
   refine ⟨fn, _, assign, body, hy, roundIn_of_wpIn hfn (hassign _ pre x W _ hi ?_)⟩
   clear hy
   intro a' Wa hkfa hkpa hia hax
   -- THE ASSIGN CODE MAY HAVE LAID BLOCKS (a loop variable that an inner function captures is boxed): the two blocks of book-keeping lie as they lay
   replace hl := hkfa.same _ _ (by omega) hl rfl
   replace hk := hkfa.same _ _ (Nat.le_refl _) hk rfl
   replace hlt : w.heap.size + 1 < Wa.heap.size := (Array.getElem?_eq_some_iff.1 hl).1
   replace hi := hia
   clear hia
   revert hkpa hkfa
   generalize W = Wb
   intro hkfa hkpa
   obtain ⟨W, rfl⟩ : ∃ W, W = Wa := ⟨_, rfl⟩
   refine ⟨_, run_beginRound hl (by rw [hrec]), ?_⟩
   have hl2 : (W.putObj (w.heap.size + 1) (.loop { rec .ready none with state := .busy })).heap[w.heap.size + 1]? = some (.loop { rec .ready none with state := .busy }) := World.putObj_heap_same hlt
   have hk2 : (W.putObj (w.heap.size + 1) (.loop { rec .ready none with state := .busy })).heap[w.heap.size]? = some (.deferred (some [])) := (World.putObj_heap_other (by omega)).trans hk
   have hw2 : Kp W (W.putObj (w.heap.size + 1) (.loop { rec .ready none with state := .busy })) := hKb _ _ _ _ (by omega) hl rfl rfl
   refine wpIn_mono (hbody _ pre x a' _ (by omega) ⟨_, hl2⟩ (hI.putObj _ hi (by omega) hl rfl) ((hAx x a').putObj (s := ()) _ hax (by omega) hl rfl) hlen hgd) ?_
   have fin : ∀ (jump : Option Code) (W3 : World), KeepsFrom w.heap.size (W.putObj (w.heap.size + 1) (.loop { rec .ready none with state := .busy })) W3 →
     (Instr.endRound (w.heap.size + 1) jump).run P W3 = .ok (.bool jump.isNone) (W3.putObj (w.heap.size + 1) (.loop (rec (if jump.isNone then .ready else .done) jump))) ∧
     W3.heap[w.heap.size + 1]? = some (.loop { rec .ready none with state := .busy }) ∧
     (W3.putObj (w.heap.size + 1) (.loop (rec (if jump.isNone then .ready else .done) jump))).heap[w.heap.size + 1]? = some (.loop (rec (if jump.isNone then .ready else .done) jump)) ∧
     (W3.putObj (w.heap.size + 1) (.loop (rec (if jump.isNone then .ready else .done) jump))).heap[w.heap.size]? = some (.deferred (some [])) := fun jump W3 hk3 => by
    have hl3 := hk3.same _ _ (by omega) hl2 rfl
    have := run_endRound (P := P) jump hl3
    rw [hrec] at this ⊢
    exact ⟨this, by rw [hrec] at hl3; exact hl3, World.putObj_heap_same (Array.getElem?_eq_some_iff.1 hl3).1, (World.putObj_heap_other (by omega)).trans (hk3.same _ _ (Nat.le_refl _) hk2 rfl)⟩
   rintro e a3 W3 hp
   cases e with
   | normal =>
    obtain ⟨hk3, hkp3, hi3⟩ := hp
    obtain ⟨hr, hl3, hl4, hk4⟩ := fin none W3 hk3
    exact ⟨_, _, hr, .inl ⟨rfl, ⟨hI.putObj _ hi3 (by omega) hl3 rfl, hl4, hk4⟩, hKt hkpa (hKt (hKt hw2 hkp3) (hKb _ _ _ _ (by omega) hl3 rfl rfl))⟩⟩
   | ret =>
    obtain ⟨hk3, hi3⟩ := hp
    obtain ⟨hr, hl3, hl4, hk4⟩ := fin (some .ret) W3 hk3
    exact ⟨_, _, hr, .inr ⟨rfl, .ret, (hIx _).putObj _ hi3 (by omega) hl3 rfl, hl4, hk4⟩⟩
   | exit id =>
    obtain ⟨hk3, hi3⟩ := hp
    obtain ⟨hr, hl3, hl4, hk4⟩ := fin (some (.exit id)) W3 hk3
    exact ⟨_, _, hr, .inr ⟨rfl, .exit id, (hIx _).putObj _ hi3 (by omega) hl3 rfl, hl4, hk4⟩⟩
   | goto t =>
    obtain ⟨hk3, hi3⟩ := hp
    obtain ⟨hr, hl3, hl4, hk4⟩ := fin (some (.goto t)) W3 hk3
    exact ⟨_, _, hr, .inr ⟨rfl, .goto t, (hIx _).putObj _ hi3 (by omega) hl3 rfl, hl4, hk4⟩⟩
   | panic ch => exact hp.elim
   | outgrown => exact hp.elim
  ·-- BEHIND THE ITERATOR
   rintro e W2 ⟨⟨v, rfl⟩, (⟨xs, hS, hi, hl, hk⟩ | ⟨pre, hSp, c, hi, hl, hk⟩)⟩
   ·exact ⟨none, _, by have := run_endLoop (P := P) hl (by rw [hrec]; simp); rw [hrec] at this; exact this, hdone _ xs _ (Nat.le_refl _) hS (hI.putObj _ hi (by omega) hl rfl) ((World.putObj_heap_other (by omega)).trans hk)⟩
   ·exact ⟨some c, _, by have := run_endLoop (P := P) hl (by rw [hrec]; simp); rw [hrec] at this; exact this, hstop _ c pre _ (Nat.le_refl _) hSp ((hIx c).putObj _ hi (by omega) hl rfl) ((World.putObj_heap_other (by omega)).trans hk)⟩
end
attribute [local go_sem] Oper.semAt_some
def uptoI (zs : List Int) (k : Nat) : List (Int × Int) := (List.range k).map (fun j : Nat => ((zs.length : Int) - 1 - (j : Int), rd zs ((zs.length : Int) - 1 - (j : Int))))
theorem uptoI_succ (zs : List Int) (k : Nat) : uptoI zs (k + 1) = uptoI zs k ++ [((zs.length : Int) - 1 - (k : Int), rd zs ((zs.length : Int) - 1 - (k : Int)))] := by simp [uptoI, List.range_succ]
theorem uptoI_length (zs : List Int) (k : Nat) : (uptoI zs k).length = k := by simp [uptoI]
theorem uptoI_step (zs : List Int) (x : Int) (h0 : 0 ≤ x) (h1 : x < (zs.length : Int)) :
  uptoI zs ((zs.length : Int) - 1 - (x - 1)).toNat = uptoI zs ((zs.length : Int) - 1 - x).toNat ++ [(x, rd zs x)] := by
 rw [show ((zs.length : Int) - 1 - (x - 1)).toNat = ((zs.length : Int) - 1 - x).toNat + 1 by omega, uptoI_succ]
 rw [show (zs.length : Int) - 1 - ((((zs.length : Int) - 1 - x).toNat : Nat) : Int) = x by omega]
/-- What an invariant must tell: the boxed slice, and the cells that are still to come. -/
def TellI (Bs g o cap : Nat) (zs : List Int) (pre : List (Int × Int)) (W : World) : Prop :=
 ∀ k, k ≤ zs.length → pre = uptoI zs k → W.cell? ⟨Bs, 0, none⟩ = some (.slice (some ⟨g, o, none⟩) zs.length cap) ∧ ∀ j : Nat, j + k < zs.length → W.cell? ⟨g, o + j, none⟩ = some (.int .i64 (rd zs (j : Int)))
/-- What comes next. -/
def NextI (zs : List Int) (pre : List (Int × Int)) (x : Int × Int) : Prop := ∃ k, k < zs.length ∧ pre = uptoI zs k ∧ x = ((zs.length : Int) - 1 - (k : Int), rd zs ((zs.length : Int) - 1 - (k : Int)))
set_option maxRecDepth 100000 in
set_option maxHeartbeats 2000000 in
theorem backI1_in (F : Fence) (n : Nat) (h7 : F.fn 88) (hro : F.round = none) (hn : 1 ≤ n) (l Bs g o cap : Nat) (zs : List Int) (hlen : zs.length ≤ 9223372036854775807)
  (J Jx : List (Int × Int) → World → Prop) (hJ : ∀ pre W, J pre W → TellI Bs g o cap zs pre W)
  (hY : ∀ pre x W, J pre W → pre.length < zs.length → NextI zs pre x → YieldAt F (n - 1) Try.prog l #[.int .i64 x.1, .int .i64 x.2] W fun e W' =>
   (e = .returned (.bool true) ∧ J (pre ++ [x]) W' ∧ True) ∨ (e = .returned (.bool false) ∧ Jx (pre ++ [x]) W'))
  (W : World) (h0 : J [] W) :
  CallsIn F n Try.prog 88 #[.func (.yield l) #[] #[], .pointer (some ⟨Bs, 0, none⟩)] W fun e W' => (∃ v, e = .returned v) ∧
   ((∃ ys, ys = uptoI zs zs.length ∧ J ys W') ∨ (∃ pre, True ∧ Jx pre W')) := by
 have hb0 := (hJ [] W h0 0 (Nat.zero_le _) rfl).1
 refine callsIn_of_wp Try.func88 rfl h7 ?_ hro
 simp only [Try.ntmps88, List.size_toArray, List.length_cons, List.length_nil, Nat.reduceAdd, Nat.reduceSub, Array.replicate_succ, Array.replicate_zero, List.push_toArray, List.append_toArray, List.nil_append, List.cons_append]
 have hz0 : (0 : Int) ≤ (zs.length : Int) := by omega
 have hz1 : (zs.length : Int) ≤ 9223372036854775807 := by omega
 gi_wp2
 gi_loopw [3] (fun i wr => ∃ x : Int, i = .int .i64 x ∧ -1 ≤ x ∧ x < (zs.length : Int) ∧ J (uptoI zs ((zs.length : Int) - 1 - x).toNat) wr)
  (fun i _ => (intOf i + 1).toNat)
 case atStart => exact ⟨(zs.length : Int) - 1, by first | rfl | simp, by omega, by omega, by rw [show ((zs.length : Int) - 1 - ((zs.length : Int) - 1)).toNat = 0 by omega]; exact h0⟩
 case round =>
  obtain ⟨x, rfl, hx0, hx1, hJs⟩ := hrel
  have ht := hJ _ wr hJs ((zs.length : Int) - 1 - x).toNat (by omega) rfl
  have hbs := ht.1
  by_cases hlt : 0 ≤ x
  ·have hc := ht.2 x.toNat (by omega)
   rw [Int.toNat_of_nonneg hlt] at hc
   clear ht
   obtain ⟨fn, tmps, assign, body, hy, hR⟩ := hY _ (x, rd zs x) wr hJs (by rw [uptoI_length]; omega) ⟨((zs.length : Int) - 1 - x).toNat, by omega, rfl, by rw [show (zs.length : Int) - 1 - ((((zs.length : Int) - 1 - x).toNat : Nat) : Int) = x by omega]⟩
   dsimp only at hy
   gi_wp2
   refine hR.mono ?_
   rintro e W3 (⟨rfl, hJ3, hk3⟩ | ⟨rfl, hJx3⟩)
   ·gi_wp2
    go_roundw
    case rel => exact ⟨x - 1, by first | rfl | simp, by omega, by omega, by rw [uptoI_step zs x hlt hx1]; exact hJ3⟩
    case measure => simp [intOf]; omega
   ·gi_wp2
    refine bodyPost_ret (results_none rfl _ _ _) rfl ?_
    exact ⟨⟨_, rfl⟩, .inr ⟨_, trivial, hJx3⟩⟩
  ·obtain rfl : x = -1 := by omega
   clear ht
   gi_wp2
   go_end0
   rw [show ((zs.length : Int) - 1 - -1).toNat = zs.length by omega] at hJs
   exact ⟨⟨_, rfl⟩, .inl hJs⟩
set_option maxHeartbeats 1000000 in
theorem backI_in (F : Fence) (n : Nat) (h5 : F.fn 76) (hro : F.round = none) (a : Option Addr) (len cap : Nat) (w : World) :
  CallsIn F n Try.prog 76 #[.slice a len cap] w fun e w' => e = .returned (.func (.func 88) #[] #[.pointer (some ⟨w.heap.size, 0, none⟩)]) ∧ w' = w.alloc (.cells #[.slice a len cap] 32) := by
 refine callsIn_of_wp Try.func76 rfl h5 ?_ hro
 simp only [Try.ntmps76, List.size_toArray, List.length_cons, List.length_nil, Nat.reduceAdd, Nat.reduceSub, Array.replicate_succ, Array.replicate_zero, List.push_toArray, List.append_toArray, List.nil_append, List.cons_append]
 gi_wp2
 go_ret
 exact ⟨rfl, rfl⟩
theorem backI_told (F : Fence) (n : Nat) (h8 : F.fn 88) (hro : F.round = none) (hn : 1 ≤ n) (Bs g o cap : Nat) (zs : List Int) (hlen : zs.length ≤ 9223372036854775807) (w : World) :
  SeqTold F n Try.prog 88 #[.pointer (some ⟨Bs, 0, none⟩)] (fun x : Int × Int => #[Value.int .i64 x.1, .int .i64 x.2]) (fun _ _ => True) (TellI Bs g o cap zs) (NextI zs) (fun ys => ys = uptoI zs zs.length) (fun _ => True) zs.length w :=
 fun l J Jx W _ _ _ hF hY h0 => backI1_in F n h8 hro hn l Bs g o cap zs hlen J Jx hF hY W h0
set_option maxRecDepth 100000 in
set_option maxHeartbeats 2000000 in
/-- Backward over a row of nothing: no round. -/
theorem back0_in (F : Fence) (n : Nat) (h7 : F.fn 88) (hro : F.round = none) (l Bs cap : Nat) (A : Option Addr)
  (J Jx : List (Int × Int) → World → Prop) (hJ : ∀ pre W, J pre W → W.cell? ⟨Bs, 0, none⟩ = some (.slice A 0 cap))
  (W : World) (h0 : J [] W) :
  CallsIn F n Try.prog 88 #[.func (.yield l) #[] #[], .pointer (some ⟨Bs, 0, none⟩)] W fun e W' => (∃ v, e = .returned v) ∧
   ((∃ ys, ys = [] ∧ J ys W') ∨ (∃ pre, True ∧ Jx pre W')) := by
 have hb0 := hJ [] W h0
 refine callsIn_of_wp Try.func88 rfl h7 ?_ hro
 simp only [Try.ntmps88, List.size_toArray, List.length_cons, List.length_nil, Nat.reduceAdd, Nat.reduceSub, Array.replicate_succ, Array.replicate_zero, List.push_toArray, List.append_toArray, List.nil_append, List.cons_append]
 gi_wp2
 gi_loopw [3] (fun i wr => i = .int .i64 (-1) ∧ J [] wr) (fun i _ => (intOf i + 1).toNat)
 case atStart => exact ⟨by first | rfl | simp, h0⟩
 case round =>
  obtain ⟨rfl, hJs⟩ := hrel
  gi_wp2
  go_end0
  exact ⟨⟨_, rfl⟩, .inl ⟨_, rfl, hJs⟩⟩
theorem back0_told (F : Fence) (n : Nat) (h8 : F.fn 88) (hro : F.round = none) (Bs cap : Nat) (A : Option Addr) (w : World) :
  SeqTold F n Try.prog 88 #[.pointer (some ⟨Bs, 0, none⟩)] (fun x : Int × Int => #[Value.int .i64 x.1, .int .i64 x.2]) (fun _ _ => True) (fun _ W => W.cell? ⟨Bs, 0, none⟩ = some (.slice A 0 cap)) (fun _ _ => False) (fun ys => ys = []) (fun _ => True) 0 w :=
 fun l J Jx W _ _ _ hF _ h0 => back0_in F n h8 hro l Bs cap A J Jx hF W h0
/-! ### plant_shrink: function 63 -/
attribute [local go_sem] Oper.semAt_some
/-- WHAT A ROUND OF shrink DOES: the row, and how many are still to go. -/
def shr (l : List Int) (many : Int) : Nat → List Int × Int
 | 0 => (l, many)
 | k + 1 => ((shr l many k).1.set (l.length - 1 - k) (wrap64 (rd l ((l.length : Int) - 1 - (k : Int)) - mn (rd l ((l.length : Int) - 1 - (k : Int))) (shr l many k).2)), wrap64 ((shr l many k).2 - mn (rd l ((l.length : Int) - 1 - (k : Int))) (shr l many k).2))
theorem shr_length (l : List Int) (many : Int) (k : Nat) : (shr l many k).1.length = l.length := by
 induction k with
 | zero => rfl
 | succ k ih => simp [shr, ih]
theorem shr_rest (l : List Int) (many : Int) (k : Nat) : ∀ j : Nat, j + k < l.length → rd (shr l many k).1 (j : Int) = rd l (j : Int) := by
 induction k with
 | zero => intro j _; rfl
 | succ k ih =>
  intro j h
  rw [← ih j (by omega)]
  simp only [shr, rd, Int.toNat_natCast]
  rw [List.getD_eq_getElem?_getD, List.getElem?_set_ne (by omega), ← List.getD_eq_getElem?_getD]
theorem normal_only {F : Fence} {n : Nat} {P : Program} {c : Code} {Q : Exit → Act → World → Prop} {a : Act} {w : World} (h : c.wpIn F n P (fun e a W => match e with | .normal => Q .normal a W | _ => False) a w) : c.wpIn F n P Q a w :=
 wpIn_mono h (fun e a W hh => by cases e <;> first | exact hh | exact hh.elim)
/-- The state ahead of round k: B0 the box of p, B0 + 1 that of many, B0 + 2 Backward's. -/
structure ShS (w W : World) (pb g off cap : Nat) (R wt ut : Int) (l : List Int) (base : Nat) (s : List Int × Int) : Prop where
 bP : Boxed W w.heap.size 100 (.pointer (some ⟨pb, 0, none⟩))
 bM : Boxed W (w.heap.size + 1) 3 (.int .i64 s.2)
 bS : Boxed W (w.heap.size + 1 + 1) 32 (.slice (some ⟨g, off, none⟩) l.length cap)
 hP : W.heap[pb]? = some (.cells #[.int .i64 R, .slice (some ⟨g, off, none⟩) l.length cap, .int .i64 wt, .int .i64 ut] 34 (0, 0))
 hQ : (Kd.int .i64).Q 3 W base (fun _ => True) (.slice (some ⟨g, off, none⟩) l.length cap) s.1
 hK : Kept w W (fun k => k = pb ∨ k = g)
 hO : W.os = w.os ∧ W.tape = w.tape ∧ W.output = w.output
 hZ : w.heap.size + 3 ≤ W.heap.size
theorem ShS.grown {w X Y : World} {pb g off cap : Nat} {R wt ut : Int} {l : List Int} {base : Nat} {s : List Int × Int} (h : ShS w X pb g off cap R wt ut l base s) {row : Option Nat} (hg : X.grownBy Y row) (hr : ∀ r, row = some r → w.heap.size ≤ r ∧ ∃ o : Obj, X.heap[r]? = some o ∧ o.isCells = false) : ShS w Y pb g off cap R wt ut l base s := by
 have hc : ∀ k cs t fr, X.heap[k]? = some (.cells cs t fr) → some k ≠ row := fun k cs t fr hk e => by
  obtain ⟨_, o, ho, hn⟩ := hr k e.symm
  rw [hk] at ho
  cases ho
  simp [Obj.isCells] at hn
 refine ⟨blk_grown h.bP hg (hc _ _ _ _ h.bP), blk_grown h.bM hg (hc _ _ _ _ h.bM), blk_grown h.bS hg (hc _ _ _ _ h.bS), blk_grown h.hP hg (hc _ _ _ _ h.hP), ?_, Kept.of_grown hg h.hK (fun k e => .inr (hr k e).1), ⟨hg.os.trans h.hO.1, hg.tape.trans h.hO.2.1, hg.output.trans h.hO.2.2⟩, Nat.le_trans h.hZ hg.size⟩
 refine Kd.Q_grown1 h.hQ rfl hg ?_
 obtain ⟨cells, hcells⟩ := Kd.Q_typed h.hQ g rfl
 exact fun e => hc g _ _ _ hcells e.symm
set_option maxHeartbeats 8000000 in
set_option maxRecDepth 100000 in
theorem shrink_some (pb g off cap : Nat) (many R wt ut : Int) (l : List Int) (base : Nat) (w : World) (hP : w.heap[pb]? = some (.cells #[.int .i64 R, .slice (some ⟨g, off, none⟩) l.length cap, .int .i64 wt, .int .i64 ut] 34 (0, 0)))
  (hQ : (Kd.int .i64).Q 3 w base (fun _ => True) (.slice (some ⟨g, off, none⟩) l.length cap) l) (hgp : g ≠ pb) (hl : l.length ≤ 8) :
  Calls Try.prog 63 #[.pointer (some ⟨pb, 0, none⟩), .int .i64 many] w fun e W' => e = .returned (.tuple #[]) ∧ W'.heap[pb]? = some (.cells #[.int .i64 (wrap64 (R - (shr l many l.length).2)), .slice (some ⟨g, off, none⟩) l.length cap, .int .i64 wt, .int .i64 ut] 34 (0, 0)) ∧ (Kd.int .i64).Q 3 W' base (fun _ => True) (.slice (some ⟨g, off, none⟩) l.length cap) (shr l many l.length).1 ∧ Kept w W' (fun k => k = pb ∨ k = g) ∧ (W'.os = w.os ∧ W'.tape = w.tape ∧ W'.output = w.output) := by
 have hu := Try.underlying34
 have p1 := blk_cell hP 1
 simp only [List.getElem?_toArray, List.getElem?_cons_zero, List.getElem?_cons_succ] at p1
 have HP := Aside0.mk hP
 have HQ := Aside0.mk hQ
 have hpl := blk_lt hP
 have a1 : ∀ o1 o2, ((w.alloc o1).alloc o2).cell? ⟨pb, 1, none⟩ = some (.slice (some ⟨g, off, none⟩) l.length cap) := fun o1 o2 => (blk_cell (blk_alloc (blk_alloc hP o1) o2) 1).trans rfl
 clear hP hQ
 refine (callsIn_wide (n := 3)).1 ?_
 have h1 : 1 ≤ 3 := by omega
 have hro : Fence.wide.round = none := rfl
 refine callsIn_of_wp_marks Try.func63 rfl trivial ?_ hro
 simp only [Try.ntmps63, List.size_toArray, List.length_cons, List.length_nil, Nat.reduceAdd, Nat.reduceSub, Array.replicate_succ, Array.replicate_zero, List.push_toArray, List.append_toArray, List.nil_append, List.cons_append]
 gi_wp2_with (first | (refine ⟨trivial, ?_⟩; gi_at_call 76; refine (backI_in Fence.wide 2 trivial hro _ _ _ _).mono ?_; rintro e w' ⟨rfl, rfl⟩))
 have hS0 : ShS w (((w.alloc (.cells #[.pointer (some ⟨pb, 0, none⟩)] 100)).alloc (.cells #[.int .i64 many] 3)).alloc (.cells #[.slice (some ⟨g, off, none⟩) l.length cap] 32)) pb g off cap R wt ut l base (shr l many 0) := by
  have z1 := blk_new (w.alloc (.cells #[.pointer (some ⟨pb, 0, none⟩)] 100)) (.cells #[.int .i64 many] 3)
  rw [World.size_alloc] at z1
  have z2 := blk_new ((w.alloc (.cells #[.pointer (some ⟨pb, 0, none⟩)] 100)).alloc (.cells #[.int .i64 many] 3)) (.cells #[.slice (some ⟨g, off, none⟩) l.length cap] 32)
  rw [World.size_alloc, World.size_alloc] at z2
  exact ⟨blk_alloc (blk_alloc (blk_new w _) _) _, blk_alloc z1 _, z2, blk_alloc (blk_alloc (blk_alloc HP.out _) _) _, Kd.Q_alloc (Kd.Q_alloc (Kd.Q_alloc HQ.out _) _) _, ((Kept.refl w _).alloc _ |>.alloc _).alloc _, ⟨rfl, rfl, rfl⟩, by simp⟩
 obtain ⟨W0, hW0⟩ : ∃ W0, (((w.alloc (.cells #[.pointer (some ⟨pb, 0, none⟩)] 100)).alloc (.cells #[.int .i64 many] 3)).alloc (.cells #[.slice (some ⟨g, off, none⟩) l.length cap] 32)) = W0 := ⟨_, rfl⟩
 rw [hW0] at hS0 ⊢
 clear hW0
 have hZ0 := hS0.hZ
 refine rangeFunc_told hro h1 (gf := 88) (lb := #[.pointer (some ⟨w.heap.size + 1 + 1, 0, none⟩)]) rfl trivial (enters_of Try.func88 (by kernel_rfl) rfl)
  (backI_told Fence.wide 2 trivial hro (by omega) (w.heap.size + 1 + 1) g off cap l (by omega) W0) (fun _ _ => trivial) (fun _ _ _ _ _ _ _ _ => trivial) (Below.refl _ _) (fun _ => rfl)
  (fun pre W => ∃ k, k ≤ l.length ∧ pre = uptoI l k ∧ ShS w W pb g off cap R wt ut l base (shr l many k))
  (fun _ _ _ => False) ?told
  (fun pre X Y row hs hg hr => by
   obtain ⟨k, hk, e, s⟩ := hs
   exact ⟨k, hk, e, s.grown hg (fun r q => ⟨by have := (hr r q).1; omega, (hr r q).2⟩)⟩)
  (fun _ _ _ _ _ hs _ _ => hs.elim)
  ⟨0, Nat.zero_le _, rfl, hS0⟩
  (fun x a' W => a' = { tmps := #[.pointer (some ⟨pb, 0, none⟩), .int .i64 many, .pointer (some ⟨w.heap.size, 0, none⟩), .pointer (some ⟨w.heap.size + 1, 0, none⟩), .int .i64 x.1, .int .i64 x.2, undef, .pointer (some ⟨pb, 0, none⟩), .pointer (some ⟨pb, 0, none⟩), .pointer (some ⟨pb, 1, none⟩), .slice (some ⟨g, off, none⟩) l.length cap, .func (Fn.func 88) #[] #[.pointer (some ⟨w.heap.size + 1 + 1, 0, none⟩)], .int .i64 x.1, .int .i64 x.2, undef, undef, undef, undef, undef, undef, undef, undef, undef, undef, undef, undef, undef, undef, undef, undef, undef, undef, undef, undef, undef, undef, undef, undef], defers := [] })
  (fun x a' _ X Y row hs hg hr => hs)
  ?assign ?body ?done ?stop
 case told =>
  rintro pre W ⟨k, hk, rfl, s⟩ k' hk' e
  obtain rfl : k = k' := by have := congrArg List.length e; rw [uptoI_length, uptoI_length] at this; exact this
  refine ⟨(blk_cell s.bS 0).trans rfl, fun j hj => ?_⟩
  have z := (Kd.Q_cell (0 : Int) s.hQ (j : Int) (by omega) (by omega)).1
  rw [Int.toNat_natCast] at z
  rw [z, ← shr_rest l many k j hj]
  rfl
 case assign =>
  rintro l' pre x W K hI hK
  have hK1 := Aside0.mk hK
  have hI1 := Aside0.mk hI
  clear hK hI
  gi_wp2
  exact hK1.out _ _ (KeepsFrom.refl _ _) trivial hI1.out rfl
 case stop =>
  rintro D c pre W hD _ hF
  exact hF.elim
 case body =>
  rintro l' pre x a' W hl' ⟨r, hr⟩ ⟨k, hk, rfl, s⟩ rfl hlt ⟨k', hk', e, rfl⟩
  obtain rfl : k = k' := by have := congrArg List.length e; rw [uptoI_length, uptoI_length] at this; exact this
  obtain ⟨n, hn⟩ : ∃ n, rd l ((l.length : Int) - 1 - (k : Int)) = n := ⟨_, rfl⟩
  obtain ⟨m, hm⟩ : ∃ m, (shr l many k).2 = m := ⟨_, rfl⟩
  obtain ⟨gn, hgn⟩ : ∃ gn, mn n m = gn := ⟨_, rfl⟩
  have hgn' : (if m < n then m else n) = gn := hgn
  have ei : ((l.length : Int) - 1 - (k : Int)).toNat = l.length - 1 - k := by omega
  have c0 := blk_cell s.bP 0
  have c1 := blk_cell s.bM 0
  have f1 := blk_frozen s.bM 0
  have c2 := blk_cell s.hP 1
  have z := Kd.Q_cell (0 : Int) s.hQ ((l.length : Int) - 1 - (k : Int)) (by omega) (by omega)
  have hre := shr_rest l many k (l.length - 1 - k) (by omega)
  have c3 : W.cell? ⟨g, off + (l.length - 1 - k), none⟩ = some (.int .i64 n) := by
   rw [← hn, ← ei, z.1]
   show some (Value.int .i64 (rd (shr l many k).1 ((l.length : Int) - 1 - (k : Int)))) = _
   rw [show (l.length : Int) - 1 - (k : Int) = ((l.length - 1 - k : Nat) : Int) by omega, hre]
  have f3 : W.frozen? ⟨g, off + (l.length - 1 - k), none⟩ = false := by rw [← ei]; exact z.2
  have d3 : W.cell? ⟨g, off + ((l.length : Int) - 1 - (k : Int)).toNat, none⟩ = some (.int .i64 n) := by rw [ei]; exact c3
  have e3 : W.frozen? ⟨g, off + ((l.length : Int) - 1 - (k : Int)).toNat, none⟩ = false := by rw [ei]; exact f3
  simp only [List.getElem?_toArray, List.getElem?_cons_zero, List.getElem?_cons_succ, hm] at c0 c1 c2
  have hgm : g ≠ w.heap.size + 1 := by
   obtain ⟨cells, hcells⟩ := Kd.Q_typed HQ.out g rfl
   have := blk_lt hcells
   omega
  have b1 : 0 ≤ (l.length : Int) - 1 - (k : Int) := by omega
  have b2 : (l.length : Int) - 1 - (k : Int) < (l.length : Int) := by omega
  have S := Aside0.mk s
  have HE := Aside0.mk (And.intro hn (And.intro hm hgn))
  rw [hn]
  clear s z hre hn hm hgn e
  gi_wp2
  obtain ⟨hn, hm, hgn⟩ := HE.out
  have s := S.out
  have hgl : g < w.heap.size := by
   obtain ⟨cells, hcells⟩ := Kd.Q_typed HQ.out g rfl
   exact blk_lt hcells
  have q := (Kd.Q_putg s.hQ ((l.length : Int) - 1 - (k : Int)) b1 b2 (wrap64 (n - gn))).1
  rw [ei] at q
  have hP2 := blk_far (p := ⟨g, off + (l.length - 1 - k), none⟩) s.hP (by show pb ≠ g; omega) (.int .i64 (wrap64 (n - gn)))
  have bM2 := blk_far (p := ⟨g, off + (l.length - 1 - k), none⟩) s.bM (by show w.heap.size + 1 ≠ g; omega) (.int .i64 (wrap64 (n - gn)))
  refine ⟨((KeepsOthers.setCell _ _ _).from _).trans ((KeepsOthers.setCell _ _ _).from _), trivial, k + 1, by rw [uptoI_length] at hlt; omega, by rw [uptoI_succ, hn], ?_⟩
  have e1 : (shr l many (k + 1)) = ((shr l many k).1.set (l.length - 1 - k) (wrap64 (n - gn)), wrap64 (m - gn)) := by
   show (_, _) = (_, _)
   rw [hn, hm, hgn]
  rw [e1]
  exact ⟨blk_far (p := ⟨w.heap.size + 1, 0, none⟩) (blk_far (p := ⟨g, off + (l.length - 1 - k), none⟩) s.bP (by show w.heap.size ≠ g; omega) _) (by show w.heap.size ≠ w.heap.size + 1; omega) _,
   blk_put bM2 0 _ rfl,
   blk_far (p := ⟨w.heap.size + 1, 0, none⟩) (blk_far (p := ⟨g, off + (l.length - 1 - k), none⟩) s.bS (by show w.heap.size + 1 + 1 ≠ g; omega) _) (by show w.heap.size + 1 + 1 ≠ w.heap.size + 1; omega) _,
   blk_far (p := ⟨w.heap.size + 1, 0, none⟩) hP2 (by show pb ≠ w.heap.size + 1; omega) _,
   Kd.Q_far (p := ⟨w.heap.size + 1, 0, none⟩) (Kd.Q_tight rfl q) (fun k' hk' => by have : k' = g := Option.some.inj hk'; show k' ≠ w.heap.size + 1; omega) _ |> fun z => Kd.Q_mono z (fun _ _ => trivial),
   Kept.setCell (Kept.setCell s.hK (.inl (.inr rfl)) _) (.inr (by show w.heap.size ≤ w.heap.size + 1; omega)) _,
   s.hO, by simpa using s.hZ⟩
 case done =>
  rintro D ys W hD rfl ⟨k, hk, e, s⟩ hKD
  obtain rfl : l.length = k := by have := congrArg List.length e; rw [uptoI_length, uptoI_length] at this; exact this
  have c0 := blk_cell s.bP 0
  have c1 := blk_cell s.bM 0
  have c2 := blk_cell s.hP 0
  have f2 := blk_frozen s.hP 0
  simp only [List.getElem?_toArray, List.getElem?_cons_zero, List.getElem?_cons_succ] at c0 c1 c2
  have S := Aside0.mk s
  clear s e hk
  gi_wp2
  have hmix : Try.prog.follows .mixedOrders = true := by kernel_rfl
  refine normal_only ?_
  gi_region_o
  have hK' : (W.setCell ⟨pb, 0, none⟩ (.int .i64 (wrap64 (R - (shr l many l.length).2)))).drew.heap[D]? = some (.deferred (some [])) := (KeepsOthers.setCell W ⟨pb, 0, none⟩ (.int .i64 (wrap64 (R - (shr l many l.length).2)))).same D _ hKD rfl
  refine ⟨by simp, .inl ⟨_, _, rfl, run_takeDeferred hK', ?_⟩⟩
  have hgl : g < w.heap.size := by
   obtain ⟨cells, hcells⟩ := Kd.Q_typed HQ.out g rfl
   exact blk_lt hcells
  have hg3 := grownBy_putObj' (W.setCell ⟨pb, 0, none⟩ (.int .i64 (wrap64 (R - (shr l many l.length).2)))).drew D (.deferred none)
  have s := S.out
  have q1 := Kd.Q_tight rfl (Kd.Q_set s.hQ s.hP (by decide) 0 (.int .i64 (wrap64 (R - (shr l many l.length).2))))
  have k1 := Kept.setCell (p := ⟨pb, 0, none⟩) s.hK (.inl (.inl rfl)) (.int .i64 (wrap64 (R - (shr l many l.length).2)))
  refine ⟨.tuple #[], ?_, rfl, ?_, ?_, ?_, ?_⟩
  ·simp [results, Try.f63, go_sem]
  ·exact blk_grown (w := (W.setCell ⟨pb, 0, none⟩ (.int .i64 (wrap64 (R - (shr l many l.length).2)))).drew) (blk_put s.hP 0 _ rfl) hg3 (fun e => by have := Option.some.inj e; omega)
  ·exact Kd.Q_mono (Kd.Q_grown (w := (W.setCell ⟨pb, 0, none⟩ (.int .i64 (wrap64 (R - (shr l many l.length).2)))).drew) (Kd.Q_drew q1) hg3 (fun k' hk' e => by have h1 : k' = g := Option.some.inj hk'; have h2 := Option.some.inj e; omega)) (fun _ _ => trivial)
  ·exact Kept.of_grown hg3 k1 (fun k' e => by have := Option.some.inj e; exact .inr (by omega))
  ·exact s.hO
/-- The state ahead of the round that there is not. -/
structure Sh0 (w W : World) (pb cap : Nat) (A : Option Addr) (many R wt ut : Int) : Prop where
 bP : Boxed W w.heap.size 100 (.pointer (some ⟨pb, 0, none⟩))
 bM : Boxed W (w.heap.size + 1) 3 (.int .i64 many)
 bS : Boxed W (w.heap.size + 1 + 1) 32 (.slice A 0 cap)
 hP : W.heap[pb]? = some (.cells #[.int .i64 R, .slice A 0 cap, .int .i64 wt, .int .i64 ut] 34 (0, 0))
 hK : Kept w W (fun k => k = pb)
 hO : W.os = w.os ∧ W.tape = w.tape ∧ W.output = w.output
 hZ : w.heap.size + 3 ≤ W.heap.size
theorem Sh0.grown {w X Y : World} {pb cap : Nat} {A : Option Addr} {many R wt ut : Int} (h : Sh0 w X pb cap A many R wt ut) {row : Option Nat} (hg : X.grownBy Y row) (hr : ∀ r, row = some r → w.heap.size ≤ r ∧ ∃ o : Obj, X.heap[r]? = some o ∧ o.isCells = false) : Sh0 w Y pb cap A many R wt ut := by
 have hc : ∀ k cs t fr, X.heap[k]? = some (.cells cs t fr) → some k ≠ row := fun k cs t fr hk e => by
  obtain ⟨_, o, ho, hn⟩ := hr k e.symm
  rw [hk] at ho
  cases ho
  simp [Obj.isCells] at hn
 exact ⟨blk_grown h.bP hg (hc _ _ _ _ h.bP), blk_grown h.bM hg (hc _ _ _ _ h.bM), blk_grown h.bS hg (hc _ _ _ _ h.bS), blk_grown h.hP hg (hc _ _ _ _ h.hP), Kept.of_grown hg h.hK (fun k e => .inr (hr k e).1), ⟨hg.os.trans h.hO.1, hg.tape.trans h.hO.2.1, hg.output.trans h.hO.2.2⟩, Nat.le_trans h.hZ hg.size⟩
set_option maxHeartbeats 8000000 in
set_option maxRecDepth 100000 in
theorem shrink_nil (pb cap : Nat) (A : Option Addr) (many R wt ut : Int) (w : World) (hP : w.heap[pb]? = some (.cells #[.int .i64 R, .slice A 0 cap, .int .i64 wt, .int .i64 ut] 34 (0, 0))) :
  Calls Try.prog 63 #[.pointer (some ⟨pb, 0, none⟩), .int .i64 many] w fun e W' => e = .returned (.tuple #[]) ∧ W'.heap[pb]? = some (.cells #[.int .i64 (wrap64 (R - many)), .slice A 0 cap, .int .i64 wt, .int .i64 ut] 34 (0, 0)) ∧ Kept w W' (fun k => k = pb) ∧ (W'.os = w.os ∧ W'.tape = w.tape ∧ W'.output = w.output) := by
 have hu := Try.underlying34
 have HP := Aside0.mk hP
 have hpl := blk_lt hP
 have a1 : ∀ o1 o2, ((w.alloc o1).alloc o2).cell? ⟨pb, 1, none⟩ = some (.slice A 0 cap) := fun o1 o2 => (blk_cell (blk_alloc (blk_alloc hP o1) o2) 1).trans rfl
 clear hP
 refine (callsIn_wide (n := 3)).1 ?_
 have h1 : 1 ≤ 3 := by omega
 have hro : Fence.wide.round = none := rfl
 refine callsIn_of_wp_marks Try.func63 rfl trivial ?_ hro
 simp only [Try.ntmps63, List.size_toArray, List.length_cons, List.length_nil, Nat.reduceAdd, Nat.reduceSub, Array.replicate_succ, Array.replicate_zero, List.push_toArray, List.append_toArray, List.nil_append, List.cons_append]
 gi_wp2_with (first | (refine ⟨trivial, ?_⟩; gi_at_call 76; refine (backI_in Fence.wide 2 trivial hro _ _ _ _).mono ?_; rintro e w' ⟨rfl, rfl⟩))
 have hS0 : Sh0 w (((w.alloc (.cells #[.pointer (some ⟨pb, 0, none⟩)] 100)).alloc (.cells #[.int .i64 many] 3)).alloc (.cells #[.slice A 0 cap] 32)) pb cap A many R wt ut := by
  have z1 := blk_new (w.alloc (.cells #[.pointer (some ⟨pb, 0, none⟩)] 100)) (.cells #[.int .i64 many] 3)
  rw [World.size_alloc] at z1
  have z2 := blk_new ((w.alloc (.cells #[.pointer (some ⟨pb, 0, none⟩)] 100)).alloc (.cells #[.int .i64 many] 3)) (.cells #[.slice A 0 cap] 32)
  rw [World.size_alloc, World.size_alloc] at z2
  exact ⟨blk_alloc (blk_alloc (blk_new w _) _) _, blk_alloc z1 _, z2, blk_alloc (blk_alloc (blk_alloc HP.out _) _) _, ((Kept.refl w _).alloc _ |>.alloc _).alloc _, ⟨rfl, rfl, rfl⟩, by simp⟩
 obtain ⟨W0, hW0⟩ : ∃ W0, (((w.alloc (.cells #[.pointer (some ⟨pb, 0, none⟩)] 100)).alloc (.cells #[.int .i64 many] 3)).alloc (.cells #[.slice A 0 cap] 32)) = W0 := ⟨_, rfl⟩
 rw [hW0] at hS0 ⊢
 clear hW0
 have hZ0 := hS0.hZ
 refine rangeFunc_told hro h1 (gf := 88) (lb := #[.pointer (some ⟨w.heap.size + 1 + 1, 0, none⟩)]) rfl trivial (enters_of Try.func88 (by kernel_rfl) rfl)
  (back0_told Fence.wide 2 trivial hro (w.heap.size + 1 + 1) cap A W0) (fun _ _ => trivial) (fun _ _ _ _ _ _ _ _ => trivial) (Below.refl _ _) (fun _ => rfl)
  (fun pre W => Sh0 w W pb cap A many R wt ut)
  (fun _ _ _ => False) ?told
  (fun pre X Y row hs hg hr => hs.grown hg (fun r q => ⟨by have := (hr r q).1; omega, (hr r q).2⟩))
  (fun _ _ _ _ _ hs _ _ => hs.elim)
  hS0
  (fun _ _ _ => True)
  (fun x a' _ X Y row hs hg hr => hs)
  ?assign ?body ?done ?stop
 case told =>
  rintro pre W s
  exact (blk_cell s.bS 0).trans rfl
 case assign =>
  rintro l' pre x W K hI hK
  have hK1 := Aside0.mk hK
  have hI1 := Aside0.mk hI
  clear hK hI
  gi_wp2
  exact hK1.out _ _ (KeepsFrom.refl _ _) trivial hI1.out trivial
 case stop =>
  rintro D c pre W hD _ hF
  exact hF.elim
 case body =>
  rintro l' pre x a' W hl' ⟨r, hr⟩ s _ _ hF
  exact hF.elim
 case done =>
  rintro D ys W hD rfl s hKD
  have c0 := blk_cell s.bP 0
  have c1 := blk_cell s.bM 0
  have c2 := blk_cell s.hP 0
  have f2 := blk_frozen s.hP 0
  simp only [List.getElem?_toArray, List.getElem?_cons_zero, List.getElem?_cons_succ] at c0 c1 c2
  have S := Aside0.mk s
  clear s
  gi_wp2
  have hmix : Try.prog.follows .mixedOrders = true := by kernel_rfl
  refine normal_only ?_
  gi_region_o
  have hK' : (W.setCell ⟨pb, 0, none⟩ (.int .i64 (wrap64 (R - many)))).drew.heap[D]? = some (.deferred (some [])) := (KeepsOthers.setCell W ⟨pb, 0, none⟩ (.int .i64 (wrap64 (R - many)))).same D _ hKD rfl
  refine ⟨by simp, .inl ⟨_, _, rfl, run_takeDeferred hK', ?_⟩⟩
  have hg3 := grownBy_putObj' (W.setCell ⟨pb, 0, none⟩ (.int .i64 (wrap64 (R - many)))).drew D (.deferred none)
  have s := S.out
  have k1 := Kept.setCell (p := ⟨pb, 0, none⟩) s.hK (.inl rfl) (.int .i64 (wrap64 (R - many)))
  refine ⟨.tuple #[], ?_, rfl, ?_, ?_, ?_⟩
  ·simp [results, Try.f63, go_sem]
  ·exact blk_grown (w := (W.setCell ⟨pb, 0, none⟩ (.int .i64 (wrap64 (R - many)))).drew) (blk_put s.hP 0 _ rfl) hg3 (fun e => by have := Option.some.inj e; omega)
  ·exact Kept.of_grown hg3 k1 (fun k' e => by have := Option.some.inj e; exact .inr (by omega))
  ·exact s.hO
/-! ### plant_Step: function 49 -/
/-- HOW MANY THERE ARE. -/
def allL (R : Int) (l : List Int) : Int := l.foldl (fun s x => wrap64 (s + x)) R
/-- WITHOUT THE NOTHING AT THE END. -/
def trimL (l : List Int) : List Int := (l.reverse.dropWhile (fun x => x == 0)).reverse
theorem trimL_snoc0 (l : List Int) : trimL (l ++ [0]) = trimL l := by simp [trimL]
theorem trimL_snoc (l : List Int) (x : Int) (h : x ≠ 0) : trimL (l ++ [x]) = l ++ [x] := by simp [trimL, h]
theorem snoc_at (l : List Int) (h : 0 < l.length) : l = l.take (l.length - 1) ++ [rd l ((l.length : Int) - 1)] := by
 have e : rd l ((l.length : Int) - 1) = l[l.length - 1] := by
  unfold rd
  rw [show ((l.length : Int) - 1).toNat = l.length - 1 by omega, List.getD_eq_getElem?_getD, List.getElem?_eq_getElem (by omega)]
  rfl
 have hne : l ≠ [] := List.ne_nil_of_length_pos h
 rw [e, ← List.getLast_eq_getElem hne, ← List.dropLast_eq_take]
 exact (List.dropLast_concat_getLast hne).symm
theorem trimL_end0 (l : List Int) (h : 0 < l.length) (hx : rd l ((l.length : Int) - 1) = 0) : trimL (l.take (l.length - 1)) = trimL l := by
 have e := snoc_at l h
 rw [hx] at e
 rw [show trimL l = trimL (l.take (l.length - 1) ++ [0]) from congrArg trimL e, trimL_snoc0]
theorem trimL_end (l : List Int) (h : 0 < l.length) (hx : rd l ((l.length : Int) - 1) ≠ 0) : trimL l = l := by
 have e := snoc_at l h
 rw [show trimL l = trimL (l.take (l.length - 1) ++ [rd l ((l.length : Int) - 1)]) from congrArg trimL e, trimL_snoc _ _ hx]
 exact e.symm
theorem dropWhile_le {α : Type} (p : α → Bool) : ∀ l : List α, (l.dropWhile p).length ≤ l.length
 | [] => Nat.le_refl _
 | x :: l => by
  rw [List.dropWhile_cons]
  split
  ·exact Nat.le_trans (dropWhile_le p l) (Nat.le_succ _)
  ·exact Nat.le_refl _
theorem trimL_length (l : List Int) : (trimL l).length ≤ l.length := by
 unfold trimL
 rw [List.length_reverse]
 exact Nat.le_trans (dropWhile_le _ _) (by rw [List.length_reverse]; exact Nat.le_refl _)
/-- WHAT IS LEFT behind grow or shrink. -/
def sizedL (R delay more : Int) (l : List Int) : Int × List Int :=
 if 0 < more then (if delay = 0 then (wrap64 (R + more), l) else (R, growL delay more l))
 else if more < 0 then (wrap64 (R - (shr l (wrap64 (-more)) l.length).2), (shr l (wrap64 (-more)) l.length).1)
 else (R, l)
def readyL (R : Int) (l : List Int) : Int := if 0 < l.length then wrap64 (R + rd l 0) else R
def moreL (R want : Int) (l : List Int) : Int := wrap64 (mx 0 (mn want 1000) - allL R l)
def plant_Step.f (a0_0 a0_1 a0_2 a0_3 a0_4 a0_5 a0_6 a0_7 a0_8 a0_9 a0_10 a0_11 : Int) (a1_0 : Int) (l1_1 : List Int) (a1_2 a1_3 : Int) (a2 a3 : Int) : Option (Int × List Int × Int × Int × Int × Bool) :=
 if l1_1.length ≤ 8 ∧ 0 ≤ a0_5 ∧ a0_5 ≤ 8 then
  let s := sizedL (readyL a1_0 l1_1) a0_5 (moreL (readyL a1_0 l1_1) a2 (l1_1.drop 1)) (l1_1.drop 1)
  (fixed_Add.f a1_2 (mx 0 (mn a3 1000000))).bind fun todo =>
  (fixed_Sat.f (wrap64 (s.1 * a0_4))).bind fun can =>
  (fixed_Div.f todo can).bind fun ut =>
  some (s.1, trimL s.2, mx 0 (wrap64 (todo - can)), ut, allL s.1 (trimL s.2), decide (a0_6 < mx 0 (wrap64 (todo - can))))
 else none
theorem plant_All_at (l : List Int) (hl : l.length < 9000000000000000000) (a b : Int) : ∀ (d : Nat) (j : Nat) (R : Int), l.length = j + d → plant_All.l0 (d + 1) R l (l.length : Int) (j : Int) = some (allL R (l.drop j)) := by
 intro d
 induction d with
 | zero =>
  intro j R h
  rw [plant_All.l0, if_neg (by omega), List.drop_of_length_le (by omega)]
  rfl
 | succ d ih =>
  intro j R h
  rw [plant_All.l0, if_pos (by omega), if_pos (by omega), if_pos (by omega)]
  have e : wrap64 ((j : Int) + 1) = ((j + 1 : Nat) : Int) := by unfold wrap64; omega
  rw [e, ih (j + 1) _ (by omega)]
  have hj : j < l.length := by omega
  rw [List.drop_eq_getElem_cons hj]
  congr 1
  show allL _ _ = List.foldl _ _ _
  rw [List.foldl_cons]
  have e2 : rd l (j : Int) = l[j] := by
   unfold rd
   rw [Int.toNat_natCast, List.getD_eq_getElem?_getD, List.getElem?_eq_getElem hj]
   rfl
  rw [e2]
  rfl
theorem plant_All_fold (R : Int) (l : List Int) (hl : l.length < 9000000000000000000) (a b : Int) : plant_All.f (l.length + 1) R l a b = some (allL R l) :=
 plant_All_at l hl a b l.length 0 R (by omega)
/-- The blocks of Step: the boxes of c and p, the two results'. -/
structure PlB (w W : World) (cc pc : Array Value) : Prop where
 hC : W.heap[w.heap.size]? = some (.cells cc 23 (0, 0))
 hP : W.heap[w.heap.size + 1]? = some (.cells pc 34 (0, 0))
 hA : W.heap[w.heap.size + 1 + 1]? = some (.cells #[.int .i64 0, .slice none 0 0, .int .i64 0, .int .i64 0] 34 (0, 0))
 hM : W.heap[w.heap.size + 1 + 1 + 1]? = some (.cells #[.int .i64 0, .bool false] 52 (0, 0))
 hB : Below w.heap.size w W
/-- .. and the row. -/
def PlS (w W : World) (cc : Array Value) (R wt ut : Int) (v : Value) (l : List Int) : Prop :=
 PlB w W cc #[.int .i64 R, v, .int .i64 wt, .int .i64 ut] ∧ (Kd.int .i64).Q 3 W w.heap.size (fun _ => True) v l
section
variable {w W W1 : World} {cc pc pc' : Array Value} {R wt ut : Int} {v : Value} {l : List Int}
theorem PlB.below (h : PlB w W cc pc) (hb : Below W.heap.size W W1) : PlB w W1 cc pc :=
 ⟨blk_below h.hC hb, blk_below h.hP hb, blk_below h.hA hb, blk_below h.hM hb, below_step h.hB hb⟩
theorem PlB.put (h : PlB w W cc pc) (j : Nat) (u : Value) (e : pc.setIfInBounds j u = pc') : PlB w (W.setCell ⟨w.heap.size + 1, j, none⟩ u) cc pc' :=
 ⟨blk_far h.hC (by show w.heap.size ≠ w.heap.size + 1; omega) _, blk_put h.hP j _ e, blk_far h.hA (by show w.heap.size + 1 + 1 ≠ w.heap.size + 1; omega) _, blk_far h.hM (by show w.heap.size + 1 + 1 + 1 ≠ w.heap.size + 1; omega) _, below_set h.hB (by omega)⟩
theorem PlB.cell (h : PlB w W cc pc) (j : Nat) : W.cell? ⟨w.heap.size + 1, j, none⟩ = pc[j]? ∧ W.frozen? ⟨w.heap.size + 1, j, none⟩ = false := ⟨blk_cell h.hP j, blk_frozen h.hP j⟩
theorem PlB.q_put (h : PlB w W cc pc) (j : Nat) (u : Value) (hq : (Kd.int .i64).Q 3 W w.heap.size (fun _ => True) v l) : (Kd.int .i64).Q 3 (W.setCell ⟨w.heap.size + 1, j, none⟩ u) w.heap.size (fun _ => True) v l :=
 Kd.Q_mono (Kd.Q_set hq h.hP (by decide) j u) (fun _ _ => trivial)
theorem PlS.below (h : PlS w W cc R wt ut v l) (hb : Below W.heap.size W W1) : PlS w W1 cc R wt ut v l := ⟨h.1.below hb, Kd.Q_below h.2 hb⟩
theorem PlS.drew (h : PlS w W cc R wt ut v l) : PlS w W.drew cc R wt ut v l := h.below (below_drew1 (Below.refl _ _))
theorem PlS.kept (h : PlS w W cc R wt ut v l) (hk : Kept W W1 (fun k => k = w.heap.size + 1 ∨ some k = v.ownBlock)) (ho : W1.os = W.os ∧ W1.tape = W.tape ∧ W1.output = W.output) {R' wt' ut' : Int} {v' : Value} {l' : List Int}
  (hP : W1.heap[w.heap.size + 1]? = some (.cells #[.int .i64 R', v', .int .i64 wt', .int .i64 ut'] 34 (0, 0))) (hq : (Kd.int .i64).Q 3 W1 w.heap.size (fun _ => True) v' l') : PlS w W1 cc R' wt' ut' v' l' := by
 obtain ⟨b, q⟩ := h
 refine ⟨⟨blk_kept b.hC hk (fun e => e.elim (by omega) (Kd.Q_ne q b.hC (by decide))), hP, blk_kept b.hA hk (fun e => e.elim (by omega) (Kd.Q_ne q b.hA (by decide))), blk_kept b.hM hk (fun e => e.elim (by omega) (Kd.Q_ne q b.hM (by decide))), ?_⟩, hq⟩
 refine ⟨ho.1.trans b.hB.os, ho.2.1.trans b.hB.tape, ho.2.2.trans b.hB.output, Nat.le_trans b.hB.size hk.1, fun k hlt => ?_⟩
 refine (hk.2 k (Nat.lt_of_lt_of_le hlt b.hB.size) (fun e => ?_)).trans (b.hB.block k hlt)
 rcases e with e | e
 ·omega
 ·have := Kd.Q_base q k e.symm
  omega
end
theorem PlB.new (w : World) (cc pc : Array Value) :
  PlB w ((((w.alloc (.cells cc 23)).alloc (.cells pc 34)).alloc (.cells #[.int .i64 0, .slice none 0 0, .int .i64 0, .int .i64 0] 34)).alloc (.cells #[.int .i64 0, .bool false] 52)) cc pc := by
 have z1 := blk_new (w.alloc (.cells cc 23)) (.cells pc 34)
 rw [World.size_alloc] at z1
 have z2 := blk_new ((w.alloc (.cells cc 23)).alloc (.cells pc 34)) (.cells #[.int .i64 0, .slice none 0 0, .int .i64 0, .int .i64 0] 34)
 rw [World.size_alloc, World.size_alloc] at z2
 have z3 := blk_new (((w.alloc (.cells cc 23)).alloc (.cells pc 34)).alloc (.cells #[.int .i64 0, .slice none 0 0, .int .i64 0, .int .i64 0] 34)) (.cells #[.int .i64 0, .bool false] 52)
 rw [World.size_alloc, World.size_alloc, World.size_alloc] at z3
 exact ⟨blk_alloc (blk_alloc (blk_alloc (blk_new w _) _) _) _, blk_alloc (blk_alloc z1 _) _, blk_alloc z2 _, z3, below_alloc (below_alloc (below_alloc (below_alloc (Below.refl _ _) _) _) _) _⟩
set_option maxHeartbeats 8000000 in
set_option maxRecDepth 100000 in
theorem plant_Step.calls (a0_0 a0_1 a0_2 a0_3 a0_4 a0_5 a0_6 a0_7 a0_8 a0_9 a0_10 a0_11 : Int) (a1_0 : Int) (A1_1 : Option Addr) (c1_1 : Nat) (l1_1 : List Int) (a1_2 a1_3 : Int) (a2 a3 : Int) (r1 : Int) (r2 : List Int) (r3 : Int) (r4 : Int) (r5 : Int) (r6 : Bool) (w : World)
  (hr1_1 : Kd.C (Kd.int .i64) w A1_1 l1_1.length l1_1) (hc1_1 : l1_1.length ≤ c1_1) (h : plant_Step.f a0_0 a0_1 a0_2 a0_3 a0_4 a0_5 a0_6 a0_7 a0_8 a0_9 a0_10 a0_11 a1_0 l1_1 a1_2 a1_3 a2 a3 = some (r1, r2, r3, r4, r5, r6)) :
  Calls Try.prog 49 #[.agg #[.int .i64 a0_0, .int .i64 a0_1, .int .i64 a0_2, .int .i64 a0_3, .int .i64 a0_4, .int .i64 a0_5, .int .i64 a0_6, .int .i64 a0_7, .int .i64 a0_8, .int .i64 a0_9, .int .i64 a0_10, .int .i64 a0_11], .agg #[.int .i64 a1_0, .slice A1_1 l1_1.length c1_1, .int .i64 a1_2, .int .i64 a1_3], .int .i64 a2, .int .i64 a3] w
   fun e w' => ∃ v1_ : Value, e = .returned (.tuple #[.agg #[.int .i64 r1, v1_, .int .i64 r3, .int .i64 r4], .agg #[.int .i64 r5, .bool r6]]) ∧ Kd.Q (Kd.int .i64) 3 w' w.heap.size (fun _ => True) v1_ r2 ∧ Below w.heap.size w w' := by
 have hu1 := Try.underlying34
 have hu2 := Try.underlying23
 have hu3 := Try.underlying52
 unfold plant_Step.f at h
 have hD : l1_1.length ≤ 8 ∧ 0 ≤ a0_5 ∧ a0_5 ≤ 8 := by
  by_cases hD : l1_1.length ≤ 8 ∧ 0 ≤ a0_5 ∧ a0_5 ≤ 8
  ·exact hD
  ·rw [if_neg hD] at h
   cases h
 rw [if_pos hD] at h
 obtain ⟨hl8, hd0, hd8⟩ := hD
 have Hh := Aside0.mk h
 have HR := Aside0.mk hr1_1
 have HC := Aside0.mk hc1_1
 have Hl8 := Aside0.mk hl8
 obtain ⟨cc, hcc⟩ : ∃ cc : Array Value, cc = #[.int .i64 a0_0, .int .i64 a0_1, .int .i64 a0_2, .int .i64 a0_3, .int .i64 a0_4, .int .i64 a0_5, .int .i64 a0_6, .int .i64 a0_7, .int .i64 a0_8, .int .i64 a0_9, .int .i64 a0_10, .int .i64 a0_11] := ⟨_, rfl⟩
 have Hcc := Aside0.mk hcc
 clear h hr1_1 hc1_1 hl8 hcc
 go_enter Try.func49, Try.ntmps49
 go_upto_region 1 with (fail)
 have n1 := PlB.new w #[.int .i64 a0_0, .int .i64 a0_1, .int .i64 a0_2, .int .i64 a0_3, .int .i64 a0_4, .int .i64 a0_5, .int .i64 a0_6, .int .i64 a0_7, .int .i64 a0_8, .int .i64 a0_9, .int .i64 a0_10, .int .i64 a0_11] #[.int .i64 a1_0, .slice A1_1 l1_1.length c1_1, .int .i64 a1_2, .int .i64 a1_3]
 generalize (((w.alloc _).alloc _).alloc _).alloc _ = W0 at n1 ⊢
 have hC0 := Aside0.mk (Kd.C_below HR.out n1.hB)
 have p1 := (n1.cell 1).1
 simp only [List.getElem?_toArray, List.getElem?_cons_zero, List.getElem?_cons_succ] at p1
 have N1 := Aside0.mk n1
 have Hf := Aside0.mk (show slices_Clone_int_int.f l1_1 = some l1_1 by unfold slices_Clone_int_int.f; rw [if_pos (by have := Hl8.out; omega)])
 clear n1 HR
 go_upto_if 20 with (go_at_call 41; refine (slices_Clone_int_int.calls A1_1 c1_1 l1_1 l1_1 _ hC0.out HC.out Hf.out).mono ?_; rintro e_ w1 ⟨v1, rfl, ho, hb⟩; obtain ⟨A', c', rfl⟩ := Kd.R_slice ho; have HS := Aside0.mk (N1.out.below hb); have HO := Aside0.mk (Kd.R_mono (Kd.R_lower ho N1.out.hB.size) (fun _ _ => trivial)); have q1 := (HS.out.cell 1).1; have qf1 := (HS.out.cell 1).2; clear ho hb)
 have S1 := PlB.put HS.out 1 (.slice A' l1_1.length c') rfl
 have Q1 := PlB.q_put HS.out 1 (.slice A' l1_1.length c') (Kd.Q_of_R HO.out)
 generalize w1.setCell _ _ = W1 at S1 Q1 ⊢
 clear HS HO q1 qf1 N1 Hf hC0 p1 HC
 go_cut [] (fun wx => ∃ v', PlS w wx #[.int .i64 a0_0, .int .i64 a0_1, .int .i64 a0_2, .int .i64 a0_3, .int .i64 a0_4, .int .i64 a0_5, .int .i64 a0_6, .int .i64 a0_7, .int .i64 a0_8, .int .i64 a0_9, .int .i64 a0_10, .int .i64 a0_11] (readyL a1_0 l1_1) a1_2 a1_3 v' (l1_1.drop 1))
 case first =>
  by_cases hl : 0 < l1_1.length
  ·have b1 : decide (0 < l1_1.length) = true := decide_eq_true hl
   obtain ⟨g, o, c2, hv, hg1, hg2, _⟩ := Kd.Q_form Q1 hl
   injection hv with e1 _ e3
   subst e1
   subst e3
   have p0 := (S1.cell 0).1
   have p1 := (S1.cell 1).1
   have f0 := (S1.cell 0).2
   obtain ⟨c1, _⟩ := Kd.Q_cell (0 : Int) Q1 0 (by omega) (by omega)
   simp only [List.setIfInBounds_toArray, List.set_cons_zero, List.set_cons_succ, List.getElem?_toArray, List.getElem?_cons_zero, List.getElem?_cons_succ] at p0 p1
   obtain ⟨x, hx⟩ : ∃ x, rd l1_1 0 = x := ⟨_, rfl⟩
   have c1' : W1.cell? ⟨g, o, none⟩ = some (.int .i64 x) := by rw [← hx]; exact c1
   have h0 : (0 : Int) < (l1_1.length : Int) := by omega
   have S2 := PlB.put S1 0 (.int .i64 (wrap64 (a1_0 + x))) rfl
   have Q2 := PlB.q_put S1 0 (.int .i64 (wrap64 (a1_0 + x))) Q1
   have HS2 := Aside0.mk S2
   have HQ2 := Aside0.mk Q2
   have HX := Aside0.mk hx
   clear S2 Q2 S1 Q1 hx hg1 hg2 c1
   go_wp2
   go_region
   have S3 := HS2.out.below (below_drew1 (Below.refl _ _))
   have Q3 := Kd.Q_below HQ2.out (below_drew1 (Below.refl _ _))
   generalize (W1.setCell _ _).drew = W2 at S3 Q3 ⊢
   clear p0 p1 f0 c1' HS2 HQ2
   have p1 := (S3.cell 1).1
   have f1 := (S3.cell 1).2
   simp only [List.setIfInBounds_toArray, List.set_cons_zero, List.set_cons_succ, List.getElem?_toArray, List.getElem?_cons_zero, List.getElem?_cons_succ] at p1
   have hr := Kd.Q_drop (k := 1) Q3 (by omega)
   obtain ⟨i0, hi0, _, hsz, _⟩ := info_parts info3
   have hcut := cut_from (P := Try.prog) 32 3 .i64 Try.underlying32 hi0 1 hsz (some ⟨g, o, none⟩) l1_1.length c' 1 (by omega) (by omega)
   obtain ⟨A3, hA3⟩ : ∃ A3, A3 = (if c' = 1 then (some ⟨g, o, none⟩) else (some (⟨g, o, none⟩ : Addr)).map (·.add (1 * 1))) := ⟨_, rfl⟩
   obtain ⟨n3, hn3⟩ : ∃ n3, n3 = l1_1.length - 1 := ⟨_, rfl⟩
   obtain ⟨c3, hc3⟩ : ∃ c3, c3 = c' - 1 := ⟨_, rfl⟩
   rw [show (1 : Int).toNat = 1 from rfl, ← hn3, ← hc3, ← hA3] at hcut
   replace hr : (Kd.int .i64).Q 3 W2 w.heap.size (fun _ => True) (.slice A3 n3 c3) (l1_1.drop 1) := by rw [hA3, hn3, hc3]; exact hr
   clear hA3 hn3 hc3 hi0 hsz Q3
   have HS4 := Aside0.mk (PlB.put S3 1 (.slice A3 n3 c3) rfl)
   have HQ4 := Aside0.mk (PlB.q_put S3 1 (.slice A3 n3 c3) hr)
   clear S3 hr
   go_wp2
   go_meet
   refine ⟨_, ?_, HQ4.out⟩
   have z := HS4.out
   rw [← HX.out] at z
   unfold readyL
   rw [if_pos hl]
   exact z
  ·have b1 : decide (0 < l1_1.length) = false := decide_eq_false hl
   have hz : l1_1 = [] := List.eq_nil_of_length_eq_zero (by omega)
   go_wp2
   go_meet
   subst hz
   exact ⟨_, S1, Q1⟩
 case rest =>
  obtain ⟨v1, S1, Q1⟩ := hcut
  have hl7 : (l1_1.drop 1).length ≤ 8 := by have := Hl8.out; rw [List.length_drop]; omega
  obtain ⟨R1, hR1⟩ : ∃ R1, readyL a1_0 l1_1 = R1 := ⟨_, rfl⟩
  obtain ⟨l1, hl1⟩ : ∃ l1, l1_1.drop 1 = l1 := ⟨_, rfl⟩
  rw [hR1] at S1
  rw [hl1] at Q1 hl7
  have h := Hh.out
  rw [hR1, hl1] at h
  clear Hh hR1 hl1
  obtain ⟨A1, c1, rfl, hc1⟩ := Kd.Q_slice Q1
  have p0 := (S1.cell 0).1
  have p1 := (S1.cell 1).1
  have p2 := (S1.cell 2).1
  have p3 := (S1.cell 3).1
  simp only [List.getElem?_toArray, List.getElem?_cons_zero, List.getElem?_cons_succ] at p0 p1 p2 p3
  obtain ⟨al, hal⟩ : ∃ al, allL R1 l1 = al := ⟨_, rfl⟩
  have HF := Aside0.mk (plant_All_fold R1 l1 (by omega) a1_2 a1_3)
  rw [hal] at HF
  obtain ⟨m1, hm1⟩ : ∃ m1, mn a2 1000 = m1 := ⟨_, rfl⟩
  have hm1' : (if 1000 < a2 then 1000 else a2) = m1 := hm1
  obtain ⟨s1, hs1⟩ : ∃ s1, mx 0 m1 = s1 := ⟨_, rfl⟩
  have hs1' : (if 0 < m1 then m1 else 0) = s1 := hs1
  obtain ⟨more, hmore⟩ : ∃ more, wrap64 (s1 - al) = more := ⟨_, rfl⟩
  have hm : moreL R1 a2 l1 = more := by unfold moreL; rw [hm1, hs1, hal, hmore]
  rw [hm] at h
  have Hh := Aside0.mk h
  have HS1 := Aside0.mk S1
  have HQ1 := Aside0.mk Q1
  have HR1 := Aside0.mk ((Kd.Q_reads' Q1).2.2)
  have HC1 := Aside0.mk hc1
  have HL7 := Aside0.mk hl7
  clear h S1 Q1 hm hm1 hs1 hal hc1 hl7
  go_upto_block 0 with (go_at_call 61; refine (plant_All.calls (l1.length + 1) R1 A1 c1 l1 a1_2 a1_3 al _ HR1.out HC1.out HF.out).mono ?_; rintro e_ w5 ⟨rfl, hb⟩; have HS5 := Aside0.mk (HS1.out.below hb); have HQ5 := Aside0.mk (Kd.Q_below HQ1.out hb); clear hb)
  rw [hmore]
  clear p0 p1 p2 p3 HS1 HQ1 HR1 HF hm1' hs1' hmore
  have S5 := HS5.out
  have Q5 := HQ5.out
  have hl8 := HL7.out
  clear HS5 HQ5 HL7 HC1 Hl8 S1 Q1
  go_cut [] (fun wx => ∃ v', PlS w wx #[.int .i64 a0_0, .int .i64 a0_1, .int .i64 a0_2, .int .i64 a0_3, .int .i64 a0_4, .int .i64 a0_5, .int .i64 a0_6, .int .i64 a0_7, .int .i64 a0_8, .int .i64 a0_9, .int .i64 a0_10, .int .i64 a0_11] (sizedL R1 a0_5 more l1).1 a1_2 a1_3 v' (sizedL R1 a0_5 more l1).2 ∧ (sizedL R1 a0_5 more l1).2.length ≤ 8)
  case first =>
   clear Hh
   have d5 := blk_cell S5.hC 5
   simp only [List.getElem?_toArray, List.getElem?_cons_zero, List.getElem?_cons_succ] at d5
   by_cases hp : 0 < more
   ·have b1 : decide (0 < more) = true := decide_eq_true hp
    by_cases hz : a0_5 = 0
    ·subst hz
     have HS5 := Aside0.mk S5
     have HQ5 := Aside0.mk Q5
     have Hp := Aside0.mk hp
     have Hl := Aside0.mk hl8
     clear S5 Q5 hp hl8
     go_wp2_with (go_at_call 62; refine (grow_zero (w.heap.size + 1) more R1 a1_2 a1_3 (.slice A1 l1.length c1) w5 HS5.out.hP).mono ?_; rintro e_ w6 ⟨rfl, rfl⟩)
     go_meet
     have e : sizedL R1 0 more l1 = (wrap64 (R1 + more), l1) := by unfold sizedL; rw [if_pos Hp.out, if_pos rfl]
     rw [e]
     exact ⟨_, ⟨HS5.out.put 0 _ rfl, HS5.out.q_put 0 _ HQ5.out⟩, Hl.out⟩
    ·have hd1 : 0 < a0_5 := by omega
     have HS5 := Aside0.mk S5
     have HQ5 := Aside0.mk Q5
     have Hp := Aside0.mk hp
     have Hl := Aside0.mk hl8
     have Hz := Aside0.mk hz
     have e : sizedL R1 a0_5 more l1 = (R1, growL a0_5 more l1) := by unfold sizedL; rw [if_pos hp, if_neg hz]
     by_cases hle : a0_5 ≤ (l1.length : Int)
     ·obtain ⟨g, o, c2, hv, hg1, hg2, cells, hcells⟩ := Kd.Q_form Q5 (by omega)
      injection hv with e1 _ e3
      subst e1
      subst e3
      have HG := Aside0.mk (grow_old (w.heap.size + 1) g o c1 a0_5 more R1 a1_2 a1_3 l1 w.heap.size w5 S5.hP Q5 hd1 hd8 hle hl8)
      have Hle := Aside0.mk hle
      have HE := Aside0.mk e
      have HD := Aside0.mk hd1
      have HT := Aside0.mk hcells
      clear S5 Q5 hp hl8 hz e hle hd1 hg1 hg2 hcells
      go_wp2_with (go_at_call 62; refine HG.out.mono ?_; rintro e_ w6 ⟨rfl, rfl⟩)
      go_meet
      have hle := Hle.out
      have hd1 := HD.out
      have S5 := HS5.out
      have hq := (Kd.Q_putg HQ5.out (a0_5 - 1) (by omega) (by omega) (wrap64 (rd l1 (a0_5 - 1) + more))).1
      have hne : ∀ (k t : Nat) (cs : Array Value), w5.heap[k]? = some (.cells cs t (0, 0)) → 3 ≠ t → k ≠ g := fun k t cs hk ht hkg => Kd.Q_ne HQ5.out hk ht (by rw [hkg]; rfl)
      rw [HE.out]
      refine ⟨_, ⟨⟨blk_far S5.hC (hne _ _ _ S5.hC (by decide)) _, blk_far S5.hP (hne _ _ _ S5.hP (by decide)) _, blk_far S5.hA (hne _ _ _ S5.hA (by decide)) _, blk_far S5.hM (hne _ _ _ S5.hM (by decide)) _, below_set S5.hB (Kd.Q_base HQ5.out g rfl)⟩, ?_⟩, ?_⟩
      ·have eg : growL a0_5 more l1 = l1.set (a0_5 - 1).toNat (wrap64 (rd l1 (a0_5 - 1) + more)) := by
        unfold growL
        simp only
        rw [if_neg (by omega)]
       have en : (a0_5 - 1).toNat = a0_5.toNat - 1 := by omega
       rw [en] at hq
       rw [eg, en]
       exact hq
      ·show (growL a0_5 more l1).length ≤ 8
       have := Hl.out
       unfold growL
       simp only
       rw [if_neg (by omega), List.length_set]
       exact this
     ·have HG := Aside0.mk (grow_new (w.heap.size + 1) (.slice A1 l1.length c1) a0_5 more R1 a1_2 a1_3 l1 w.heap.size w5 S5.hP Q5 S5.hB.size hd1 hd8 (by omega))
      have Hle := Aside0.mk hle
      have HE := Aside0.mk e
      clear S5 Q5 hp hl8 hz e hle hd1
      go_wp2_with (go_at_call 62; refine HG.out.mono ?_; rintro e_ w6 ⟨rfl, v6, g1, g2, g3, g4⟩; have G1 := Aside0.mk g1; have G2 := Aside0.mk g2; have G3 := Aside0.mk g3; have G4 := Aside0.mk g4; clear g1 g2 g3 g4)
      go_meet
      rw [HE.out]
      refine ⟨v6, PlS.kept ⟨HS5.out, HQ5.out⟩ G3.out G4.out G1.out G2.out, ?_⟩
      show (growL a0_5 more l1).length ≤ 8
      have := Hl.out
      unfold growL
      simp only
      rw [List.length_set]
      split
      ·rw [List.length_append, List.length_replicate]
       omega
      ·exact this
   ·have b1 : decide (0 < more) = false := decide_eq_false hp
    by_cases hn : more < 0
    ·have b2 : decide (more < 0) = true := decide_eq_true hn
     have e : sizedL R1 a0_5 more l1 = (wrap64 (R1 - (shr l1 (wrap64 (-more)) l1.length).2), (shr l1 (wrap64 (-more)) l1.length).1) := by unfold sizedL; rw [if_neg hp, if_pos hn]
     have HS5 := Aside0.mk S5
     have HQ5 := Aside0.mk Q5
     have Hl := Aside0.mk hl8
     have HE := Aside0.mk e
     by_cases hz : 0 < l1.length
     ·obtain ⟨g, o, c2, hv, hg1, hg2, cells, hcells⟩ := Kd.Q_form Q5 hz
      injection hv with e1 _ e3
      subst e1
      subst e3
      have HG := Aside0.mk (shrink_some (w.heap.size + 1) g o c1 (wrap64 (-more)) R1 a1_2 a1_3 l1 w.heap.size w5 S5.hP Q5 (fun hk => Kd.Q_ne Q5 S5.hP (by decide) (by rw [← hk]; rfl)) hl8)
      clear S5 Q5 hp hl8 hz e hn hg1 hg2 hcells
      go_wp2_with (go_at_call 63; refine HG.out.mono ?_; rintro e_ w6 ⟨rfl, g1, g2, g3, g4⟩; have G1 := Aside0.mk g1; have G2 := Aside0.mk g2; have G3 := Aside0.mk g3; have G4 := Aside0.mk g4; clear g1 g2 g3 g4)
      go_meet
      rw [HE.out]
      exact ⟨_, PlS.kept ⟨HS5.out, HQ5.out⟩ (G3.out.mono (fun k hk => hk.imp_right (fun hk => by rw [hk]; rfl))) G4.out G1.out G2.out, by rw [shr_length]; exact Hl.out⟩
     ·have hz0 : l1 = [] := List.eq_nil_of_length_eq_zero (by omega)
      subst hz0
      have HG := Aside0.mk (shrink_nil (w.heap.size + 1) c1 A1 (wrap64 (-more)) R1 a1_2 a1_3 w5 S5.hP)
      clear S5 Q5 hp hl8 hz e hn
      go_wp2_with (go_at_call 63; refine HG.out.mono ?_; rintro e_ w6 ⟨rfl, g1, g3, g4⟩; have G1 := Aside0.mk g1; have G3 := Aside0.mk g3; have G4 := Aside0.mk g4; clear g1 g3 g4)
      go_meet
      rw [HE.out]
      exact ⟨_, PlS.kept ⟨HS5.out, HQ5.out⟩ (G3.out.mono (fun k hk => .inl hk)) G4.out G1.out (Kd.Q_mono (Kd.Q_kept (Kd.Q_types HQ5.out HS5.out.hP (by decide)) G3.out (fun k hk e => hk.2 e)) (fun _ _ => trivial)), Hl.out⟩
    ·have b2 : decide (more < 0) = false := decide_eq_false hn
     have e : sizedL R1 a0_5 more l1 = (R1, l1) := by unfold sizedL; rw [if_neg hp, if_neg hn]
     have HS5 := Aside0.mk S5
     have HQ5 := Aside0.mk Q5
     have Hl := Aside0.mk hl8
     have HE := Aside0.mk e
     clear S5 Q5 hp hl8 e hn
     go_wp2
     go_meet
     rw [HE.out]
     exact ⟨_, ⟨HS5.out, HQ5.out⟩, Hl.out⟩
  case rest =>
   obtain ⟨v6, ⟨S6, Q6⟩, hl6⟩ := hcut
   obtain ⟨s2, hs2⟩ : ∃ s2, sizedL R1 a0_5 more l1 = s2 := ⟨_, rfl⟩
   obtain ⟨R2, l2⟩ := s2
   rw [hs2] at S6 Q6 hl6
   have h := Hh.out
   rw [hs2] at h
   clear Hh hs2
   dsimp only at S6 Q6 hl6 h
   have Hh := Aside0.mk h
   clear h S5 Q5 hl8
   go_upto_block 1 with (fail)
   go_cut [] (fun wx => ∃ v', PlS w wx #[.int .i64 a0_0, .int .i64 a0_1, .int .i64 a0_2, .int .i64 a0_3, .int .i64 a0_4, .int .i64 a0_5, .int .i64 a0_6, .int .i64 a0_7, .int .i64 a0_8, .int .i64 a0_9, .int .i64 a0_10, .int .i64 a0_11] R2 a1_2 a1_3 v' (trimL l2))
   case first =>
    clear Hh
    go_wp2
    go_loopg [] l2.length (fun kq wr => ∃ (v : Value) (l : List Int), PlS w wr #[.int .i64 a0_0, .int .i64 a0_1, .int .i64 a0_2, .int .i64 a0_3, .int .i64 a0_4, .int .i64 a0_5, .int .i64 a0_6, .int .i64 a0_7, .int .i64 a0_8, .int .i64 a0_9, .int .i64 a0_10, .int .i64 a0_11] R2 a1_2 a1_3 v l ∧ l.length = kq ∧ Aside0 (trimL l = trimL l2) ∧ Aside0 (l.length ≤ 8))
    case atStart => exact ⟨v6, l2, ⟨S6, Q6⟩, rfl, ⟨rfl⟩, ⟨hl6⟩⟩
    case round =>
     clear S6 Q6 hl6
     obtain ⟨v, l, ⟨S, Q⟩, rfl, HT, HL⟩ := hrel
     obtain ⟨A, c, rfl, hc⟩ := Kd.Q_slice Q
     have p1 := (S.cell 1).1
     have f1 := (S.cell 1).2
     simp only [List.getElem?_toArray, List.getElem?_cons_zero, List.getElem?_cons_succ] at p1
     by_cases hl : 0 < l.length
     ·have hl8 := HL.out
      have b1 : decide (0 < l.length) = true := decide_eq_true hl
      obtain ⟨g, o, c2, hv, hg1, hg2, _⟩ := Kd.Q_form Q hl
      injection hv with e1 _ e3
      subst e1
      subst e3
      obtain ⟨c1', _⟩ := Kd.Q_cell (0 : Int) Q ((l.length : Int) - 1) (by omega) (by omega)
      obtain ⟨x, hx⟩ : ∃ x, rd l ((l.length : Int) - 1) = x := ⟨_, rfl⟩
      have c1 : wr.cell? ⟨g, o + (l.length - 1), none⟩ = some (.int .i64 x) := by
       rw [← hx, show l.length - 1 = ((l.length : Int) - 1).toNat by omega]
       exact c1'
      have c2 : wr.cell? ⟨g, o + ((l.length : Int) - 1).toNat, none⟩ = some (.int .i64 x) := by
       rw [← hx]
       exact c1'
      have w1 : wrap64 ((l.length : Int) - 1) = (l.length : Int) - 1 := IntWalk.wrap64_in _ (by omega)
      have b3 : 0 ≤ (l.length : Int) - 1 := by omega
      have b4 : (l.length : Int) - 1 < (l.length : Int) := by omega
      clear c1' hc
      have HX := Aside0.mk hx
      have HP := Aside0.mk hl
      have HS := Aside0.mk S
      have HQ := Aside0.mk Q
      by_cases hz : x = 0
      ·subst hz
       have hr := Kd.Q_take (m := l.length - 1) Q (by omega)
       obtain ⟨i0, hi0, _, hsz, _⟩ := info_parts info3
       have hcut := cut_to (P := Try.prog) 32 3 .i64 Try.underlying32 hi0 (some ⟨g, o, none⟩) l.length c ((l.length : Int) - 1) (by omega) (by omega) (Kd.Q_reads' Q).2.1
       rw [show ((l.length : Int) - 1).toNat = l.length - 1 by omega] at hcut
       have hr' := S.q_put 1 (.slice (some ⟨g, o, none⟩) (l.length - 1) c) hr
       have HR := Aside0.mk hr'
       clear hi0 hsz hr hr' hx S Q hl hl8 hg1 hg2
       go_wp2
       go_roundg (l.length - 1)
       case measure => have := HP.out; omega
       case rel => exact ⟨_, l.take (l.length - 1), ⟨HS.out.put 1 _ rfl, HR.out⟩, by rw [List.length_take]; omega, ⟨(trimL_end0 l HP.out HX.out).trans HT.out⟩, ⟨by have := HL.out; rw [List.length_take]; omega⟩⟩
      ·have b5 : (x == 0) = false := by simp [hz]
       have HZ := Aside0.mk hz
       clear hx S Q hl hl8 hg1 hg2 hz
       go_wp2
       go_meet
       have e := trimL_end l HP.out (by rw [HX.out]; exact HZ.out)
       rw [← HT.out, e]
       exact ⟨_, HS.out, HQ.out⟩
     ·have b1 : decide (0 < l.length) = false := decide_eq_false hl
      have hz : l = [] := List.eq_nil_of_length_eq_zero (by omega)
      have HS := Aside0.mk S
      have HQ := Aside0.mk Q
      have HZ := Aside0.mk hz
      clear S Q hl hz
      go_wp2
      go_meet
      rw [← HT.out]
      rw [HZ.out] at HQ
      have := HZ.out
      subst this
      exact ⟨_, HS.out, HQ.out⟩
   case rest =>
    obtain ⟨v7, S7, Q7⟩ := hcut
    obtain ⟨todo, ht, h1⟩ := Option.bind_eq_some_iff.1 Hh.out
    obtain ⟨can, hc, h2⟩ := Option.bind_eq_some_iff.1 h1
    obtain ⟨ut, hd, h⟩ := Option.bind_eq_some_iff.1 h2
    clear h1 h2
    simp only [Option.some.injEq, Prod.mk.injEq] at h
    obtain ⟨l3, hl3⟩ : ∃ l3, trimL l2 = l3 := ⟨_, rfl⟩
    rw [hl3] at Q7 h
    obtain ⟨e1, e2, e3, e4, e5, e6⟩ := h
    clear Hh
    have HT := Aside0.mk ht
    have HC := Aside0.mk hc
    have HD := Aside0.mk hd
    obtain ⟨A7, c7, rfl, hc7⟩ := Kd.Q_slice Q7
    obtain ⟨m2, hm2⟩ : ∃ m2, mn a3 1000000 = m2 := ⟨_, rfl⟩
    have hm2' : (if 1000000 < a3 then 1000000 else a3) = m2 := hm2
    obtain ⟨s2, hs2⟩ : ∃ s2, mx 0 m2 = s2 := ⟨_, rfl⟩
    have hs2' : (if 0 < m2 then m2 else 0) = s2 := hs2
    obtain ⟨wd, hwd⟩ : ∃ wd, wrap64 (todo - can) = wd := ⟨_, rfl⟩
    obtain ⟨wt, hwt⟩ : ∃ wt, mx 0 wd = wt := ⟨_, rfl⟩
    have hwt' : (if 0 < wd then wd else 0) = wt := hwt
    rw [hm2, hs2] at HT
    rw [hwd, hwt] at e3 e6
    have hlen : l3.length < 9000000000000000000 := by
     have := trimL_length l2
     rw [hl3] at this
     omega
    have HF3 := Aside0.mk (plant_All_fold R2 l3 hlen wt ut)
    rw [e5] at HF3
    subst e1
    subst e2
    subst e3
    subst e4
    subst e6
    have HS := Aside0.mk S7
    have HQ := Aside0.mk Q7
    have p0 := (S7.cell 0).1
    have p2 := (S7.cell 2).1
    have p3 := (S7.cell 3).1
    have f2 := (S7.cell 2).2
    have f3 := (S7.cell 3).2
    have d4 := blk_cell S7.hC 4
    simp only [List.getElem?_toArray, List.getElem?_cons_zero, List.getElem?_cons_succ] at p0 p2 p3 d4
    clear ht hc hd hm2 hs2 hwt e5 S7 Q7 hlen hl3 hc7 S6 Q6 hl6
    go_upto_region 15 with (first | (go_at_call 64; refine (fixed_Add.calls _ _ _ _ HT.out).mono ?_; rintro e_ w_ ⟨rfl, ⟨na, rfl⟩⟩) | (go_at_call 65; refine (fixed_Sat.calls _ _ _ HC.out).mono ?_; rintro e_ w_ ⟨rfl, ⟨nb, rfl⟩⟩) | (go_at_call 66; refine (fixed_Div.calls _ _ _ _ HD.out).mono ?_; rintro e_ w_ ⟨rfl, ⟨nd, rfl⟩⟩))
    have HW := pw_below_drewN (Below.refl wc.heap.size wc) (na + nb + nd)
    have S8 := ((HS.out.below HW).put 2 (.int .i64 wt) rfl).put 3 (.int .i64 ut) rfl
    have Q8 := PlB.q_put ((HS.out.below HW).put 2 (.int .i64 wt) rfl) 3 (.int .i64 ut) (PlB.q_put (HS.out.below HW) 2 (.int .i64 wt) (Kd.Q_below HQ.out HW))
    generalize ((wc.drewN _).setCell _ _).setCell _ _ = W8 at S8 Q8 ⊢
    clear HW HS HQ HT HC HD f2 f3 p0 p2 p3 d4 hm2' hs2' hwd hwt'
    refine start_ (n := 11) (S := fun w' => w'.heap[w.heap.size]? = some (.cells #[.int .i64 a0_0, .int .i64 a0_1, .int .i64 a0_2, .int .i64 a0_3, .int .i64 a0_4, .int .i64 a0_5, .int .i64 a0_6, .int .i64 a0_7, .int .i64 a0_8, .int .i64 a0_9, .int .i64 a0_10, .int .i64 a0_11] 23 (0, 0)) ∧ w'.heap[w.heap.size + 1]? = some (.cells #[.int .i64 R2, .slice A7 l3.length c7, .int .i64 wt, .int .i64 ut] 34 (0, 0))) (ds := []) #[false, false, false, false, false, false, false, false, false, false, false] (by kernel_rfl) rfl rfl ⟨S8.hC, S8.hP⟩ (fun hHeld => ?_)
    have S8 := S8.below (below_drew1 (Below.refl _ _))
    have Q8 := Kd.Q_below Q8 (below_drew1 (Below.refl _ _))
    generalize W8.drew = w9 at S8 Q8 hHeld ⊢
    refine pu_ 3 99 #[false, false, false, true, false, false, false, false, false, false, false] ?_
    refine pu_ 5 101 #[false, false, false, true, false, true, false, false, false, false, false] ?_
    refine ta_ 0 96 #[true, false, false, true, false, true, false, false, false, false, false] hHeld (v := ?_) ?_ ?_
    rotate_left
    ·intro w' hS
     have s0 := blk_cell hS.2 0
     have s1 := blk_cell hS.2 1
     have s2 := blk_cell hS.2 2
     have s3 := blk_cell hS.2 3
     simp only [List.getElem?_toArray, List.getElem?_cons_zero, List.getElem?_cons_succ] at s0 s1 s2 s3
     clear hS
     go_simp
     with_reducible rfl
    refine ta_ 1 97 #[true, true, false, true, false, true, false, false, false, false, false] hHeld (v := ?_) ?_ ?_
    rotate_left
    ·intro w' hS
     have s0 := blk_cell hS.2 0
     have s1 := blk_cell hS.2 1
     have s2 := blk_cell hS.2 2
     have s3 := blk_cell hS.2 3
     simp only [List.getElem?_toArray, List.getElem?_cons_zero, List.getElem?_cons_succ] at s0 s1 s2 s3
     clear hS
     go_simp
     with_reducible rfl
    refine ta_ 4 100 #[true, true, false, true, true, true, false, false, false, false, false] hHeld (v := ?_) ?_ ?_
    rotate_left
    ·intro w' hS
     have s0 := blk_cell hS.2 0
     have s1 := blk_cell hS.2 1
     have s2 := blk_cell hS.2 2
     have s3 := blk_cell hS.2 3
     simp only [List.getElem?_toArray, List.getElem?_cons_zero, List.getElem?_cons_succ] at s0 s1 s2 s3
     clear hS
     go_simp
     with_reducible rfl
    refine ta_ 6 102 #[true, true, false, true, true, true, true, false, false, false, false] hHeld (v := ?_) ?_ ?_
    rotate_left
    ·intro w' hS
     have s6 := blk_cell hS.1 6
     simp only [List.getElem?_toArray, List.getElem?_cons_zero, List.getElem?_cons_succ] at s6
     clear hS
     go_simp
     with_reducible rfl
    refine pu_ 7 103 #[true, true, false, true, true, true, true, true, false, false, false] ?_
    refine one_ (i := 2) (N := some 98) #[true, true, true, true, true, true, true, true, false, false, false] rfl rfl (by kernel_rfl) (by decide) (fun K hK => ?_)
    refine goes_ Try.func61 (by kernel_rfl) rfl #[.agg #[.int .i64 R2, .slice A7 l3.length c7, .int .i64 wt, .int .i64 ut]] (by rfl) rfl rfl (by simp only [List.map_toArray, List.map_cons, List.map_nil]; rfl) ?_
    refine (plant_All.calls (l3.length + 1) R2 A7 c7 l3 wt ut r5 _ (Kd.Q_reads' Q8).2.2 (Kd.Q_reads' Q8).2.1 HF3.out).mono ?_
    rintro e_ w_ ⟨rfl, hb⟩
    refine ⟨_, rfl, ?_⟩
    have S8 := S8.below hb
    have Q8 := Kd.Q_below Q8 hb
    clear hb
    refine hK.out _ _ ⟨S8.hC, S8.hP⟩ (fun hHeld => ?_)
    clear hK K
    refine no_ 98 ?_
    refine pu_ 8 104 #[true, true, true, true, true, true, true, true, true, false, false] ?_
    refine one_ (i := 9) (N := none) #[true, true, true, true, true, true, true, true, true, true, false] rfl rfl (by kernel_rfl) (by decide) (fun K hK => ?_)
    have z0 := blk_cell S8.hA 0
    have f0 := blk_frozen S8.hA 0
    have z1 := blk_cell S8.hA 1
    have f1 := blk_frozen S8.hA 1
    have z2 := blk_cell S8.hA 2
    have f2 := blk_frozen S8.hA 2
    have z3 := blk_cell S8.hA 3
    have f3 := blk_frozen S8.hA 3
    simp only [List.getElem?_toArray, List.getElem?_cons_zero, List.getElem?_cons_succ] at z0 z1 z2 z3
    refine skip_ (w1 := ?_) (by rfl) rfl ?_ ?_
    rotate_left
    ·go_simp
     rfl
    clear z0 f0 z1 f1 z2 f2 z3 f3
    have C9 := blk_far (p := ⟨w.heap.size + 1 + 1, 3, none⟩) (blk_far (p := ⟨w.heap.size + 1 + 1, 2, none⟩) (blk_far (p := ⟨w.heap.size + 1 + 1, 1, none⟩) (blk_far (p := ⟨w.heap.size + 1 + 1, 0, none⟩) (S8.hC) (by show w.heap.size ≠ w.heap.size + 1 + 1; omega) (.int .i64 R2)) (by show w.heap.size ≠ w.heap.size + 1 + 1; omega) (.slice A7 l3.length c7)) (by show w.heap.size ≠ w.heap.size + 1 + 1; omega) (.int .i64 wt)) (by show w.heap.size ≠ w.heap.size + 1 + 1; omega) (.int .i64 ut)
    have P9 := blk_far (p := ⟨w.heap.size + 1 + 1, 3, none⟩) (blk_far (p := ⟨w.heap.size + 1 + 1, 2, none⟩) (blk_far (p := ⟨w.heap.size + 1 + 1, 1, none⟩) (blk_far (p := ⟨w.heap.size + 1 + 1, 0, none⟩) (S8.hP) (by show w.heap.size + 1 ≠ w.heap.size + 1 + 1; omega) (.int .i64 R2)) (by show w.heap.size + 1 ≠ w.heap.size + 1 + 1; omega) (.slice A7 l3.length c7)) (by show w.heap.size + 1 ≠ w.heap.size + 1 + 1; omega) (.int .i64 wt)) (by show w.heap.size + 1 ≠ w.heap.size + 1 + 1; omega) (.int .i64 ut)
    have A9 := blk_put (blk_put (blk_put (blk_put (S8.hA) 0 (.int .i64 R2) rfl) 1 (.slice A7 l3.length c7) rfl) 2 (.int .i64 wt) rfl) 3 (.int .i64 ut) rfl
    have M8 := blk_far (p := ⟨w.heap.size + 1 + 1, 3, none⟩) (blk_far (p := ⟨w.heap.size + 1 + 1, 2, none⟩) (blk_far (p := ⟨w.heap.size + 1 + 1, 1, none⟩) (blk_far (p := ⟨w.heap.size + 1 + 1, 0, none⟩) (S8.hM) (by show w.heap.size + 1 + 1 + 1 ≠ w.heap.size + 1 + 1; omega) (.int .i64 R2)) (by show w.heap.size + 1 + 1 + 1 ≠ w.heap.size + 1 + 1; omega) (.slice A7 l3.length c7)) (by show w.heap.size + 1 + 1 + 1 ≠ w.heap.size + 1 + 1; omega) (.int .i64 wt)) (by show w.heap.size + 1 + 1 + 1 ≠ w.heap.size + 1 + 1; omega) (.int .i64 ut)
    have B9 := below_set (g := w.heap.size + 1 + 1) (j := 3) (v := .int .i64 ut) (below_set (g := w.heap.size + 1 + 1) (j := 2) (v := .int .i64 wt) (below_set (g := w.heap.size + 1 + 1) (j := 1) (v := .slice A7 l3.length c7) (below_set (g := w.heap.size + 1 + 1) (j := 0) (v := .int .i64 R2) (S8.hB) (by omega)) (by omega)) (by omega)) (by omega)
    have Q9 := Kd.Q_far (p := ⟨w.heap.size + 1 + 1, 3, none⟩) (Kd.Q_far (p := ⟨w.heap.size + 1 + 1, 2, none⟩) (Kd.Q_far (p := ⟨w.heap.size + 1 + 1, 1, none⟩) (Kd.Q_far (p := ⟨w.heap.size + 1 + 1, 0, none⟩) (Kd.Q_types Q8 S8.hA (by decide)) (fun k hk => hk.2) (.int .i64 R2)) (fun k hk => hk.2) (.slice A7 l3.length c7)) (fun k hk => hk.2) (.int .i64 wt)) (fun k hk => hk.2) (.int .i64 ut)
    replace Q9 := Kd.Q_mono Q9 (ok' := fun _ => True) (fun _ _ => trivial)
    clear S8 Q8
    generalize ((((w_.setCell _ _).setCell _ _).setCell _ _).setCell _ _) = w10 at C9 P9 A9 M8 B9 Q9 ⊢
    refine hK.out _ _ ⟨C9, P9⟩ (fun hHeld => ?_)
    clear hK K
    refine one_ (i := 10) (N := none) #[true, true, true, true, true, true, true, true, true, true, true] rfl rfl (by kernel_rfl) (by decide) (fun K hK => ?_)
    have z0 := blk_cell M8 0
    have f0 := blk_frozen M8 0
    have z1 := blk_cell M8 1
    have f1 := blk_frozen M8 1
    simp only [List.getElem?_toArray, List.getElem?_cons_zero, List.getElem?_cons_succ] at z0 z1
    refine skip_ (w1 := ?_) (by rfl) rfl ?_ ?_
    rotate_left
    ·go_simp
     rfl
    clear z0 f0 z1 f1
    have C10 := blk_far (p := ⟨w.heap.size + 1 + 1 + 1, 1, none⟩) (blk_far (p := ⟨w.heap.size + 1 + 1 + 1, 0, none⟩) (C9) (by show w.heap.size ≠ w.heap.size + 1 + 1 + 1; omega) (.int .i64 r5)) (by show w.heap.size ≠ w.heap.size + 1 + 1 + 1; omega) (.bool (decide (a0_6 < wt)))
    have P10 := blk_far (p := ⟨w.heap.size + 1 + 1 + 1, 1, none⟩) (blk_far (p := ⟨w.heap.size + 1 + 1 + 1, 0, none⟩) (P9) (by show w.heap.size + 1 ≠ w.heap.size + 1 + 1 + 1; omega) (.int .i64 r5)) (by show w.heap.size + 1 ≠ w.heap.size + 1 + 1 + 1; omega) (.bool (decide (a0_6 < wt)))
    have A10 := blk_far (p := ⟨w.heap.size + 1 + 1 + 1, 1, none⟩) (blk_far (p := ⟨w.heap.size + 1 + 1 + 1, 0, none⟩) (A9) (by show w.heap.size + 1 + 1 ≠ w.heap.size + 1 + 1 + 1; omega) (.int .i64 r5)) (by show w.heap.size + 1 + 1 ≠ w.heap.size + 1 + 1 + 1; omega) (.bool (decide (a0_6 < wt)))
    have M10 := blk_put (blk_put (M8) 0 (.int .i64 r5) rfl) 1 (.bool (decide (a0_6 < wt))) rfl
    have B10 := below_set (g := w.heap.size + 1 + 1 + 1) (j := 1) (v := .bool (decide (a0_6 < wt))) (below_set (g := w.heap.size + 1 + 1 + 1) (j := 0) (v := .int .i64 r5) (B9) (by omega)) (by omega)
    have Q10 := Kd.Q_far (p := ⟨w.heap.size + 1 + 1 + 1, 1, none⟩) (Kd.Q_far (p := ⟨w.heap.size + 1 + 1 + 1, 0, none⟩) (Kd.Q_types Q9 M8 (by decide)) (fun k hk => hk.2) (.int .i64 r5)) (fun k hk => hk.2) (.bool (decide (a0_6 < wt)))
    replace Q10 := Kd.Q_mono Q10 (ok' := fun _ => True) (fun _ _ => trivial)
    clear C9 P9 A9 M8 B9 Q9
    generalize ((w10.setCell _ _).setCell _ _) = w11 at C10 P10 A10 M10 B10 Q10 ⊢
    refine hK.out _ _ ⟨C10, P10⟩ (fun hHeld => ?_)
    clear hK K
    refine done_ (by kernel_rfl) ?_
    have HA := Aside0.mk A10
    have HM := Aside0.mk M10
    have HB := Aside0.mk B10
    have HQ := Aside0.mk Q10
    clear C10 P10 A10 M10 B10 Q10 hHeld
    go_wp2
    refine bodyPost_ret (results_cc rfl _ _ (w.heap.size + 1 + 1) (w.heap.size + 1 + 1 + 1) 34 52 _ _ (0, 0) (0, 0) _ _ rfl HA.out Try.underlying34 rfl (by kernel_rfl) rfl HM.out Try.underlying52 rfl (by kernel_rfl)) rfl ?_
    exact ⟨_, rfl, HQ.out, HB.out⟩
/-! ### governorref16_All: function 47 -/
/-- One block that a function reads. -/
structure One (w W : World) (a : Array Value) (t : Nat) : Prop where
 hA : W.heap[w.heap.size]? = some (.cells a t (0, 0))
 hW : Below w.heap.size w W
theorem One.drewN {w W : World} {a : Array Value} {t : Nat} (h : One w W a t) (n : Nat) : One w (W.drewN n) a t := ⟨blk_drewN h.hA n, pw_below_drewN h.hW n⟩
theorem One.below {w W W' : World} {a : Array Value} {t : Nat} (h : One w W a t) (hb : Below W.heap.size W W') : One w W' a t := ⟨blk_below h.hA hb, below_step h.hW hb⟩
theorem one_mk (w : World) (a : Array Value) (t : Nat) : One w (w.alloc (.cells a t)) a t := ⟨blk_new w _, below_alloc (Below.refl _ _) _⟩
theorem wr_len {n : Nat} {i : Int} (h : n < 140737488355328) (h0 : 0 ≤ i) (h1 : i < (n : Int)) : wrap64 (i + 1) = i + 1 := by unfold wrap64; omega
def governorref16_All.f (a0_0 : Int) (l0_1 : List (Int)) (a0_2 : Int) (a0_3 : Int) : Option Int := if l0_1.length < 140737488355328 then some (allL a0_0 l0_1) else none
set_option maxHeartbeats 8000000 in
set_option maxRecDepth 100000 in
theorem governorref16_All.calls (a0_0 : Int) (A0_1 : Option Addr) (c0_1 : Nat) (l0_1 : List (Int)) (a0_2 : Int) (a0_3 : Int) (r : Int) (w : World) (hr0_1 : Kd.C (Kd.int .i64) w A0_1 l0_1.length l0_1) (hc0_1 : l0_1.length ≤ c0_1) (h : governorref16_All.f a0_0 l0_1 a0_2 a0_3 = some r) :
  Calls Try.prog 47 #[.agg #[.int .i64 a0_0, .slice A0_1 l0_1.length c0_1, .int .i64 a0_2, .int .i64 a0_3]] w fun e w' => e = .returned (.int .i64 r) ∧ Below w.heap.size w w' := by
 have hu34 := Try.underlying34
 unfold governorref16_All.f at h
 by_cases hN : l0_1.length < 140737488355328
 rotate_left
 ·rw [if_neg hN] at h; cases h
 rw [if_pos hN] at h
 have hr := Aside0.mk (Option.some.inj h)
 have HN := Aside0.mk hN
 have HR := Aside0.mk hr0_1
 clear h hN hr0_1 hc0_1
 go_enter Try.func47, Try.ntmps47
 go_upto_region 1 with (fail)
 have ht := one_mk w #[.int .i64 a0_0, .slice A0_1 l0_1.length c0_1, .int .i64 a0_2, .int .i64 a0_3] 34
 generalize w.alloc _ = W at ht ⊢
 have xa := blk_cell ht.hA
 have HT := Aside0.mk ht
 clear ht
 go_wp2
 go_loopw [3, 4] (fun va v wr => ∃ a i : Int, 0 ≤ i ∧ i ≤ (l0_1.length : Int) ∧ va = .int .i64 a ∧ v = .int .i64 i ∧ Aside0 (allL a (l0_1.drop i.toNat) = r) ∧ Aside0 (One w wr #[.int .i64 a0_0, .slice A0_1 l0_1.length c0_1, .int .i64 a0_2, .int .i64 a0_3] 34)) (fun _ v _ => ((l0_1.length : Int) - intOf v).toNat)
 case atStart => exact ⟨_, 0, Int.le_refl _, by omega, rfl, rfl, hr, HT⟩
 case round =>
  obtain ⟨a, i, h0, hi, rfl, rfl, hr, HT⟩ := hrel
  have xa := blk_cell HT.out.hA
  by_cases hlt : i < (l0_1.length : Int)
  ·obtain ⟨ad0, e0, u0⟩ := Kd.at_int (Kd.C_below HR.out HT.out.hW) i h0 hlt
   cases e0
   have e1 : l0_1.drop i.toNat = rd l0_1 i :: l0_1.drop (i + 1).toNat := by
    rw [List.drop_eq_getElem_cons (show i.toNat < l0_1.length by omega), show (i + 1).toNat = i.toNat + 1 by omega]
    unfold rd; rw [List.getD_eq_getElem?_getD, List.getElem?_eq_getElem (by omega)]; rfl
   replace hr := Aside0.mk ((congrArg (allL a) e1).symm.trans hr.out)
   have hw := wr_len HN.out h0 hlt
   clear e1
   go_wp2
   repeat (go_quiet (fail); try go_wp2)
   go_roundw
   case measure => simp [intOf, hw]; omega
   case rel => exact ⟨_, i + 1, by omega, by omega, rfl, by first | rfl | simp [hw], hr, by first | exact HT | exact ⟨HT.out.drewN _⟩⟩
  ·have e1 : l0_1.drop i.toNat = [] := List.drop_of_length_le (by omega)
   replace hr := Aside0.mk ((congrArg (allL a) e1).symm.trans hr.out)
   clear e1
   go_wp2
   go_ret
   exact ⟨by rw [← hr.out]; rfl, HT.out.hW⟩
/-! ### governorref09_Policy: function 24 -/
def governorref09_Policy.f (k : Nat) (a0_0 : Int) (a0_1 : Int) (l0_2 : List (S56)) (a0_3 : Int) (a0_4 : Int) (a0_5 : Int) (a0_6 : Int) (l0_7 : List (S58)) : Option Bool := (if a0_0 = 1 then ((governorref09_within.f a0_1 1 1000000000).bind fun t => (if t = true then (governorref09_none.f a0_0 a0_1 l0_2 a0_3 a0_4 a0_5 a0_6 l0_7 false true true true) else (some false))) else (if a0_0 = 2 then ((governorref09_bands.f k l0_2).bind fun t => (if t = true then (governorref09_none.f a0_0 a0_1 l0_2 a0_3 a0_4 a0_5 a0_6 l0_7 true false true true) else (some false))) else (if a0_0 = 3 then ((governorref09_within.f a0_3 (-1000000000) 1000000000).bind fun t => (if t = true then ((governorref09_within.f a0_4 (-1000000000) 1000000000).bind fun t => (if t = true then ((governorref09_within.f a0_5 (-1000000000) 1000000000).bind fun t => (if t = true then ((governorref09_within.f a0_1 1 1000000000).bind fun t => (if t = true then (governorref09_none.f a0_0 a0_1 l0_2 a0_3 a0_4 a0_5 a0_6 l0_7 false true false true) else (some false))) else (some false))) else (some false))) else (some false))) else (if a0_0 = 4 then ((governorref09_slots.f k l0_7 a0_6).bind fun t => (if t = true then (governorref09_none.f a0_0 a0_1 l0_2 a0_3 a0_4 a0_5 a0_6 l0_7 true true true false) else (some false))) else (some false)))))
set_option maxHeartbeats 8000000 in
set_option maxRecDepth 100000 in
theorem governorref09_Policy.calls (k : Nat) (a0_0 : Int) (a0_1 : Int) (A0_2 : Option Addr) (c0_2 : Nat) (l0_2 : List (S56)) (a0_3 : Int) (a0_4 : Int) (a0_5 : Int) (a0_6 : Int) (A0_7 : Option Addr) (c0_7 : Nat) (l0_7 : List (S58)) (r : Bool) (w : World) (hr0_2 : Kd.C k56 w A0_2 l0_2.length l0_2) (hc0_2 : l0_2.length ≤ c0_2) (hr0_7 : Kd.C k58 w A0_7 l0_7.length l0_7) (hc0_7 : l0_7.length ≤ c0_7) (h : governorref09_Policy.f k a0_0 a0_1 l0_2 a0_3 a0_4 a0_5 a0_6 l0_7 = some r) :
  Calls Try.prog 24 #[.agg #[.int .i64 a0_0, .int .i64 a0_1, .slice A0_2 l0_2.length c0_2, .int .i64 a0_3, .int .i64 a0_4, .int .i64 a0_5, .int .i64 a0_6, .slice A0_7 l0_7.length c0_7]] w fun e w' => e = .returned (.bool r) ∧ Below w.heap.size w w' := by
 have hu0 := Try.underlying27
 unfold governorref09_Policy.f at h
 have HR0_2 := Aside0.mk hr0_2
 have HC0_2 := Aside0.mk hc0_2
 clear hr0_2 hc0_2
 have HR0_7 := Aside0.mk hr0_7
 have HC0_7 := Aside0.mk hc0_7
 clear hr0_7 hc0_7
 go_enter Try.func24, Try.ntmps24
 go_upto_region 1 with (fail)
 have ht := one_mk w #[.int .i64 a0_0, .int .i64 a0_1, .slice A0_2 l0_2.length c0_2, .int .i64 a0_3, .int .i64 a0_4, .int .i64 a0_5, .int .i64 a0_6, .slice A0_7 l0_7.length c0_7] 27
 generalize w.alloc _ = W at ht ⊢
 have xa := blk_cell ht.hA
 have HT := Aside0.mk ht
 clear ht
 by_cases k1 : a0_0 = 1
 case' pos =>
  rw [if_pos k1] at h
  subst k1
  obtain ⟨b0, f0, h⟩ := Option.bind_eq_some_iff.1 h
  have F0 := Aside0.mk f0
  clear f0
  cases b0
  case' false =>
   rw [if_neg (by decide)] at h
   cases h
  case' true =>
   rw [if_pos rfl] at h
   have F1 := Aside0.mk h
   clear h
   cases r
 case' neg =>
  rw [if_neg k1] at h
  replace k1 : (a0_0 == 1) = false := by simpa using k1
  by_cases k2 : a0_0 = 2
  case' pos =>
   rw [if_pos k2] at h
   subst k2
   obtain ⟨b0, f0, h⟩ := Option.bind_eq_some_iff.1 h
   have F0 := Aside0.mk f0
   clear f0
   cases b0
   case' false =>
    rw [if_neg (by decide)] at h
    cases h
   case' true =>
    rw [if_pos rfl] at h
    have F1 := Aside0.mk h
    clear h
    cases r
  case' neg =>
   rw [if_neg k2] at h
   replace k2 : (a0_0 == 2) = false := by simpa using k2
   by_cases k3 : a0_0 = 3
   case' pos =>
    rw [if_pos k3] at h
    subst k3
    obtain ⟨b0, f0, h⟩ := Option.bind_eq_some_iff.1 h
    have F0 := Aside0.mk f0
    clear f0
    cases b0
    case' false =>
     rw [if_neg (by decide)] at h
     cases h
    case' true =>
     rw [if_pos rfl] at h
     obtain ⟨b1, f1, h⟩ := Option.bind_eq_some_iff.1 h
     have F1 := Aside0.mk f1
     clear f1
     cases b1
     case' false =>
      rw [if_neg (by decide)] at h
      cases h
     case' true =>
      rw [if_pos rfl] at h
      obtain ⟨b2, f2, h⟩ := Option.bind_eq_some_iff.1 h
      have F2 := Aside0.mk f2
      clear f2
      cases b2
      case' false =>
       rw [if_neg (by decide)] at h
       cases h
      case' true =>
       rw [if_pos rfl] at h
       obtain ⟨b3, f3, h⟩ := Option.bind_eq_some_iff.1 h
       have F3 := Aside0.mk f3
       clear f3
       cases b3
       case' false =>
        rw [if_neg (by decide)] at h
        cases h
       case' true =>
        rw [if_pos rfl] at h
        have F4 := Aside0.mk h
        clear h
        cases r
   case' neg =>
    rw [if_neg k3] at h
    replace k3 : (a0_0 == 3) = false := by simpa using k3
    by_cases k4 : a0_0 = 4
    case' pos =>
     rw [if_pos k4] at h
     subst k4
     obtain ⟨b0, f0, h⟩ := Option.bind_eq_some_iff.1 h
     have F0 := Aside0.mk f0
     clear f0
     cases b0
     case' false =>
      rw [if_neg (by decide)] at h
      cases h
     case' true =>
      rw [if_pos rfl] at h
      have F1 := Aside0.mk h
      clear h
      cases r
    case' neg =>
     rw [if_neg k4] at h
     replace k4 : (a0_0 == 4) = false := by simpa using k4
     cases h
 all_goals
  go_wp2_with (first
   | (go_at_call 23; refine (governorref09_within.calls _ _ _ _ _ (by first | exact F0.out | exact F1.out | exact F2.out | exact F3.out | exact F4.out)).mono ?_; rintro e_ w1 ⟨rfl, hb⟩; replace HT := Aside0.mk (HT.out.below hb.below); clear hb xa; have xa := blk_cell HT.out.hA)
   | (go_at_call 43; refine (governorref09_none.calls _ _ _ _ _ _ _ _ _ _ _ _ _ _ _ _ _ _ (Kd.C_below HR0_2.out HT.out.hW) HC0_2.out (Kd.C_below HR0_7.out HT.out.hW) HC0_7.out (by first | exact F0.out | exact F1.out | exact F2.out | exact F3.out | exact F4.out)).mono ?_; rintro e_ w1 ⟨rfl, hb⟩; replace HT := Aside0.mk (HT.out.below hb); clear hb xa; have xa := blk_cell HT.out.hA)
   | (go_at_call 45; refine (governorref09_bands.calls k _ _ _ _ _ (Kd.C_below HR0_2.out HT.out.hW) HC0_2.out (by first | exact F0.out | exact F1.out | exact F2.out | exact F3.out | exact F4.out)).mono ?_; rintro e_ w1 ⟨rfl, hb⟩; replace HT := Aside0.mk (HT.out.below hb); clear hb xa; have xa := blk_cell HT.out.hA)
   | (go_at_call 46; refine (governorref09_slots.calls k _ _ _ _ _ _ (Kd.C_below HR0_7.out HT.out.hW) HC0_7.out (by first | exact F0.out | exact F1.out | exact F2.out | exact F3.out | exact F4.out)).mono ?_; rintro e_ w1 ⟨rfl, hb⟩; replace HT := Aside0.mk (HT.out.below hb); clear hb xa; have xa := blk_cell HT.out.hA))
  go_ret
  exact ⟨rfl, HT.out.hW⟩
end Go.Proofs.Ytefgoffaidjiaaa.PAll
namespace Go.Proofs.Ytefgoffaidjiaaa.PAll
open Go.RowKit Go.Proofs.YtefgoffaidjiaaaW.PrintWords Go.Proofs.YtefgoffaidjiaaaW.PrintLast Go.Proofs.YtefgoffaidjiaaaW.PrintMore
set_option linter.unusedVariables false
set_option linter.unusedSimpArgs false
theorem wfu16 {n : Int} (h : (Lit.int .u16 n).wf = true) : 0 ≤ n ∧ n ≤ 65535 := by
  have h' := (Bool.and_eq_true _ _).mp h
  exact ⟨of_decide_eq_true h'.1, of_decide_eq_true h'.2⟩
theorem wr {n : Int} (h0 : -9223372036854775808 ≤ n) (h1 : n ≤ 9223372036854775807) : wrap64 n = n := IntWalk.wrap64_in n ⟨h0, h1⟩
theorem tmod_bounds (t p : Int) (hp : 0 < p) : -p < Int.tmod t p ∧ Int.tmod t p < p := by
  refine ⟨?_, Int.tmod_lt_of_pos t hp⟩
  have h := Int.tmod_lt_of_pos (-t) hp
  rw [Int.neg_tmod] at h
  omega
/-- Division towards 0, by a number of which omega knows what it is. -/
theorem tdiv_pos {a c : Int} (h : 0 ≤ a) : Int.tdiv a c = a / c := Int.tdiv_eq_ediv_of_nonneg h
theorem tdiv_ng {a c : Int} (h : a ≤ 0) : Int.tdiv a c = -((-a) / c) := by
  have e : Int.tdiv a c = -(Int.tdiv (-a) c) := by rw [Int.neg_tdiv, Int.neg_neg]
  rw [e, tdiv_pos (by omega)]
theorem tdivB {x b N : Int} (h0 : -N ≤ x) (h1 : x ≤ N) : -N ≤ Int.tdiv x b ∧ Int.tdiv x b ≤ N := by
  have h := Int.natAbs_tdiv x b
  have h2 : (Int.tdiv x b).natAbs ≤ x.natAbs := by rw [h]; exact Nat.div_le_self _ _
  omega
theorem sat_eq (a : Int) : fixed_Sat.f a = some (satI a) := rfl
theorem satI_big {n : Int} (h : 1000000000 ≤ n) : satI n = 1000000000 := by unfold satI mx mn; omega
theorem satI_small {n : Int} (h : n ≤ -1000000000) : satI n = -1000000000 := by unfold satI mx mn; omega
def upI (x : Int) : Int := (x + 1000000999) / 1000 - 1000000
theorem up_eq (a : Int) : fixed_Up.f a = some (upI (satI a)) := by
  have h0 := satI_lo a
  have h1 := satI_hi a
  unfold fixed_Up.f upI
  rw [sat_eq]
  simp only [Option.bind_some]
  rw [wr (n := satI a + 1000000000) (by omega) (by omega), wr (n := satI a + 1000000000 + 1000) (by omega) (by omega), wr (n := satI a + 1000000000 + 1000 - 1) (by omega) (by omega), tdiv_pos (by omega), wr (n := (satI a + 1000000000 + 1000 - 1) / 1000) (by omega) (by omega), wr (by omega) (by omega)]
  congr 1
  omega
theorem nearI_lin {x : Int} (h0 : -1000000000 ≤ x) (h1 : x ≤ 1000000000) : nearI x = if x < 0 then -((-x + 500) / 1000) else (x + 500) / 1000 := by
  unfold nearI
  by_cases c : x < 0
  · rw [if_pos c, if_pos c, tdiv_pos (by omega)]
  · rw [if_neg c, if_neg c, tdiv_pos (by omega)]
/-- How many are wanted, of a load times replicas P and a target t. -/
def FT (t P : Int) : Int := mn (upI (mn (mn P 1000000000 * 1000 / t) 1000000000)) 1000
def cl (n lo hi : Int) : Int := mn (mx n lo) hi
theorem into_eq (n lo hi : Int) (h : lo ≤ hi) : track_into_int.f n lo hi = some (cl n lo hi) := by
  unfold track_into_int.f cl mx mn
  by_cases h1 : n < lo
  · rw [if_pos h1]; congr 1; omega
  · rw [if_neg h1]
    by_cases h2 : n > hi
    · rw [if_pos h2]; congr 1; omega
    · rw [if_neg h2]; congr 1; omega
theorem into64_eq (n lo hi : Int) (h : lo ≤ hi) : track_into_int64.f n lo hi = some (cl n lo hi) := by
  unfold track_into_int64.f cl mx mn
  by_cases h1 : n < lo
  · rw [if_pos h1]; congr 1; omega
  · rw [if_neg h1]
    by_cases h2 : n > hi
    · rw [if_pos h2]; congr 1; omega
    · rw [if_neg h2]; congr 1; omega
theorem cl_in (n lo hi : Int) (h : lo ≤ hi) : lo ≤ cl n lo hi ∧ cl n lo hi ≤ hi := by unfold cl mx mn; omega
theorem FT_in {t P : Int} (ht : 1 ≤ t) (hP : 0 ≤ P) : 0 ≤ FT t P ∧ FT t P ≤ 1000 := by
  have h : 0 ≤ mn P 1000000000 * 1000 / t := Int.ediv_nonneg (by unfold mn; omega) (by omega)
  unfold FT
  generalize mn P 1000000000 * 1000 / t = d at h
  unfold upI mn
  omega
theorem trackWant_eq (t c u : Int) : track_Want.f t c u = some (FT (cl t 1 1000000000) (cl c 0 1000 * cl u 0 1000000000)) := by
  have hc := cl_in c 0 1000 (by decide)
  have hu := cl_in u 0 1000000000 (by decide)
  have ht := cl_in t 1 1000000000 (by decide)
  unfold track_Want.f
  simp only [into_eq c 0 1000 (by decide), into64_eq u 0 1000000000 (by decide), into64_eq t 1 1000000000 (by decide), Option.bind_some]
  generalize cl c 0 1000 = x at hc ⊢
  generalize cl u 0 1000000000 = v at hu ⊢
  generalize cl t 1 1000000000 = s at ht ⊢
  have M : ∀ a b, fixed_Mul.f a b = some (satI (mulI (satI a) (satI b))) := fun _ _ => rfl
  have D : ∀ a b, fixed_Div.f a b = some (satI (divI (satI a) (satI b))) := fun _ _ => rfl
  have hP0 : 0 ≤ x * v := Int.mul_nonneg hc.1 hu.1
  have e1 : mulI (satI (1000 * x)) (satI v) = x * v := by
    rw [satI_in (by omega) (by omega), satI_in (by omega) (by omega)]
    unfold mulI
    rw [Int.mul_assoc, Int.mul_comm 1000 (x * v)]
    exact Int.mul_tdiv_cancel _ (by decide)
  rw [wr (n := 1000 * x) (by omega) (by omega)]
  simp only [M, D, Option.bind_some, e1, up_eq]
  generalize x * v = P at hP0 ⊢
  have e2 : satI P = mn P 1000000000 := by unfold satI mx mn; omega
  have e3 : 0 ≤ mn P 1000000000 ∧ mn P 1000000000 ≤ 1000000000 := by unfold mn; omega
  rw [e2, satI_in (n := mn P 1000000000) (by omega) (by omega), satI_in (n := s) (by omega) (by omega)]
  unfold divI
  rw [if_neg (by omega), tdiv_pos (by omega)]
  unfold FT
  have h : 0 ≤ mn P 1000000000 * 1000 / s := Int.ediv_nonneg (by omega) (by omega)
  generalize mn P 1000000000 * 1000 / s = d at h
  have e4 : satI d = mn d 1000000000 := by unfold satI mx mn; omega
  have e5 : satI (mn d 1000000000) = mn d 1000000000 := by unfold satI mx mn; omega
  rw [e4, e5, into_eq _ _ _ (by decide)]
  simp only [Option.bind_some]
  congr 1
  unfold cl upI mx mn
  omega
theorem tmod_emod (t p : Int) : Int.tmod t p % p = t % p := by
  have h : Int.tmod t p = t - p * Int.tdiv t p := by have := Int.tmod_add_mul_tdiv t p; omega
  rw [h, Int.sub_mul_emod_self_left]
theorem at_eq {p t : Int} (hp1 : 1 ≤ p) (hp2 : p ≤ 1099511627776) : sched_At.f p t = some (t % p) := by
  unfold sched_At.f
  rw [if_neg (by omega)]
  have hb := tmod_bounds t p (by omega)
  rw [wr (by omega) (by omega), Int.tmod_eq_emod_of_nonneg (by omega), Int.add_emod_right, tmod_emod]
theorem schedWant_eq {p : Int} {l : List S58} {t : Int} (hp1 : 1 ≤ p) (hp2 : p ≤ 1099511627776) : sched_Want.f p l t = some (backS l (t % p)) := by
  unfold sched_Want.f
  rw [at_eq hp1 hp2]
  rfl
theorem backS_nil (a : Int) : backS [] a = 0 := rfl
theorem backS_snoc (l : List S58) (s : S58) (a : Int) : backS (l ++ [s]) a = if s.f0 ≤ a then s.f1 else backS l a := by
  unfold backS
  rw [List.reverse_append]
  by_cases h : s.f0 ≤ a <;> simp [h]
theorem rd_at (l : List S58) (i : Nat) (h : i < l.length) : rd_T58 l (i : Int) = l[i] := by
  simp [rd_T58, h]
theorem take_snoc {α : Type} (l : List α) (i : Nat) (h : i < l.length) : l.take (i + 1) = l.take i ++ [l[i]] := by
  rw [List.take_succ_eq_append_getElem h]
/-- WHAT THE GUARD SAYS. -/
structure RightP (p : Int) (l : List S58) : Prop where
  p1 : 1 ≤ p
  p2 : p ≤ 1099511627776
  n1 : 1 ≤ l.length
  n8 : l.length ≤ 8
  z : (rd_T58 l 0).f0 = 0
  lo : ∀ i : Int, 0 ≤ i → i < (l.length : Int) → 0 ≤ (rd_T58 l i).f0 ∧ (rd_T58 l i).f0 ≤ p - 1
  up : ∀ i : Int, 0 < i → i < (l.length : Int) → (rd_T58 l (i - 1)).f0 < (rd_T58 l i).f0
  nn : ∀ i : Int, 0 ≤ i → i < (l.length : Int) → 0 ≤ (rd_T58 l i).f1 ∧ (rd_T58 l i).f1 ≤ 1000
theorem withinP_eq (a b c : Int) : governorref09_within.f a b c = some (decide (b ≤ a) && decide (a ≤ c)) := by
  unfold governorref09_within.f
  by_cases h : b ≤ a <;> simp [h]
theorem slots_loop (l : List S58) (p : Int) (hp1 : 1 ≤ p) (hp2 : p ≤ 1099511627776) (hl : l.length ≤ 8) (d : Nat) : ∀ (k : Nat) (i : Int), 0 ≤ i → i + (d : Int) = (l.length : Int) → d < k →
    ∃ b, governorref09_slots.l0 k l p i = some b ∧ (b = true → ∀ j : Int, i ≤ j → j < (l.length : Int) → (0 ≤ (rd_T58 l j).f0 ∧ (rd_T58 l j).f0 ≤ p - 1) ∧ (0 < j → (rd_T58 l (j - 1)).f0 < (rd_T58 l j).f0) ∧ 0 ≤ (rd_T58 l j).f1 ∧ (rd_T58 l j).f1 ≤ 1000) := by
  induction d with
  | zero =>
    intro k i h0 hd hk
    obtain ⟨k, rfl⟩ : ∃ m, k = m + 1 := ⟨k - 1, by omega⟩
    simp only [governorref09_slots.l0]
    rw [if_neg (by omega)]
    exact ⟨true, rfl, fun _ j h1 h2 => by omega⟩
  | succ d ih =>
    intro k i h0 hd hk
    obtain ⟨k, rfl⟩ : ∃ m, k = m + 1 := ⟨k - 1, by omega⟩
    simp only [governorref09_slots.l0, withinP_eq, Option.bind_some]
    rw [if_pos (by omega), if_pos h0, wr (n := p - 1) (by omega) (by omega), wr (n := i + 1) (by omega) (by omega), wr (n := i - 1) (by omega) (by omega)]
    obtain ⟨b, hb, hP⟩ := ih k (i + 1) (by omega) (by omega) (by omega)
    by_cases c1 : (decide (0 ≤ (rd_T58 l i).f0) && decide ((rd_T58 l i).f0 ≤ p - 1)) = true
    · rw [if_pos c1]
      by_cases c2 : (decide (0 ≤ (rd_T58 l i).f1) && decide ((rd_T58 l i).f1 ≤ 1000)) = true
      · by_cases c3 : i > 0
        · rw [if_pos c3, if_pos (by omega), if_pos (by omega)]
          by_cases c4 : (rd_T58 l i).f0 ≤ (rd_T58 l (i - 1)).f0
          · rw [if_pos c4]; exact ⟨false, rfl, fun h => by cases h⟩
          · rw [if_neg c4, if_pos c2]
            refine ⟨b, hb, fun h j h1 h2 => ?_⟩
            by_cases e : j = i
            · subst e
              simp at c1 c2
              exact ⟨c1, fun _ => by omega, c2⟩
            · exact hP h j (by omega) h2
        · rw [if_neg c3, if_pos c2]
          refine ⟨b, hb, fun h j h1 h2 => ?_⟩
          by_cases e : j = i
          · subst e
            simp at c1 c2
            exact ⟨c1, fun _ => by omega, c2⟩
          · exact hP h j (by omega) h2
      · by_cases c3 : i > 0
        · rw [if_pos c3, if_pos (by omega), if_pos (by omega)]
          by_cases c4 : (rd_T58 l i).f0 ≤ (rd_T58 l (i - 1)).f0
          · rw [if_pos c4]; exact ⟨false, rfl, fun h => by cases h⟩
          · rw [if_neg c4, if_neg c2]; exact ⟨false, rfl, fun h => by cases h⟩
        · rw [if_neg c3, if_neg c2]; exact ⟨false, rfl, fun h => by cases h⟩
    · rw [if_neg c1]; exact ⟨false, rfl, fun h => by cases h⟩
theorem slots_tells (l : List S58) (p : Int) (k : Nat) (hk : 20 ≤ k) (hl : l.length ≤ 8) : ∃ b, governorref09_slots.f k l p = some b ∧ (b = true → RightP p l) := by
  obtain ⟨k, rfl⟩ : ∃ m, k = m + 1 := ⟨k - 1, by omega⟩
  unfold governorref09_slots.f
  simp only [governorref09_slots.j0, withinP_eq, Option.bind_some]
  by_cases c1 : (l.length : Int) < 1
  · rw [if_pos c1]; exact ⟨false, by simp, fun h => by cases h⟩
  · rw [if_neg c1, if_neg (by omega), if_pos (by omega)]
    by_cases c2 : (rd_T58 l 0).f0 = 0
    · rw [if_pos c2]
      by_cases c3 : 1 ≤ p ∧ p ≤ 1099511627776
      · obtain ⟨b, hb, hP⟩ := slots_loop l p c3.1 c3.2 hl l.length k 0 (by omega) (by omega) (by omega)
        refine ⟨b, by simp [c3.1, c3.2, hb], fun h => ⟨c3.1, c3.2, by omega, hl, c2, fun i h0 h1 => (hP h i h0 h1).1, fun i h0 h1 => (hP h i (by omega) h1).2.1 h0, fun i h0 h1 => (hP h i h0 h1).2.2⟩⟩
      · refine ⟨false, ?_, fun h => by cases h⟩
        have : (decide (1 ≤ p) && decide (p ≤ 1099511627776)) = false := by
          rw [Bool.eq_false_iff]; intro h; simp at h; exact c3 h
        simp [this]
    · rw [if_neg c2]; exact ⟨false, by simp, fun h => by cases h⟩
theorem withinS_eq (a b c : Int) : governorref09_within.f a b c = some (decide (b ≤ a) && decide (a ≤ c)) := by
  unfold governorref09_within.f
  by_cases h : b ≤ a <;> simp [h]
/-- WHAT THE GUARD SAYS. -/
structure BandsP (l : List S56) : Prop where
  n1 : 1 ≤ l.length
  n8 : l.length ≤ 8
  lo : ∀ i : Int, 0 ≤ i → i < (l.length : Int) → 0 ≤ (rd_T56 l i).f0 ∧ (rd_T56 l i).f0 ≤ 1000000000
  up : ∀ i : Int, 0 < i → i < (l.length : Int) → (rd_T56 l (i - 1)).f0 < (rd_T56 l i).f0
  dd : ∀ i : Int, 0 ≤ i → i < (l.length : Int) → -1000 ≤ (rd_T56 l i).f1 ∧ (rd_T56 l i).f1 ≤ 1000
theorem bands_loop (l : List S56) (hl : l.length ≤ 8) (d : Nat) : ∀ (k : Nat) (i : Int), 0 ≤ i → i + (d : Int) = (l.length : Int) → d < k →
    ∃ b, governorref09_bands.l0 k l i = some b ∧ (b = true → 1 ≤ l.length ∧ ∀ j : Int, i ≤ j → j < (l.length : Int) → (0 ≤ (rd_T56 l j).f0 ∧ (rd_T56 l j).f0 ≤ 1000000000) ∧ (0 < j → (rd_T56 l (j - 1)).f0 < (rd_T56 l j).f0) ∧ -1000 ≤ (rd_T56 l j).f1 ∧ (rd_T56 l j).f1 ≤ 1000) := by
  induction d with
  | zero =>
    intro k i h0 hd hk
    obtain ⟨k, rfl⟩ : ∃ m, k = m + 1 := ⟨k - 1, by omega⟩
    simp only [governorref09_bands.l0]
    rw [if_neg (by omega)]
    by_cases c : (l.length : Int) ≥ 1
    · rw [if_pos c]; exact ⟨_, rfl, fun _ => ⟨by omega, fun j h1 h2 => by omega⟩⟩
    · rw [if_neg c]; exact ⟨false, rfl, fun h => by cases h⟩
  | succ d ih =>
    intro k i h0 hd hk
    obtain ⟨k, rfl⟩ : ∃ m, k = m + 1 := ⟨k - 1, by omega⟩
    simp only [governorref09_bands.l0, withinS_eq, Option.bind_some]
    rw [if_pos (by omega), if_pos h0, wr (n := i + 1) (by omega) (by omega), wr (n := i - 1) (by omega) (by omega)]
    obtain ⟨b, hb, hP⟩ := ih k (i + 1) (by omega) (by omega) (by omega)
    by_cases c1 : (decide (0 ≤ (rd_T56 l i).f0) && decide ((rd_T56 l i).f0 ≤ 1000000000)) = true
    · rw [if_pos c1]
      by_cases c2 : (decide (-1000 ≤ (rd_T56 l i).f1) && decide ((rd_T56 l i).f1 ≤ 1000)) = true
      · by_cases c3 : i > 0
        · rw [if_pos c3, if_pos (by omega), if_pos (by omega)]
          by_cases c4 : (rd_T56 l i).f0 ≤ (rd_T56 l (i - 1)).f0
          · rw [if_pos c4]; exact ⟨false, rfl, fun h => by cases h⟩
          · rw [if_neg c4, if_pos c2]
            refine ⟨b, hb, fun h => ⟨by omega, fun j h1 h2 => ?_⟩⟩
            by_cases e : j = i
            · subst e
              simp at c1 c2
              exact ⟨c1, fun _ => by omega, c2⟩
            · exact (hP h).2 j (by omega) h2
        · rw [if_neg c3, if_pos c2]
          refine ⟨b, hb, fun h => ⟨by omega, fun j h1 h2 => ?_⟩⟩
          by_cases e : j = i
          · subst e
            simp at c1 c2
            exact ⟨c1, fun _ => by omega, c2⟩
          · exact (hP h).2 j (by omega) h2
      · by_cases c3 : i > 0
        · rw [if_pos c3, if_pos (by omega), if_pos (by omega)]
          by_cases c4 : (rd_T56 l i).f0 ≤ (rd_T56 l (i - 1)).f0
          · rw [if_pos c4]; exact ⟨false, rfl, fun h => by cases h⟩
          · rw [if_neg c4, if_neg c2]; exact ⟨false, rfl, fun h => by cases h⟩
        · rw [if_neg c3, if_neg c2]; exact ⟨false, rfl, fun h => by cases h⟩
    · rw [if_neg c1]; exact ⟨false, rfl, fun h => by cases h⟩
theorem bands_tells (l : List S56) (k : Nat) (hk : 20 ≤ k) (hl : l.length ≤ 8) : ∃ b, governorref09_bands.f k l = some b ∧ (b = true → BandsP l) := by
  obtain ⟨b, hb, hP⟩ := bands_loop l hl l.length k 0 (by omega) (by omega) (by omega)
  exact ⟨b, hb, fun h => ⟨(hP h).1, hl, fun i h0 h1 => ((hP h).2 i h0 h1).1, fun i h0 h1 => ((hP h).2 i (by omega) h1).2.1 h0, fun i h0 h1 => ((hP h).2 i h0 h1).2.2⟩⟩
theorem rdB_at (l : List S56) (i : Nat) (h : i < l.length) : rd_T56 l (i : Int) = l[i] := by
  simp [rd_T56, h]
theorem bands_mono {l : List S56} (R : BandsP l) (i : Nat) (d : Nat) : ∀ (h : i + 1 + d < l.length), l[i].f0 < l[i + 1 + d].f0 := by
  induction d with
  | zero =>
    intro h
    have h2 := R.up ((i + 1 : Nat) : Int) (by omega) (by omega)
    rw [show ((i + 1 : Nat) : Int) - 1 = ((i : Nat) : Int) by omega, rdB_at l i (by omega), rdB_at l (i + 1) (by omega)] at h2
    exact h2
  | succ d ih =>
    intro h
    have h1 := ih (by omega)
    have h2 := R.up ((i + 1 + d + 1 : Nat) : Int) (by omega) (by omega)
    rw [show ((i + 1 + d + 1 : Nat) : Int) - 1 = ((i + 1 + d : Nat) : Int) by omega, rdB_at l (i + 1 + d) (by omega), rdB_at l (i + 1 + d + 1) (by omega)] at h2
    have h3 : l[i + 1 + (d + 1)] = l[i + 1 + d + 1] := rfl
    rw [h3]
    omega
theorem bands_sorted {l : List S56} (R : BandsP l) : SortedS l := by
  refine ⟨by have := R.n8; omega, List.pairwise_iff_getElem.2 fun i j hi hj hij => ?_⟩
  obtain ⟨d, rfl⟩ : ∃ d, j = i + 1 + d := ⟨j - i - 1, by omega⟩
  exact bands_mono R i d hj
theorem cut_exists {l : List S56} (hs : SortedS l) (u : Int) (d : Nat) : ∀ i j : Int, j - i = (d : Int) → 0 ≤ i → j ≤ (l.length : Int) → cutS l u i j → ∃ c, cutS l u c c ∧ 0 ≤ c ∧ c ≤ (l.length : Int) := by
  induction d with
  | zero => intro i j hd h0 hj hc; obtain rfl : i = j := by omega
            exact ⟨i, hc, h0, hj⟩
  | succ d ih =>
    intro i j hd h0 hj hc
    by_cases h : (rd_T56 l i).f0 ≤ u
    · exact ih (i + 1) j (by omega) (by omega) hj (cutS_le hs hc h0 (by omega) h)
    · exact ⟨i, cutS_gt hs hc h0 (by omega) (by omega), h0, by omega⟩
/-- THE BAND THAT IS FOUND: the bands up to it, and no others, are not above. -/
theorem find_iff {l : List S56} (hs : SortedS l) (u : Int) (i : Int) (h0 : 0 ≤ i) (hi : i < (l.length : Int)) : (rd_T56 l i).f0 ≤ u ↔ i ≤ findS l u := by
  obtain ⟨c, hc, c0, c1⟩ := cut_exists hs u l.length 0 (l.length : Int) (by omega) (Int.le_refl _) (Int.le_refl _) (cutS_start l u)
  rw [cutS_end hc c0 c1, rdS_at l i h0 hi]
  constructor
  · intro h
    by_cases q : c ≤ i
    · have := hc.2 i.toNat (by omega) (by omega)
      omega
    · omega
  · intro h
    exact hc.1 i.toNat (by omega) (by omega)
theorem stepWant_eq {l : List S56} (hs : SortedS l) (c u : Int) : step_Want.f l c u = some (if findS l u ≥ 0 then cl0 (wrap64 (cl0 c + (rd_T56 l (findS l u)).f1)) else cl0 c) := by
  unfold step_Want.f; rw [if_pos hs]
theorem cl0_in (n : Int) : 0 ≤ cl0 n ∧ cl0 n ≤ 1000 := by unfold cl0 mx mn; omega
theorem cl0_same {n : Int} (h0 : 0 ≤ n) (h1 : n ≤ 1000) : cl0 n = n := by unfold cl0 mx mn; omega
theorem satI_0 : satI 0 = 0 := satI_in (by omega) (by omega)
theorem satI_satI (n : Int) : satI (satI n) = satI n := satI_in (satI_lo n) (satI_hi n)
/-- What is off, what has changed, and the answer. -/
def errI (t u : Int) : Int := satI (satI u - satI t)
def sumI (s e : Int) : Int := satI (satI s + satI e)
def chgI (h : Bool) (p e : Int) : Int := if h = true then satI (satI e - satI p) else 0
def pidW (kp ki kd e s c : Int) : Int := satI (satI (satI (satI (satI (mulI (satI kp) (satI e))) + satI (satI (mulI (satI ki) (satI s))))) + satI (satI (mulI (satI kd) (satI c))))
def pidN (kp ki kd e s c : Int) : Int := mx (-1000) (mn 1000 (nearI (satI (pidW kp ki kd e s c))))
theorem weighed_eq (k : Nat) (a b c : S122) : pid_weighed.f (k + 4) [a, b, c] = some (satI (satI (satI (satI (satI (mulI (satI a.f0) (satI a.f1))) + satI (satI (mulI (satI b.f0) (satI b.f1))))) + satI (satI (mulI (satI c.f0) (satI c.f1))))) := by
  have hA : ∀ a b, fixed_Add.f a b = some (satI (satI a + satI b)) := fun _ _ => rfl
  have hM : ∀ a b, fixed_Mul.f a b = some (satI (mulI (satI a) (satI b))) := fun _ _ => rfl
  have w1 : wrap64 (0 + 1) = 1 := wr (by omega) (by omega)
  have w2 : wrap64 (1 + 1) = 2 := wr (by omega) (by omega)
  have w3 : wrap64 (2 + 1) = 3 := wr (by omega) (by omega)
  have l3 : ((([a, b, c] : List S122).length : Nat) : Int) = 3 := rfl
  have r0 : rd_T122 [a, b, c] 0 = a := rfl
  have r1 : rd_T122 [a, b, c] 1 = b := rfl
  have r2 : rd_T122 [a, b, c] 2 = c := rfl
  unfold pid_weighed.f
  rw [l3]
  simp only [pid_weighed.l0, l3, hA, hM, w1, w2, w3, r0, r1, r2, Option.bind_some]
  rw [if_pos (by omega), if_pos (by omega), if_pos (by omega), if_pos (by omega), if_pos (by omega), if_pos (by omega), if_pos (by omega), if_pos (by omega), if_pos (by omega), if_neg (by omega)]
  simp only [satI_satI, satI_0, Int.zero_add]
theorem pid_eq (k : Nat) (m t : Int) (lb : List S56) (kp ki kd x : Int) (lw : List S58) (s p : Int) (h : Bool) (u : Int) :
    pid_Next.f (k + 4) m t lb kp ki kd x lw s p h u = some (sumI s (errI t u), errI t u, true, pidN kp ki kd (errI t u) (sumI s (errI t u)) (chgI h p (errI t u))) := by
  have hA : ∀ a b, fixed_Add.f a b = some (satI (satI a + satI b)) := fun _ _ => rfl
  have hS : ∀ a b, fixed_Sub.f a b = some (satI (satI a - satI b)) := fun _ _ => rfl
  have hN : ∀ a, fixed_Near.f a = some (nearI (satI a)) := fun _ => rfl
  unfold pid_Next.f
  cases h <;> simp only [hA, hS, hN, weighed_eq, Option.bind_some, reduceIte, Bool.false_eq_true] <;> simp [sumI, errI, pidN, pidW, chgI]
theorem pid_eqk {k : Nat} (hk : 4 ≤ k) (m t : Int) (lb : List S56) (kp ki kd x : Int) (lw : List S58) (s p : Int) (h : Bool) (u : Int) :
    pid_Next.f k m t lb kp ki kd x lw s p h u = some (sumI s (errI t u), errI t u, true, pidN kp ki kd (errI t u) (sumI s (errI t u)) (chgI h p (errI t u))) := by
  obtain ⟨k, rfl⟩ : ∃ m, k = m + 4 := ⟨k - 4, by omega⟩
  exact pid_eq k m t lb kp ki kd x lw s p h u
theorem none_some (a : Int) (b : Int) (c : List S56) (d e f g : Int) (h : List S58) (x1 x2 x3 x4 : Bool) : ∃ r, governorref09_none.f a b c d e f g h x1 x2 x3 x4 = some r := by
  unfold governorref09_none.f
  repeat' split
  all_goals exact ⟨_, rfl⟩
/-- WHAT THE GUARD SAYS. -/
structure PolP (kind : Int) (lb : List S56) (period : Int) (ls : List S58) : Prop where
  b8 : lb.length ≤ 8
  s8 : ls.length ≤ 8
  bands : kind = 2 → BandsP lb
  slots : kind = 4 → RightP period ls
theorem policyR_tells (kd tg : Int) (lb : List S56) (kp ki kdd pe : Int) (ls : List S58) (k : Nat) (hk : 20 ≤ k) (h8 : lb.length ≤ 8) (h9 : ls.length ≤ 8) :
    ∃ b, governorref09_Policy.f k kd tg lb kp ki kdd pe ls = some b ∧ (b = true → (kd = 2 → BandsP lb) ∧ (kd = 4 → RightP pe ls)) := by
  unfold governorref09_Policy.f
  simp only [withinS_eq, Option.bind_some]
  by_cases h1 : kd = 1
  · rw [if_pos h1]
    obtain ⟨r, hr⟩ := none_some kd tg lb kp ki kdd pe ls false true true true
    rw [hr]
    split
    · exact ⟨r, rfl, fun _ => ⟨fun h => by omega, fun h => by omega⟩⟩
    · exact ⟨false, rfl, fun h => by cases h⟩
  · rw [if_neg h1]
    by_cases h2 : kd = 2
    · rw [if_pos h2]
      obtain ⟨b, hb, hP⟩ := bands_tells lb k hk h8
      obtain ⟨r, hr⟩ := none_some kd tg lb kp ki kdd pe ls true false true true
      rw [hb, hr]
      cases b
      · exact ⟨false, by simp, fun h => by cases h⟩
      · exact ⟨r, by simp, fun _ => ⟨fun _ => hP rfl, fun h => by omega⟩⟩
    · rw [if_neg h2]
      by_cases h3 : kd = 3
      · rw [if_pos h3]
        obtain ⟨r, hr⟩ := none_some kd tg lb kp ki kdd pe ls false true false true
        rw [hr]
        repeat' split
        all_goals first | exact ⟨r, rfl, fun _ => ⟨fun h => by omega, fun h => by omega⟩⟩ | exact ⟨false, rfl, fun h => by cases h⟩
      · rw [if_neg h3]
        by_cases h4 : kd = 4
        · rw [if_pos h4]
          obtain ⟨b, hb, hP⟩ := slots_tells ls pe k hk h9
          obtain ⟨r, hr⟩ := none_some kd tg lb kp ki kdd pe ls true true true false
          rw [hb, hr]
          cases b
          · exact ⟨false, by simp, fun h => by cases h⟩
          · exact ⟨r, by simp, fun _ => ⟨fun h => by omega, fun _ => hP rfl⟩⟩
        · rw [if_neg h4]
          exact ⟨false, rfl, fun h => by cases h⟩
theorem backS_in01 {p : Int} {l : List S58} (R : RightP p l) (a : Int) (n : Nat) : n ≤ l.length → 0 ≤ backS (l.take n) a ∧ backS (l.take n) a ≤ 1000 := by
  induction n with
  | zero => intro _; rw [List.take_zero, backS_nil]; omega
  | succ n ih =>
    intro h
    have i := ih (by omega)
    have q := R.nn (n : Int) (by omega) (by omega)
    rw [rd_at l n (by omega)] at q
    rw [take_snoc l n (by omega), backS_snoc]
    by_cases c : l[n].f0 ≤ a
    · rw [if_pos c]; exact q
    · rw [if_neg c]; exact i
theorem backS_ok {p : Int} {l : List S58} (R : RightP p l) (a : Int) : 0 ≤ backS l a ∧ backS l a ≤ 1000 := by
  have h := backS_in01 R a l.length (Nat.le_refl _)
  rw [List.take_length] at h
  exact h
/-- WHAT A POLICY CARRIES ON, AND WANTS, of so many (c of them, within bounds). -/
def polR (kd tg : Int) (lb : List S56) (kp ki kdd pe : Int) (ls : List S58) (s p : Int) (h : Bool) (c u t : Int) : Int × Int × Bool × Int :=
  if kd = 1 then (s, p, h, FT (cl tg 1 1000000000) (c * cl u 0 1000000000))
  else if kd = 2 then (s, p, h, if findS lb u ≥ 0 then cl0 (wrap64 (c + (rd_T56 lb (findS lb u)).f1)) else c)
  else if kd = 3 then (sumI s (errI tg u), errI tg u, true, cl0 (wrap64 (c + pidN kp ki kdd (errI tg u) (sumI s (errI tg u)) (chgI h p (errI tg u)))))
  else if kd = 4 then (s, p, h, backS ls (t % pe))
  else (s, p, h, c)
theorem cl_cl0 (n : Int) : mn (mx n 0) 1000 = cl0 n := by unfold cl0 mx mn; omega
theorem clT_cl0 (n : Int) : cl n 0 1000 = cl0 n := by unfold cl cl0 mx mn; omega
theorem cl0_cl0 (n : Int) : cl0 (cl0 n) = cl0 n := cl0_same (cl0_in n).1 (cl0_in n).2
theorem trackF_in (tg c u : Int) (hc : 0 ≤ c) : 0 ≤ FT (cl tg 1 1000000000) (c * cl u 0 1000000000) ∧ FT (cl tg 1 1000000000) (c * cl u 0 1000000000) ≤ 1000 :=
  FT_in (cl_in tg 1 1000000000 (by decide)).1 (Int.mul_nonneg hc (cl_in u 0 1000000000 (by decide)).1)
theorem polNext_eq {kd : Int} {lb : List S56} {pe : Int} {ls : List S58} (R : PolP kd lb pe ls) (tg kp ki kdd s p : Int) (h : Bool) (c u t : Int) (k : Nat) (hk : 20 ≤ k) :
    policy_Next.f k kd tg lb kp ki kdd pe ls s p h c u t = some (polR kd tg lb kp ki kdd pe ls s p h (cl0 c) u t) := by
  have c0 := cl0_in c
  unfold policy_Next.f polR
  by_cases h1 : kd = 1
  · rw [if_pos h1, if_pos h1]
    unfold policy_kinds_1.f
    have b := trackF_in tg (cl0 c) u c0.1
    simp only [trackWant_eq, clT_cl0, cl0_cl0, Option.bind_some]
    rw [cl0_same b.1 b.2]
  · rw [if_neg h1, if_neg h1]
    by_cases h2 : kd = 2
    · rw [if_pos h2, if_pos h2]
      unfold policy_kinds_2.f
      simp only [stepWant_eq (bands_sorted (R.bands h2)), cl0_cl0, Option.bind_some]
      by_cases q : findS lb u ≥ 0
      · simp only [if_pos q, cl0_cl0]
      · simp only [if_neg q, cl0_cl0]
    · rw [if_neg h2, if_neg h2]
      by_cases h3 : kd = 3
      · rw [if_pos h3, if_pos h3]
        unfold policy_kinds_3.f
        simp only [@pid_eqk k (by omega), Option.bind_some]
      · rw [if_neg h3, if_neg h3]
        by_cases h4 : kd = 4
        · have S := R.slots h4
          have b := backS_ok S (t % pe)
          rw [if_pos h4, if_pos h4]
          unfold policy_kinds_4.f
          simp only [schedWant_eq S.p1 S.p2, Option.bind_some]
          rw [cl0_same b.1 b.2]
        · rw [if_neg h4, if_neg h4, cl0_cl0]
end Go.Proofs.Ytefgoffaidjiaaa.PAll
