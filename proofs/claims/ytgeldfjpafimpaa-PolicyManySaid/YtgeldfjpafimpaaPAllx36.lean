-- laid by a program of this session (tprint.py) out of the translation and of texts typed by hand; Lean checks it
import Derived.Test.YtgeldfjpafimpaaPAllx0
import Derived.Test.YtgeldfjpafimpaaPAllx22
import Derived.Test.YtgeldfjpafimpaaPAllx25
import Derived.Test.YtgeldfjpafimpaaPAllx26
import Derived.Test.YtgeldfjpafimpaaPAllx31
import Derived.Test.YtgeldfjpafimpaaPAllx34
import Derived.Test.YtgeldfjpafimpaaPAllx35
import Derived.MapKept
import Derived.Laws.EntriesVeiled
namespace Go.Proofs.Ytgeldfjpafimpaa.PAll
open Go.RowKit Go.Proofs.YtgeldfjpafimpaaW.PrintWords Go.Proofs.YtgeldfjpafimpaaW.PrintLast Go.Proofs.YtgeldfjpafimpaaW.PrintMore
attribute [local go_sem] max2_int min2_int max_two min_two max_three min_three max_four min_four   -- for this text's walks alone
set_option linter.unusedVariables false
set_option linter.unusedSimpArgs false

/-! ### policy_Next: function 27 -/
def policy_Next.f (k : Nat) (a0_0 : Int) (a0_1 : Int) (l0_2 : List (S83)) (a0_3 : Int) (a0_4 : Int) (a0_5 : Int) (a0_6 : Int) (l0_7 : List (S71)) (a1_0 : Int) (a1_1 : Int) (a1_2 : Bool) (a2 : Int) (a3 : Int) (a4 : Int) : Option (Int × Int × Bool × Int) :=
  if a0_0 = 1 then (policy_kinds_1.f a0_0 a0_1 l0_2 a0_3 a0_4 a0_5 a0_6 l0_7 a1_0 a1_1 a1_2 (cl0 a2) a3 a4).bind fun n => some (a1_0, a1_1, a1_2, cl0 n)
  else if a0_0 = 2 then (policy_kinds_2.f a0_0 a0_1 l0_2 a0_3 a0_4 a0_5 a0_6 l0_7 a1_0 a1_1 a1_2 (cl0 a2) a3 a4).bind fun n => some (a1_0, a1_1, a1_2, cl0 n)
  else if a0_0 = 3 then (policy_kinds_3.f k a0_0 a0_1 l0_2 a0_3 a0_4 a0_5 a0_6 l0_7 a1_0 a1_1 a1_2 (cl0 a2) a3 a4).bind fun x => some (x.1, x.2.1, x.2.2.1, cl0 (wrap64 (cl0 a2 + x.2.2.2)))
  else if a0_0 = 4 then (policy_kinds_4.f a0_0 a0_1 l0_2 a0_3 a0_4 a0_5 a0_6 l0_7 a1_0 a1_1 a1_2 (cl0 a2) a3 a4).bind fun n => some (a1_0, a1_1, a1_2, cl0 n)
  else some (a1_0, a1_1, a1_2, cl0 (cl0 a2))
theorem policy_Next.mono : ∀ a0 a1 a2 a3 a4 a5 a6 a7 a8 a9 a10 a11 a12 a13 k, LeO (policy_Next.f k a0 a1 a2 a3 a4 a5 a6 a7 a8 a9 a10 a11 a12 a13) (policy_Next.f (k + 1) a0 a1 a2 a3 a4 a5 a6 a7 a8 a9 a10 a11 a12 a13) := by
  intro a0 a1 a2 a3 a4 a5 a6 a7 a8 a9 a10 a11 a12 a13 k
  unfold policy_Next.f
  repeat' first
      | (with_reducible exact policy_kinds_3.mono _ _ _ _ _ _ _ _ _ _ _ _ _ _ _)
      | (with_reducible exact LeO.refl _)
      | (with_reducible exact LeO.none _)
      | (with_reducible refine LeO.ite ?_ ?_)
      | (with_reducible refine LeO.bind ?_ (fun _ => ?_))
set_option maxHeartbeats 2000000 in
theorem polInto_any (n : Int) (w : World) : Calls Try.prog 48 #[.int .i64 n] w fun e w' => e = .returned (.int .i64 (cl0 n)) ∧ Drawn0 w w' := by
  obtain ⟨m, hm⟩ : ∃ m, mn n 1000 = m := ⟨_, rfl⟩
  have hm' : (if 1000 < n then 1000 else n) = m := hm
  obtain ⟨s, hs⟩ : ∃ s, cl0 n = s := ⟨_, rfl⟩
  have hs' : (if 0 < m then m else 0) = s := by rw [← hs, ← hm]; rfl
  rw [hs]
  clear hm hs
  go_enter Try.func48, Try.ntmps48
  go_wp2
  go_ret
  exact ⟨rfl, by repeat (first | exact Drawn0.refl _ | apply Drawn0.step)⟩
section
variable {P : Program} {ops : Array Oper} {Q : Exit → Act → World → Prop}
theorem goesV_ {oi : Oper} {N : Option Tmp} {a : Act} {w : World} {K : Act → World → Prop} {f : FuncId} {fn : Func} {x : Operand} {os_ : Array Operand} {ts : Array TypeId} (hf : P.funcs[f]? = some fn) (hname : (fn.name == "runtime.NumGoroutine") = false) (hb : fn.body.isSome = true) (args : Array Value)
    (hw : Region.wanted oi (yielded ops a.tmps) = true) (hN : oi.dst = N) (hop : oi.op = .call { callee := .value x, args := os_, argTypes := ts }) (hx : a.eval x = .func (Fn.func f) #[] #[]) (hargs : os_.map a.eval = args)
    (h : Calls P f args w fun e w' => ∃ v, e = .returned v ∧ K (a.put N v) w') : if Region.wanted oi (yielded ops a.tmps) = true then Oper.wp P oi a w K Q else K (a.put N undef) w := by
  refine call_ f args hw hN ?_ h
  have he := enters_ hf hname hb args w
  unfold execOp
  simp [hop, resolve, Deferred.ofValue, invoke, hx, hargs, he]
end
theorem kCases (n : Int) : ∃ v1 v2 : Value, (∀ b W, W.heap[b]? = some kMap → (Instr.lookup 79 (.map (some b)) (.int .i64 n) false).run Try.prog W = .ok (.agg #[v1, v2]) W) ∧
    ((n = 1 ∧ v1 = .func (Fn.func 64) #[] #[] ∧ v2 = .nilFunc) ∨ (n = 2 ∧ v1 = .func (Fn.func 66) #[] #[] ∧ v2 = .nilFunc) ∨ (n = 3 ∧ v1 = .nilFunc ∧ v2 = .func (Fn.func 68) #[] #[]) ∨ (n = 4 ∧ v1 = .func (Fn.func 70) #[] #[] ∧ v2 = .nilFunc) ∨ ((n ≠ 1 ∧ n ≠ 2 ∧ n ≠ 3 ∧ n ≠ 4) ∧ v1 = .nilFunc ∧ v2 = .nilFunc)) := by
  by_cases h1 : n = 1
  · subst h1; exact ⟨_, _, kLook1, .inl ⟨rfl, rfl, rfl⟩⟩
  by_cases h2 : n = 2
  · subst h2; exact ⟨_, _, kLook2, .inr (.inl ⟨rfl, rfl, rfl⟩)⟩
  by_cases h3 : n = 3
  · subst h3; exact ⟨_, _, kLook3, .inr (.inr (.inl ⟨rfl, rfl, rfl⟩))⟩
  by_cases h4 : n = 4
  · subst h4; exact ⟨_, _, kLook4, .inr (.inr (.inr (.inl ⟨rfl, rfl, rfl⟩)))⟩
  exact ⟨_, _, kLook0 n h1 h2 h3 h4, .inr (.inr (.inr (.inr ⟨⟨h1, h2, h3, h4⟩, rfl, rfl⟩)))⟩
theorem kNeqF (f : Fn) (W : World) : (binOp BinOp.neq 75 (.func f #[] #[]) .nilFunc).run Try.prog W = .ok (.bool true) W := by kernel_rfl
theorem kNeqF' (f : Fn) (W : World) : (binOp BinOp.neq 76 (.func f #[] #[]) .nilFunc).run Try.prog W = .ok (.bool true) W := by kernel_rfl
theorem kNeqN (W : World) : (binOp BinOp.neq 75 .nilFunc .nilFunc).run Try.prog W = .ok (.bool false) W := by kernel_rfl
theorem kNeqN' (W : World) : (binOp BinOp.neq 76 .nilFunc .nilFunc).run Try.prog W = .ok (.bool false) W := by kernel_rfl
/-- What stays: the policy's block, the state's, the result's. -/
structure PolW (w W : World) (pc sc : Array Value) : Prop where
  hP : W.heap[w.heap.size]? = some (.cells pc 45 (0, 0))
  hS : W.heap[w.heap.size + 1]? = some (.cells sc 47 (0, 0))
  hR : W.heap[w.heap.size + 1 + 1]? = some (.cells #[.int .i64 0, .int .i64 0, .bool false] 47 (0, 0))
  hB : Below w.heap.size w W
theorem PolW.below {w W W1 : World} {pc sc : Array Value} (h : PolW w W pc sc) (hb : Below W.heap.size W W1) : PolW w W1 pc sc := ⟨blk_below h.hP hb, blk_below h.hS hb, blk_below h.hR hb, below_step h.hB hb⟩
theorem PolW.drew {w W : World} {pc sc : Array Value} (h : PolW w W pc sc) : PolW w W.drew pc sc := ⟨h.hP, h.hS, h.hR, below_drew1 h.hB⟩
theorem PolW.drewN {w W : World} {pc sc : Array Value} (h : PolW w W pc sc) (n : Nat) : PolW w (W.drewN n) pc sc := ⟨h.hP, h.hS, h.hR, pw_below_drewN h.hB n⟩
theorem PolW.far {w W : World} {pc sc : Array Value} (h : PolW w W pc sc) {g j : Nat} {v : Value} (hg : w.heap.size + 1 + 1 < g) : PolW w (W.setCell ⟨g, j, none⟩ v) pc sc :=
  ⟨blk_far h.hP (by show w.heap.size ≠ g; omega) v, blk_far h.hS (by show w.heap.size + 1 ≠ g; omega) v, blk_far h.hR (by show w.heap.size + 1 + 1 ≠ g; omega) v, below_set h.hB (by omega)⟩
theorem PolW.alloc {w W : World} {pc sc : Array Value} (h : PolW w W pc sc) (o : Obj) : PolW w (W.alloc o) pc sc := ⟨blk_alloc h.hP o, blk_alloc h.hS o, blk_alloc h.hR o, below_alloc h.hB o⟩
theorem PolW.put {w W : World} {pc : Array Value} {u v x : Value} (h : PolW w W pc #[u, v, x]) (a b c : Value) : PolW w (((W.setCell ⟨w.heap.size + 1, 0, none⟩ a).setCell ⟨w.heap.size + 1, 1, none⟩ b).setCell ⟨w.heap.size + 1, 2, none⟩ c) pc #[a, b, c] :=
  ⟨blk_far (blk_far (blk_far h.hP (by show w.heap.size ≠ w.heap.size + 1; omega) a) (by show w.heap.size ≠ w.heap.size + 1; omega) b) (by show w.heap.size ≠ w.heap.size + 1; omega) c, blk_put (blk_put (blk_put h.hS 0 a rfl) 1 b rfl) 2 c rfl,
   blk_far (blk_far (blk_far h.hR (by show w.heap.size + 1 + 1 ≠ w.heap.size + 1; omega) a) (by show w.heap.size + 1 + 1 ≠ w.heap.size + 1; omega) b) (by show w.heap.size + 1 + 1 ≠ w.heap.size + 1; omega) c, below_set (below_set (below_set h.hB (by omega)) (by omega)) (by omega)⟩
theorem PolW.cells {w W : World} {pc : Array Value} {u v x : Value} (h : PolW w W pc #[u, v, x]) (o : Obj) : (W.alloc o).cell? ⟨w.heap.size + 1, 0, none⟩ = some u ∧ (W.alloc o).cell? ⟨w.heap.size + 1, 1, none⟩ = some v ∧ (W.alloc o).cell? ⟨w.heap.size + 1, 2, none⟩ = some x :=
  ⟨(blk_cell (blk_alloc h.hS o) 0).trans rfl, (blk_cell (blk_alloc h.hS o) 1).trans rfl, (blk_cell (blk_alloc h.hS o) 2).trans rfl⟩
theorem PolW.new (w : World) (pc sc : Array Value) : PolW w (((w.alloc (.cells pc 45)).alloc (.cells sc 47)).alloc (.cells #[.int .i64 0, .int .i64 0, .bool false] 47)) pc sc := by
  refine ⟨blk_alloc (blk_alloc (blk_new w _) _) _, blk_alloc ?_ _, ?_, (((Below.refl _ w).alloc (Nat.le_refl _) _).alloc (by simp) _).alloc (by simp; omega) _⟩
  · have z := blk_new (w.alloc (.cells pc 45)) (.cells sc 47)
    rw [World.size_alloc] at z
    exact z
  · have z := blk_new ((w.alloc (.cells pc 45)).alloc (.cells sc 47)) (.cells #[.int .i64 0, .int .i64 0, .bool false] 47)
    rw [World.size_alloc, World.size_alloc] at z
    exact z
set_option maxHeartbeats 8000000 in
set_option maxRecDepth 100000 in
theorem policy_Next.calls (k : Nat) (a0_0 : Int) (a0_1 : Int) (A0_2 : Option Addr) (c0_2 : Nat) (l0_2 : List (S83)) (a0_3 : Int) (a0_4 : Int) (a0_5 : Int) (a0_6 : Int) (A0_7 : Option Addr) (c0_7 : Nat) (l0_7 : List (S71)) (a1_0 : Int) (a1_1 : Int) (a1_2 : Bool) (a2 : Int) (a3 : Int) (a4 : Int) (r1 : Int) (r2 : Int) (r3 : Bool) (r4 : Int) (w : World) (hr0_2 : Kd.C k83 w A0_2 l0_2.length l0_2) (hc0_2 : l0_2.length ≤ c0_2) (hr0_7 : Kd.C k71 w A0_7 l0_7.length l0_7) (hc0_7 : l0_7.length ≤ c0_7) (h : policy_Next.f k a0_0 a0_1 l0_2 a0_3 a0_4 a0_5 a0_6 l0_7 a1_0 a1_1 a1_2 a2 a3 a4 = some (r1, r2, r3, r4)) :
    Calls Try.prog 27 #[.agg #[.int .i64 a0_0, .int .i64 a0_1, .slice A0_2 l0_2.length c0_2, .int .i64 a0_3, .int .i64 a0_4, .int .i64 a0_5, .int .i64 a0_6, .slice A0_7 l0_7.length c0_7], .agg #[.int .i64 a1_0, .int .i64 a1_1, .bool a1_2], .int .i64 a2, .int .i64 a3, .int .i64 a4] w fun e w' => e = .returned (.tuple #[.agg #[.int .i64 r1, .int .i64 r2, .bool r3], .int .i64 r4]) ∧ Below w.heap.size w w' := by
  have hu45 := Try.underlying45
  have hu47 := Try.underlying47
  have hu74 := Try.underlying74
  have hu78 := Try.underlying78
  obtain ⟨c, hc⟩ : ∃ c, cl0 a2 = c := ⟨_, rfl⟩
  have Hc := Aside0.mk hc
  have HR2 := Aside0.mk hr0_2
  have HR7 := Aside0.mk hr0_7
  have HC2 := Aside0.mk hc0_2
  have HC7 := Aside0.mk hc0_7
  have Hh := Aside0.mk h
  have HI := Aside0.mk (show ∀ W : World, Calls Try.prog 48 #[.int .i64 a2] W fun e w' => e = .returned (.int .i64 c) ∧ Drawn0 W w' from fun W => by rw [← hc]; exact polInto_any a2 W)
  clear hc hr0_2 hr0_7 hc0_2 hc0_7 h
  go_enter Try.func27, Try.ntmps27
  go_upto_region 2 with (fail)
  go_cut [13] (fun s wx => ∃ G : Nat, s = .pointer (some ⟨G, 0, none⟩) ∧ PolW w wx #[.int .i64 a0_0, .int .i64 a0_1, .slice A0_2 l0_2.length c0_2, .int .i64 a0_3, .int .i64 a0_4, .int .i64 a0_5, .int .i64 a0_6, .slice A0_7 l0_7.length c0_7] #[.int .i64 a1_0, .int .i64 a1_1, .bool a1_2] ∧ wx.heap[G]? = some (.cells #[.int .i64 a1_0, .int .i64 a1_1, .bool a1_2, .int .i64 c, .int .i64 a3, .int .i64 a4] 74 (0, 0)) ∧ w.heap.size + 1 + 1 < G)
  case first =>
    have hF0 := PolW.new w #[.int .i64 a0_0, .int .i64 a0_1, .slice A0_2 l0_2.length c0_2, .int .i64 a0_3, .int .i64 a0_4, .int .i64 a0_5, .int .i64 a0_6, .slice A0_7 l0_7.length c0_7] #[.int .i64 a1_0, .int .i64 a1_1, .bool a1_2]
    generalize ((w.alloc _).alloc _).alloc _ = W0 at hF0 ⊢
    refine start_ (n := 9) (S := fun w' => PolW w w' #[.int .i64 a0_0, .int .i64 a0_1, .slice A0_2 l0_2.length c0_2, .int .i64 a0_3, .int .i64 a0_4, .int .i64 a0_5, .int .i64 a0_6, .slice A0_7 l0_7.length c0_7] #[.int .i64 a1_0, .int .i64 a1_1, .bool a1_2]) (ds := []) #[false, false, false, false, false, false, false, false, false] (by kernel_rfl) rfl rfl hF0.drew (fun hHeld => ?_)
    generalize W0.drew = w1 at hHeld ⊢
    clear hF0
    refine pure_ (i := 1) (N := some 19) (v := ?_) (a' := ?_) #[false, true, false, false, false, false, false, false, false] rfl rfl (by kernel_rfl) (fun _ _ _ h => h) (Or.inl ⟨by rfl, ?_⟩) ?_ ?_
    rotate_left
    · intro w'
      go_simp
      with_reducible rfl
    rotate_left
    · simp only [Act.put, List.setIfInBounds_toArray, List.set_cons_zero, List.set_cons_succ, i64_w, i32_w]
      rfl
    refine pure_ (i := 2) (N := some 20) (v := ?_) (a' := ?_) #[false, true, true, false, false, false, false, false, false] rfl rfl (by kernel_rfl) (fun _ _ _ h => h) (Or.inl ⟨by rfl, ?_⟩) ?_ ?_
    rotate_left
    · intro w'
      go_simp
      with_reducible rfl
    rotate_left
    · simp only [Act.put, List.setIfInBounds_toArray, List.set_cons_zero, List.set_cons_succ, i64_w, i32_w]
      rfl
    refine pure_ (i := 4) (N := some 22) (v := ?_) (a' := ?_) #[false, true, true, false, true, false, false, false, false] rfl rfl (by kernel_rfl) (fun _ _ _ h => h) (Or.inl ⟨by rfl, ?_⟩) ?_ ?_
    rotate_left
    · intro w'
      go_simp
      with_reducible rfl
    rotate_left
    · simp only [Act.put, List.setIfInBounds_toArray, List.set_cons_zero, List.set_cons_succ, i64_w, i32_w]
      rfl
    refine pure_ (i := 5) (N := some 23) (v := ?_) (a' := ?_) #[false, true, true, false, true, true, false, false, false] rfl rfl (by kernel_rfl) (fun _ _ _ h => h) (Or.inl ⟨by rfl, ?_⟩) ?_ ?_
    rotate_left
    · intro w'
      go_simp
      with_reducible rfl
    rotate_left
    · simp only [Act.put, List.setIfInBounds_toArray, List.set_cons_zero, List.set_cons_succ, i64_w, i32_w]
      rfl
    refine take_ (i := 0) (N := some 18) (v := ?_) (a' := ?_) #[true, true, true, false, true, true, false, false, false] rfl rfl (by kernel_rfl) (fun _ _ _ h => h) (Or.inl ⟨by rfl, ?_⟩) hHeld ?_ ?_
    rotate_left
    · intro w' hS
      have s0 := blk_cell hS.hS 0
      have s1 := blk_cell hS.hS 1
      have s2 := blk_cell hS.hS 2
      simp only [List.getElem?_toArray, List.getElem?_cons_zero, List.getElem?_cons_succ] at s0 s1 s2
      clear hS
      go_simp
      with_reducible rfl
    rotate_left
    · simp only [Act.put, List.setIfInBounds_toArray, List.set_cons_zero, List.set_cons_succ, i64_w, i32_w]
      rfl
    refine join_ (σ := Nat) 1 #[true, true, true, true, true, true, true, true, false] (fun G => [(21, .int .i64 c), (13, .pointer (some ⟨G, 0, none⟩)), (24, .agg #[.int .i64 a1_0, .int .i64 a1_1, .bool a1_2, .int .i64 c, .int .i64 a3, .int .i64 a4])]) (fun G w' => PolW w w' #[.int .i64 a0_0, .int .i64 a0_1, .slice A0_2 l0_2.length c0_2, .int .i64 a0_3, .int .i64 a0_4, .int .i64 a0_5, .int .i64 a0_6, .slice A0_7 l0_7.length c0_7] #[.int .i64 a1_0, .int .i64 a1_1, .bool a1_2] ∧ w'.heap[G]? = some (.cells #[.int .i64 0, .int .i64 0, .bool false, .int .i64 0, .int .i64 0, .int .i64 0] 74 (0, 0)) ∧ w.heap.size + 1 + 1 < G) ?_ ?_
    rotate_left
    · intro hCont
      refine two_ (i := 3) (j := 7) (Ni := some 21) (Nj := some 13) #[true, true, true, true, true, true, false, false, false] #[true, true, true, false, true, true, false, true, false] rfl rfl rfl rfl (by kernel_rfl) (by decide) (by decide) (fun K hK => ?_) (fun K hK => ?_)
      · skip
        refine goesV_ Try.func48 (by kernel_rfl) rfl #[.int .i64 a2] (by rfl) rfl rfl rfl (by simp only [List.map_toArray, List.map_cons, List.map_nil]; rfl) ?_
        refine (HI.out _).mono ?_
        rintro e_ w_ ⟨rfl, ⟨nd, rfl⟩⟩
        refine ⟨_, rfl, ?_⟩
        have F2 := hHeld.drewN nd
        refine hK.out _ _ F2 (fun hHeld => ?_)
        clear hK K
        refine norm_ (a' := ?_) ?_ ?_
        rotate_left
        · show Act.put _ (some 21) _ = _
          simp only [Act.put, List.setIfInBounds_toArray, List.set_cons_zero, List.set_cons_succ, i64_w, i32_w]
          rfl
        refine pure_ (i := 6) (N := some 24) (v := ?_) (a' := ?_) #[true, true, true, true, true, true, true, false, false] rfl rfl (by kernel_rfl) (fun _ _ _ h => h) (Or.inl ⟨by rfl, ?_⟩) ?_ ?_
        rotate_left
        · intro w'
          go_simp
          with_reducible rfl
        rotate_left
        · simp only [Act.put, List.setIfInBounds_toArray, List.set_cons_zero, List.set_cons_succ, i64_w, i32_w]
          rfl
        refine one_ (i := 7) (N := some 13) #[true, true, true, true, true, true, true, true, false] rfl rfl (by kernel_rfl) (by decide) (fun K hK => ?_)
        refine box_step ?hg (N := 13) ?hd (cs := #[.int .i64 0, .int .i64 0, .bool false, .int .i64 0, .int .i64 0, .int .i64 0]) (t := 74) ?hr ?_; (case hd => rfl); (case hg => rfl); (case hr => first | (go_simp; done) | (go_simp; rfl))
        intro G hg w3 hbox hb
        have F3 := F2.below hb
        have hG : w.heap.size + 1 + 1 < G := by rw [hg]; exact blk_lt F2.hR
        refine hK.out _ _ F3 (fun hHeld => ?_)
        clear hK K
        refine norm_ (a' := ?_) ?_ ?_
        rotate_left
        · show Act.put _ (some 13) _ = _
          simp only [Act.put, List.setIfInBounds_toArray, List.set_cons_zero, List.set_cons_succ, i64_w, i32_w]
          rfl
        exact norm_ (by simp only [putAll, Act.put, List.setIfInBounds_toArray, List.set_cons_zero, List.set_cons_succ]) (hCont G _ ⟨F3, hbox, hG⟩)
      · skip
        refine box_step ?hg (N := 13) ?hd (cs := #[.int .i64 0, .int .i64 0, .bool false, .int .i64 0, .int .i64 0, .int .i64 0]) (t := 74) ?hr ?_; (case hd => rfl); (case hg => rfl); (case hr => first | (go_simp; done) | (go_simp; rfl))
        intro G hg w3 hbox hb
        have F3 := hHeld.below hb
        have hG : w.heap.size + 1 + 1 < G := by rw [hg]; exact blk_lt hHeld.hR
        refine hK.out _ _ F3 (fun hHeld => ?_)
        clear hK K
        refine norm_ (a' := ?_) ?_ ?_
        rotate_left
        · show Act.put _ (some 13) _ = _
          simp only [Act.put, List.setIfInBounds_toArray, List.set_cons_zero, List.set_cons_succ, i64_w, i32_w]
          rfl
        refine one_ (i := 3) (N := some 21) #[true, true, true, true, true, true, false, true, false] rfl rfl (by kernel_rfl) (by decide) (fun K hK => ?_)
        refine goesV_ Try.func48 (by kernel_rfl) rfl #[.int .i64 a2] (by rfl) rfl rfl rfl (by simp only [List.map_toArray, List.map_cons, List.map_nil]; rfl) ?_
        refine (HI.out _).mono ?_
        rintro e_ w_ ⟨rfl, ⟨nd, rfl⟩⟩
        refine ⟨_, rfl, ?_⟩
        have F4 := F3.drewN nd
        refine hK.out _ _ F4 (fun hHeld => ?_)
        clear hK K
        refine norm_ (a' := ?_) ?_ ?_
        rotate_left
        · show Act.put _ (some 21) _ = _
          simp only [Act.put, List.setIfInBounds_toArray, List.set_cons_zero, List.set_cons_succ, i64_w, i32_w]
          rfl
        refine pure_ (i := 6) (N := some 24) (v := ?_) (a' := ?_) #[true, true, true, true, true, true, true, true, false] rfl rfl (by kernel_rfl) (fun _ _ _ h => h) (Or.inl ⟨by rfl, ?_⟩) ?_ ?_
        rotate_left
        · intro w'
          go_simp
          with_reducible rfl
        rotate_left
        · simp only [Act.put, List.setIfInBounds_toArray, List.set_cons_zero, List.set_cons_succ, i64_w, i32_w]
          rfl
        exact norm_ (by simp only [putAll, Act.put, List.setIfInBounds_toArray, List.set_cons_zero, List.set_cons_succ]) (hCont G _ ⟨F4, blk_drewN hbox _, hG⟩)
    rintro G w4 ⟨F4, kA, hG⟩
    refine norm_ (a' := ?_) ?_ ?_
    rotate_left
    · simp only [putAll, Act.put, List.setIfInBounds_toArray, List.set_cons_zero, List.set_cons_succ]
      rfl
    refine one_ (i := 8) (N := none) #[true, true, true, true, true, true, true, true, true] rfl rfl (by kernel_rfl) (by decide) (fun K hK => ?_)
    have z0 := blk_cell kA 0
    have f0 := blk_frozen kA 0
    have z1 := blk_cell kA 1
    have f1 := blk_frozen kA 1
    have z2 := blk_cell kA 2
    have f2 := blk_frozen kA 2
    have z3 := blk_cell kA 3
    have f3 := blk_frozen kA 3
    have z4 := blk_cell kA 4
    have f4 := blk_frozen kA 4
    have z5 := blk_cell kA 5
    have f5 := blk_frozen kA 5
    simp only [List.getElem?_toArray, List.getElem?_cons_zero, List.getElem?_cons_succ] at z0 z1 z2 z3 z4 z5
    refine skip_ (w1 := ?_) (by rfl) rfl ?_ ?_
    rotate_left
    · go_simp
      rfl
    have F5 := (((((F4.far (j := 0) (v := .int .i64 a1_0) hG).far (j := 1) (v := .int .i64 a1_1) hG).far (j := 2) (v := .bool a1_2) hG).far (j := 3) (v := .int .i64 c) hG).far (j := 4) (v := .int .i64 a3) hG).far (j := 5) (v := .int .i64 a4) hG
    refine hK.out _ _ F5 (fun hHeld => ?_)
    clear hK K
    refine done_ (by kernel_rfl) ?_
    (try go_wp2)
    go_meet
    exact ⟨G, rfl, F5, blk_put (blk_put (blk_put (blk_put (blk_put (blk_put kA 0 _ rfl) 1 _ rfl) 2 _ rfl) 3 _ rfl) 4 _ rfl) 5 _ rfl, hG⟩
  case rest =>
    obtain ⟨G, rfl, F0, kA, hG⟩ := hcut
    have b3 := blk_cell kA 3
    simp only [List.getElem?_toArray, List.getElem?_cons_zero, List.getElem?_cons_succ] at b3
    have HF0 := Aside0.mk F0
    have HkA := Aside0.mk kA
    have HhG := Aside0.mk hG
    clear F0 kA hG
    go_upto_region 4 with (fail)
    clear b3
    have F0 := HF0.out
    have kA := HkA.out
    have hG := HhG.out
    clear HF0 HkA HhG
    obtain ⟨v1, v2, hL, hV⟩ := kCases a0_0
    go_cut [15] (fun s wx => ∃ G2 : Nat, s = .pointer (some ⟨G2, 0, none⟩) ∧ PolW w wx #[.int .i64 a0_0, .int .i64 a0_1, .slice A0_2 l0_2.length c0_2, .int .i64 a0_3, .int .i64 a0_4, .int .i64 a0_5, .int .i64 a0_6, .slice A0_7 l0_7.length c0_7] #[.int .i64 a1_0, .int .i64 a1_1, .bool a1_2] ∧ wx.heap[G]? = some (.cells #[.int .i64 a1_0, .int .i64 a1_1, .bool a1_2, .int .i64 c, .int .i64 a3, .int .i64 a4] 74 (0, 0)) ∧ wx.heap[G2]? = some (.cells #[v1, v2] 78 (0, 0)) ∧ w.heap.size + 1 + 1 < G2)
    case first =>
      refine start_ (n := 6) (S := fun w' => PolW w w' #[.int .i64 a0_0, .int .i64 a0_1, .slice A0_2 l0_2.length c0_2, .int .i64 a0_3, .int .i64 a0_4, .int .i64 a0_5, .int .i64 a0_6, .slice A0_7 l0_7.length c0_7] #[.int .i64 a1_0, .int .i64 a1_1, .bool a1_2] ∧ w'.heap[G]? = some (.cells #[.int .i64 a1_0, .int .i64 a1_1, .bool a1_2, .int .i64 c, .int .i64 a3, .int .i64 a4] 74 (0, 0))) (ds := []) #[false, false, false, false, false, false] (by kernel_rfl) rfl rfl ⟨F0.drew, kA⟩ (fun hHeld => ?_)
      generalize wc.drew = w1 at hHeld ⊢
      clear F0 kA
      refine pure_ (i := 1) (N := some 28) (v := ?_) (a' := ?_) #[false, true, false, false, false, false] rfl rfl (by kernel_rfl) (fun _ _ _ h => h) (Or.inl ⟨by rfl, ?_⟩) ?_ ?_
      rotate_left
      · intro w'
        go_simp
        with_reducible rfl
      rotate_left
      · simp only [Act.put, List.setIfInBounds_toArray, List.set_cons_zero, List.set_cons_succ, i64_w, i32_w]
        rfl
      refine take_ (i := 2) (N := some 29) (v := ?_) (a' := ?_) #[false, true, true, false, false, false] rfl rfl (by kernel_rfl) (fun _ _ _ h => h) (Or.inl ⟨by rfl, ?_⟩) hHeld ?_ ?_
      rotate_left
      · intro w' hS
        have p0 := blk_cell hS.1.hP 0
        simp only [List.getElem?_toArray, List.getElem?_cons_zero, List.getElem?_cons_succ] at p0
        clear hS
        go_simp
        with_reducible rfl
      rotate_left
      · simp only [Act.put, List.setIfInBounds_toArray, List.set_cons_zero, List.set_cons_succ, i64_w, i32_w]
        rfl
      refine join_ (σ := Nat × Nat) 1 #[true, true, true, true, true, false] (fun s_ => [(27, .map (some s_.1)), (30, .agg #[v1, v2]), (15, .pointer (some ⟨s_.2, 0, none⟩))]) (fun s_ w' => (PolW w w' #[.int .i64 a0_0, .int .i64 a0_1, .slice A0_2 l0_2.length c0_2, .int .i64 a0_3, .int .i64 a0_4, .int .i64 a0_5, .int .i64 a0_6, .slice A0_7 l0_7.length c0_7] #[.int .i64 a1_0, .int .i64 a1_1, .bool a1_2] ∧ w'.heap[G]? = some (.cells #[.int .i64 a1_0, .int .i64 a1_1, .bool a1_2, .int .i64 c, .int .i64 a3, .int .i64 a4] 74 (0, 0))) ∧ w'.heap[s_.2]? = some (.cells #[.nilFunc, .nilFunc] 78 (0, 0)) ∧ G < s_.2) ?_ ?_
      rotate_left
      · intro hCont
        refine two_ (i := 0) (j := 4) (Ni := some 27) (Nj := some 15) #[true, true, true, false, false, false] #[false, true, true, false, true, false] rfl rfl rfl rfl (by kernel_rfl) (by decide) (by decide) (fun K hK => ?_) (fun K hK => ?_)
        · skip
          refine goes_ Try.func49 (by kernel_rfl) rfl #[] (by rfl) rfl rfl (by (try simp only [List.map_toArray, List.map_cons, List.map_nil]); first | done | rfl) ?_
          refine (policy_kinds.calls _).mono ?_
          rintro e_ w_ ⟨rfl, rfl⟩
          refine ⟨_, rfl, ?_⟩
          have hM := alloc_at w1 kMap
          have hbM := below_alloc (Below.refl w1.heap.size w1) kMap
          have F2 := hHeld.1.below hbM
          have kA2 := blk_below hHeld.2 hbM
          refine hK.out _ _ ⟨F2, kA2⟩ (fun hHeld => ?_)
          clear hK K
          refine norm_ (a' := ?_) ?_ ?_
          rotate_left
          · show Act.put _ (some 27) _ = _
            simp only [Act.put, List.setIfInBounds_toArray, List.set_cons_zero, List.set_cons_succ, i64_w, i32_w]
            rfl
          generalize w1.heap.size = M at hM ⊢
          generalize w1.alloc kMap = w2 at F2 kA2 hM hHeld ⊢
          clear hbM
          refine two_ (i := 3) (j := 4) (Ni := some 30) (Nj := some 15) #[true, true, true, true, false, false] #[true, true, true, false, true, false] rfl rfl rfl rfl (by kernel_rfl) (by decide) (by decide) (fun K hK => ?_) (fun K hK => ?_)
          · skip
            refine value_ (v := .agg #[v1, v2]) (w1 := w2) (by rfl) rfl ?_ ?_
            · have hl := hL M w2 hM
              go_simp
            refine hK.out _ _ ⟨F2, kA2⟩ (fun hHeld => ?_)
            clear hK K
            refine norm_ (a' := ?_) ?_ ?_
            rotate_left
            · show Act.put _ (some 30) _ = _
              simp only [Act.put, List.setIfInBounds_toArray, List.set_cons_zero, List.set_cons_succ, i64_w, i32_w]
              rfl
            refine one_ (i := 4) (N := some 15) #[true, true, true, true, true, false] rfl rfl (by kernel_rfl) (by decide) (fun K hK => ?_)
            refine box_step ?hg (N := 15) ?hd (cs := #[.nilFunc, .nilFunc]) (t := 78) ?hr ?_; (case hd => rfl); (case hg => rfl); (case hr => first | (go_simp; done) | (go_simp; rfl))
            intro G2 hg w3 hbox hb
            have hG2 : G < G2 := by rw [hg]; exact blk_lt kA2
            refine hK.out _ _ ⟨F2.below hb, blk_below kA2 hb⟩ (fun hHeld => ?_)
            clear hK K
            refine norm_ (a' := ?_) ?_ ?_
            rotate_left
            · show Act.put _ (some 15) _ = _
              simp only [Act.put, List.setIfInBounds_toArray, List.set_cons_zero, List.set_cons_succ, i64_w, i32_w]
              rfl
            exact norm_ (by simp only [putAll, Act.put, List.setIfInBounds_toArray, List.set_cons_zero, List.set_cons_succ]) (hCont (M, G2) _ ⟨⟨F2.below hb, blk_below kA2 hb⟩, hbox, hG2⟩)
          · skip
            refine box_step ?hg (N := 15) ?hd (cs := #[.nilFunc, .nilFunc]) (t := 78) ?hr ?_; (case hd => rfl); (case hg => rfl); (case hr => first | (go_simp; done) | (go_simp; rfl))
            intro G2 hg w3 hbox hb
            have hG2 : G < G2 := by rw [hg]; exact blk_lt kA2
            have hM := blk_below hM hb
            refine hK.out _ _ ⟨F2.below hb, blk_below kA2 hb⟩ (fun hHeld => ?_)
            clear hK K
            refine norm_ (a' := ?_) ?_ ?_
            rotate_left
            · show Act.put _ (some 15) _ = _
              simp only [Act.put, List.setIfInBounds_toArray, List.set_cons_zero, List.set_cons_succ, i64_w, i32_w]
              rfl
            refine one_ (i := 3) (N := some 30) #[true, true, true, true, true, false] rfl rfl (by kernel_rfl) (by decide) (fun K hK => ?_)
            refine value_ (v := .agg #[v1, v2]) (w1 := w3) (by rfl) rfl ?_ ?_
            · have hl := hL M w3 hM
              go_simp
            refine hK.out _ _ ⟨F2.below hb, blk_below kA2 hb⟩ (fun hHeld => ?_)
            clear hK K
            refine norm_ (a' := ?_) ?_ ?_
            rotate_left
            · show Act.put _ (some 30) _ = _
              simp only [Act.put, List.setIfInBounds_toArray, List.set_cons_zero, List.set_cons_succ, i64_w, i32_w]
              rfl
            exact norm_ (by simp only [putAll, Act.put, List.setIfInBounds_toArray, List.set_cons_zero, List.set_cons_succ]) (hCont (M, G2) _ ⟨⟨F2.below hb, blk_below kA2 hb⟩, hbox, hG2⟩)
        · skip
          refine box_step ?hg (N := 15) ?hd (cs := #[.nilFunc, .nilFunc]) (t := 78) ?hr ?_; (case hd => rfl); (case hg => rfl); (case hr => first | (go_simp; done) | (go_simp; rfl))
          intro G2 hg w3 hbox hb
          have hG2 : G < G2 := by rw [hg]; exact blk_lt hHeld.2
          have F2 := hHeld.1.below hb
          have kA2 := blk_below hHeld.2 hb
          refine hK.out _ _ ⟨F2, kA2⟩ (fun hHeld => ?_)
          clear hK K
          refine norm_ (a' := ?_) ?_ ?_
          rotate_left
          · show Act.put _ (some 15) _ = _
            simp only [Act.put, List.setIfInBounds_toArray, List.set_cons_zero, List.set_cons_succ, i64_w, i32_w]
            rfl
          refine one_ (i := 0) (N := some 27) #[true, true, true, false, true, false] rfl rfl (by kernel_rfl) (by decide) (fun K hK => ?_)
          refine goes_ Try.func49 (by kernel_rfl) rfl #[] (by rfl) rfl rfl (by (try simp only [List.map_toArray, List.map_cons, List.map_nil]); first | done | rfl) ?_
          refine (policy_kinds.calls _).mono ?_
          rintro e_ w_ ⟨rfl, rfl⟩
          refine ⟨_, rfl, ?_⟩
          have hM := alloc_at w3 kMap
          have hbM := below_alloc (Below.refl w3.heap.size w3) kMap
          have F3 := F2.below hbM
          have kA3 := blk_below kA2 hbM
          have hbox3 := blk_below hbox hbM
          refine hK.out _ _ ⟨F3, kA3⟩ (fun hHeld => ?_)
          clear hK K
          refine norm_ (a' := ?_) ?_ ?_
          rotate_left
          · show Act.put _ (some 27) _ = _
            simp only [Act.put, List.setIfInBounds_toArray, List.set_cons_zero, List.set_cons_succ, i64_w, i32_w]
            rfl
          generalize w3.heap.size = M at hM ⊢
          generalize w3.alloc kMap = w4 at F3 kA3 hbox3 hM hHeld ⊢
          refine one_ (i := 3) (N := some 30) #[true, true, true, true, true, false] rfl rfl (by kernel_rfl) (by decide) (fun K hK => ?_)
          refine value_ (v := .agg #[v1, v2]) (w1 := w4) (by rfl) rfl ?_ ?_
          · have hl := hL M w4 hM
            go_simp
          refine hK.out _ _ ⟨F3, kA3⟩ (fun hHeld => ?_)
          clear hK K
          refine norm_ (a' := ?_) ?_ ?_
          rotate_left
          · show Act.put _ (some 30) _ = _
            simp only [Act.put, List.setIfInBounds_toArray, List.set_cons_zero, List.set_cons_succ, i64_w, i32_w]
            rfl
          exact norm_ (by simp only [putAll, Act.put, List.setIfInBounds_toArray, List.set_cons_zero, List.set_cons_succ]) (hCont (M, G2) _ ⟨⟨F3, kA3⟩, hbox3, hG2⟩)
      rintro ⟨M, G2⟩ w4 ⟨⟨F4, kA4⟩, kK, hG2⟩
      refine norm_ (a' := ?_) ?_ ?_
      rotate_left
      · simp only [putAll, Act.put, List.setIfInBounds_toArray, List.set_cons_zero, List.set_cons_succ]
        rfl
      refine one_ (i := 5) (N := none) #[true, true, true, true, true, true] rfl rfl (by kernel_rfl) (by decide) (fun K hK => ?_)
      have z0 := blk_cell kK 0
      have f0 := blk_frozen kK 0
      have z1 := blk_cell kK 1
      have f1 := blk_frozen kK 1
      simp only [List.getElem?_toArray, List.getElem?_cons_zero, List.getElem?_cons_succ] at z0 z1
      have st1 : (store ⟨G2, 0, none⟩ v1).run Try.prog w4 = .ok () (w4.setCell ⟨G2, 0, none⟩ v1) := by rcases hV with ⟨_, rfl, rfl⟩ | ⟨_, rfl, rfl⟩ | ⟨_, rfl, rfl⟩ | ⟨_, rfl, rfl⟩ | ⟨_, rfl, rfl⟩ <;> first | (go_simp; done) | (go_simp; rfl)
      have st2 : (store ⟨G2, 1, none⟩ v2).run Try.prog (w4.setCell ⟨G2, 0, none⟩ v1) = .ok () ((w4.setCell ⟨G2, 0, none⟩ v1).setCell ⟨G2, 1, none⟩ v2) := by rcases hV with ⟨_, rfl, rfl⟩ | ⟨_, rfl, rfl⟩ | ⟨_, rfl, rfl⟩ | ⟨_, rfl, rfl⟩ | ⟨_, rfl, rfl⟩ <;> first | (go_simp; done) | (go_simp; rfl)
      refine skip_ (w1 := ?_) (by rfl) rfl ?_ ?_
      rotate_left
      · go_simp
        rfl
      have F5 := (F4.far (j := 0) (v := v1) (by omega : w.heap.size + 1 + 1 < G2)).far (j := 1) (v := v2) (by omega : w.heap.size + 1 + 1 < G2)
      have kA5 := blk_far (p := ⟨G2, 1, none⟩) (blk_far (p := ⟨G2, 0, none⟩) kA4 (by show G ≠ G2; omega) v1) (by show G ≠ G2; omega) v2
      refine hK.out _ _ ⟨F5, kA5⟩ (fun hHeld => ?_)
      clear hK K
      refine done_ (by kernel_rfl) ?_
      (try go_wp2)
      go_meet
      exact ⟨G2, rfl, F5, kA5, blk_put (blk_put kK 0 _ rfl) 1 _ rfl, by omega⟩
    case rest =>
      obtain ⟨G2, rfl, F1, kA1, kK, hG2⟩ := hcut
      have p0 := blk_cell F1.hP 0
      have p1 := blk_cell F1.hP 1
      have p2 := blk_cell F1.hP 2
      have p3 := blk_cell F1.hP 3
      have p4 := blk_cell F1.hP 4
      have p5 := blk_cell F1.hP 5
      have p6 := blk_cell F1.hP 6
      have p7 := blk_cell F1.hP 7
      have b0 := blk_cell kA1 0
      have b1 := blk_cell kA1 1
      have b2 := blk_cell kA1 2
      have b3 := blk_cell kA1 3
      have b4 := blk_cell kA1 4
      have b5 := blk_cell kA1 5
      have q0 := blk_cell kK 0
      have q1 := blk_cell kK 1
      simp only [List.getElem?_toArray, List.getElem?_cons_zero, List.getElem?_cons_succ] at p0 p1 p2 p3 p4 p5 p6 p7 b0 b1 b2 b3 b4 b5 q0 q1
      have HA2 := Aside0.mk (Kd.C_below HR2.out F1.hB)
      have HA7 := Aside0.mk (Kd.C_below HR7.out F1.hB)
      have HF1 := Aside0.mk F1
      clear F1 kA1 kK hG2 hL hG HI
      have e1 := kNeqF
      have e2 := kNeqF'
      have e3 := kNeqN
      have e4 := kNeqN'
      rcases hV with ⟨rfl, rfl, rfl⟩ | ⟨rfl, rfl, rfl⟩ | ⟨rfl, rfl, rfl⟩ | ⟨rfl, rfl, rfl⟩ | ⟨hk, rfl, rfl⟩
      · have h := Hh.out
        unfold policy_Next.f at h
        rw [if_pos rfl, Hc.out] at h
        obtain ⟨n, hn, h⟩ := Option.bind_eq_some_iff.1 h
        simp only [Option.some.injEq, Prod.mk.injEq] at h
        obtain ⟨rfl, rfl, rfl, rfl⟩ := h
        have Hn := Aside0.mk hn
        clear hn Hh Hc
        go_upto_region 10 with (go_at_call 64; refine (policy_kinds_1.calls 1 a0_1 A0_2 c0_2 l0_2 a0_3 a0_4 a0_5 a0_6 A0_7 c0_7 l0_7 a1_0 a1_1 a1_2 c a3 a4 n _ HA2.out HC2.out HA7.out HC7.out Hn.out).mono ?_; rintro e_ w5 ⟨rfl, hb⟩; have HF2 := Aside0.mk (HF1.out.below hb); clear hb)
        have F2 : PolW w w5 #[.int .i64 1, .int .i64 a0_1, .slice A0_2 l0_2.length c0_2, .int .i64 a0_3, .int .i64 a0_4, .int .i64 a0_5, .int .i64 a0_6, .slice A0_7 l0_7.length c0_7] #[.int .i64 a1_0, .int .i64 a1_1, .bool a1_2] := HF2.out
        clear p0 p1 p2 p3 p4 p5 p6 p7 b0 b1 b2 b3 b4 b5 q0 q1 e1 e2 e3 e4 HF1 HF2
        have F3 := F2.drew
        refine start_ (n := 6) (S := fun w' => w'.heap[w.heap.size + 1]? = some (.cells #[.int .i64 a1_0, .int .i64 a1_1, .bool a1_2] 47 (0, 0))) (ds := []) #[false, false, false, false, false, false] (by kernel_rfl) rfl rfl F3.hS (fun hHeld => ?_)
        clear F2
        generalize (w5).drew = w6 at F3 hHeld ⊢
        refine pure_ (i := 1) (N := some 57) (v := ?_) (a' := ?_) #[false, true, false, false, false, false] rfl rfl (by kernel_rfl) (fun _ _ _ h => h) (Or.inl ⟨by rfl, ?_⟩) ?_ ?_
        rotate_left
        · intro w'
          go_simp
          with_reducible rfl
        rotate_left
        · simp only [Act.put, List.setIfInBounds_toArray, List.set_cons_zero, List.set_cons_succ, i64_w, i32_w]
          rfl
        refine pure_ (i := 2) (N := some 58) (v := ?_) (a' := ?_) #[false, true, true, false, false, false] rfl rfl (by kernel_rfl) (fun _ _ _ h => h) (Or.inl ⟨by rfl, ?_⟩) ?_ ?_
        rotate_left
        · intro w'
          go_simp
          with_reducible rfl
        rotate_left
        · simp only [Act.put, List.setIfInBounds_toArray, List.set_cons_zero, List.set_cons_succ, i64_w, i32_w]
          rfl
        refine take_ (i := 0) (N := some 56) (v := ?_) (a' := ?_) #[true, true, true, false, false, false] rfl rfl (by kernel_rfl) (fun _ _ _ h => h) (Or.inl ⟨by rfl, ?_⟩) hHeld ?_ ?_
        rotate_left
        · intro w' hS
          have s0 := blk_cell hS 0
          have s1 := blk_cell hS 1
          have s2 := blk_cell hS 2
          simp only [List.getElem?_toArray, List.getElem?_cons_zero, List.getElem?_cons_succ] at s0 s1 s2
          clear hS
          go_simp
          with_reducible rfl
        rotate_left
        · simp only [Act.put, List.setIfInBounds_toArray, List.set_cons_zero, List.set_cons_succ, i64_w, i32_w]
          rfl
        refine one_ (i := 3) (N := some 59) #[true, true, true, true, false, false] rfl rfl (by kernel_rfl) (by decide) (fun K hK => ?_)
        refine goesV_ Try.func48 (by kernel_rfl) rfl #[.int .i64 (n)] (by rfl) rfl rfl rfl (by simp only [List.map_toArray, List.map_cons, List.map_nil]; rfl) ?_
        refine (polInto_any (n) _).mono ?_
        rintro e_ w_ ⟨rfl, ⟨nd, rfl⟩⟩
        refine ⟨_, rfl, ?_⟩
        have F4 := F3.drewN nd
        clear F3
        refine hK.out _ _ F4.hS (fun hHeld => ?_)
        clear hK K
        refine norm_ (a' := ?_) ?_ ?_
        rotate_left
        · show Act.put _ (some 59) _ = _
          simp only [Act.put, List.setIfInBounds_toArray, List.set_cons_zero, List.set_cons_succ, i64_w, i32_w]
          rfl
        generalize w6.drewN nd = w7 at F4 hHeld ⊢
        refine one_ (i := 4) (N := none) #[true, true, true, true, true, false] rfl rfl (by kernel_rfl) (by decide) (fun K hK => ?_)
        have z0 := blk_cell F4.hR 0
        have f0 := blk_frozen F4.hR 0
        have z1 := blk_cell F4.hR 1
        have f1 := blk_frozen F4.hR 1
        have z2 := blk_cell F4.hR 2
        have f2 := blk_frozen F4.hR 2
        simp only [List.getElem?_toArray, List.getElem?_cons_zero, List.getElem?_cons_succ] at z0 z1 z2
        refine skip_ (w1 := ?_) (by rfl) rfl ?_ ?_
        rotate_left
        · go_simp
          rfl
        have R5 := blk_put (blk_put (blk_put F4.hR 0 (.int .i64 a1_0) rfl) 1 (.int .i64 a1_1) rfl) 2 (.bool a1_2) rfl
        have S5 := blk_far (p := ⟨w.heap.size + 1 + 1, 2, none⟩) (blk_far (p := ⟨w.heap.size + 1 + 1, 1, none⟩) (blk_far (p := ⟨w.heap.size + 1 + 1, 0, none⟩) F4.hS (by show w.heap.size + 1 ≠ w.heap.size + 1 + 1; omega) (.int .i64 a1_0)) (by show w.heap.size + 1 ≠ w.heap.size + 1 + 1; omega) (.int .i64 a1_1)) (by show w.heap.size + 1 ≠ w.heap.size + 1 + 1; omega) (.bool a1_2)
        have B5 := below_set (g := w.heap.size + 1 + 1) (j := 2) (v := .bool a1_2) (below_set (g := w.heap.size + 1 + 1) (j := 1) (v := .int .i64 a1_1) (below_set (g := w.heap.size + 1 + 1) (j := 0) (v := .int .i64 a1_0) F4.hB (by omega)) (by omega)) (by omega)
        clear z0 z1 z2 f0 f1 f2
        refine hK.out _ _ S5 (fun hHeld => ?_)
        clear hK K
        refine pure_ (i := 5) (N := some 11) (v := ?_) (a' := ?_) #[true, true, true, true, true, true] rfl rfl (by kernel_rfl) (fun _ _ _ h => h) (Or.inl ⟨by rfl, ?_⟩) ?_ ?_
        rotate_left
        · intro w'
          go_simp
          with_reducible rfl
        rotate_left
        · simp only [Act.put, List.setIfInBounds_toArray, List.set_cons_zero, List.set_cons_succ, i64_w, i32_w]
          rfl
        refine done_ (by kernel_rfl) ?_
        have HR5 := Aside0.mk R5
        have HB5 := Aside0.mk B5
        clear R5 B5 S5 hHeld F4
        go_wp2
        refine bodyPost_ret (results_ct rfl _ _ (w.heap.size + 1 + 1) 47 _ (0, 0) _ rfl HR5.out Try.underlying47 rfl (by kernel_rfl)) rfl ?_
        exact ⟨rfl, HB5.out⟩
      · have h := Hh.out
        unfold policy_Next.f at h
        rw [if_neg (by omega), if_pos rfl, Hc.out] at h
        obtain ⟨n, hn, h⟩ := Option.bind_eq_some_iff.1 h
        simp only [Option.some.injEq, Prod.mk.injEq] at h
        obtain ⟨rfl, rfl, rfl, rfl⟩ := h
        have Hn := Aside0.mk hn
        clear hn Hh Hc
        go_upto_region 10 with (go_at_call 66; refine (policy_kinds_2.calls 2 a0_1 A0_2 c0_2 l0_2 a0_3 a0_4 a0_5 a0_6 A0_7 c0_7 l0_7 a1_0 a1_1 a1_2 c a3 a4 n _ HA2.out HC2.out HA7.out HC7.out Hn.out).mono ?_; rintro e_ w5 ⟨rfl, hb⟩; have HF2 := Aside0.mk (HF1.out.below hb); clear hb)
        have F2 : PolW w w5 #[.int .i64 2, .int .i64 a0_1, .slice A0_2 l0_2.length c0_2, .int .i64 a0_3, .int .i64 a0_4, .int .i64 a0_5, .int .i64 a0_6, .slice A0_7 l0_7.length c0_7] #[.int .i64 a1_0, .int .i64 a1_1, .bool a1_2] := HF2.out
        clear p0 p1 p2 p3 p4 p5 p6 p7 b0 b1 b2 b3 b4 b5 q0 q1 e1 e2 e3 e4 HF1 HF2
        have F3 := F2.drew
        refine start_ (n := 6) (S := fun w' => w'.heap[w.heap.size + 1]? = some (.cells #[.int .i64 a1_0, .int .i64 a1_1, .bool a1_2] 47 (0, 0))) (ds := []) #[false, false, false, false, false, false] (by kernel_rfl) rfl rfl F3.hS (fun hHeld => ?_)
        clear F2
        generalize (w5).drew = w6 at F3 hHeld ⊢
        refine pure_ (i := 1) (N := some 57) (v := ?_) (a' := ?_) #[false, true, false, false, false, false] rfl rfl (by kernel_rfl) (fun _ _ _ h => h) (Or.inl ⟨by rfl, ?_⟩) ?_ ?_
        rotate_left
        · intro w'
          go_simp
          with_reducible rfl
        rotate_left
        · simp only [Act.put, List.setIfInBounds_toArray, List.set_cons_zero, List.set_cons_succ, i64_w, i32_w]
          rfl
        refine pure_ (i := 2) (N := some 58) (v := ?_) (a' := ?_) #[false, true, true, false, false, false] rfl rfl (by kernel_rfl) (fun _ _ _ h => h) (Or.inl ⟨by rfl, ?_⟩) ?_ ?_
        rotate_left
        · intro w'
          go_simp
          with_reducible rfl
        rotate_left
        · simp only [Act.put, List.setIfInBounds_toArray, List.set_cons_zero, List.set_cons_succ, i64_w, i32_w]
          rfl
        refine take_ (i := 0) (N := some 56) (v := ?_) (a' := ?_) #[true, true, true, false, false, false] rfl rfl (by kernel_rfl) (fun _ _ _ h => h) (Or.inl ⟨by rfl, ?_⟩) hHeld ?_ ?_
        rotate_left
        · intro w' hS
          have s0 := blk_cell hS 0
          have s1 := blk_cell hS 1
          have s2 := blk_cell hS 2
          simp only [List.getElem?_toArray, List.getElem?_cons_zero, List.getElem?_cons_succ] at s0 s1 s2
          clear hS
          go_simp
          with_reducible rfl
        rotate_left
        · simp only [Act.put, List.setIfInBounds_toArray, List.set_cons_zero, List.set_cons_succ, i64_w, i32_w]
          rfl
        refine one_ (i := 3) (N := some 59) #[true, true, true, true, false, false] rfl rfl (by kernel_rfl) (by decide) (fun K hK => ?_)
        refine goesV_ Try.func48 (by kernel_rfl) rfl #[.int .i64 (n)] (by rfl) rfl rfl rfl (by simp only [List.map_toArray, List.map_cons, List.map_nil]; rfl) ?_
        refine (polInto_any (n) _).mono ?_
        rintro e_ w_ ⟨rfl, ⟨nd, rfl⟩⟩
        refine ⟨_, rfl, ?_⟩
        have F4 := F3.drewN nd
        clear F3
        refine hK.out _ _ F4.hS (fun hHeld => ?_)
        clear hK K
        refine norm_ (a' := ?_) ?_ ?_
        rotate_left
        · show Act.put _ (some 59) _ = _
          simp only [Act.put, List.setIfInBounds_toArray, List.set_cons_zero, List.set_cons_succ, i64_w, i32_w]
          rfl
        generalize w6.drewN nd = w7 at F4 hHeld ⊢
        refine one_ (i := 4) (N := none) #[true, true, true, true, true, false] rfl rfl (by kernel_rfl) (by decide) (fun K hK => ?_)
        have z0 := blk_cell F4.hR 0
        have f0 := blk_frozen F4.hR 0
        have z1 := blk_cell F4.hR 1
        have f1 := blk_frozen F4.hR 1
        have z2 := blk_cell F4.hR 2
        have f2 := blk_frozen F4.hR 2
        simp only [List.getElem?_toArray, List.getElem?_cons_zero, List.getElem?_cons_succ] at z0 z1 z2
        refine skip_ (w1 := ?_) (by rfl) rfl ?_ ?_
        rotate_left
        · go_simp
          rfl
        have R5 := blk_put (blk_put (blk_put F4.hR 0 (.int .i64 a1_0) rfl) 1 (.int .i64 a1_1) rfl) 2 (.bool a1_2) rfl
        have S5 := blk_far (p := ⟨w.heap.size + 1 + 1, 2, none⟩) (blk_far (p := ⟨w.heap.size + 1 + 1, 1, none⟩) (blk_far (p := ⟨w.heap.size + 1 + 1, 0, none⟩) F4.hS (by show w.heap.size + 1 ≠ w.heap.size + 1 + 1; omega) (.int .i64 a1_0)) (by show w.heap.size + 1 ≠ w.heap.size + 1 + 1; omega) (.int .i64 a1_1)) (by show w.heap.size + 1 ≠ w.heap.size + 1 + 1; omega) (.bool a1_2)
        have B5 := below_set (g := w.heap.size + 1 + 1) (j := 2) (v := .bool a1_2) (below_set (g := w.heap.size + 1 + 1) (j := 1) (v := .int .i64 a1_1) (below_set (g := w.heap.size + 1 + 1) (j := 0) (v := .int .i64 a1_0) F4.hB (by omega)) (by omega)) (by omega)
        clear z0 z1 z2 f0 f1 f2
        refine hK.out _ _ S5 (fun hHeld => ?_)
        clear hK K
        refine pure_ (i := 5) (N := some 11) (v := ?_) (a' := ?_) #[true, true, true, true, true, true] rfl rfl (by kernel_rfl) (fun _ _ _ h => h) (Or.inl ⟨by rfl, ?_⟩) ?_ ?_
        rotate_left
        · intro w'
          go_simp
          with_reducible rfl
        rotate_left
        · simp only [Act.put, List.setIfInBounds_toArray, List.set_cons_zero, List.set_cons_succ, i64_w, i32_w]
          rfl
        refine done_ (by kernel_rfl) ?_
        have HR5 := Aside0.mk R5
        have HB5 := Aside0.mk B5
        clear R5 B5 S5 hHeld F4
        go_wp2
        refine bodyPost_ret (results_ct rfl _ _ (w.heap.size + 1 + 1) 47 _ (0, 0) _ rfl HR5.out Try.underlying47 rfl (by kernel_rfl)) rfl ?_
        exact ⟨rfl, HB5.out⟩
      · have h := Hh.out
        unfold policy_Next.f at h
        rw [if_neg (by omega), if_neg (by omega), if_pos rfl, Hc.out] at h
        obtain ⟨⟨y1, y2, y3, n⟩, hn, h⟩ := Option.bind_eq_some_iff.1 h
        simp only [Option.some.injEq, Prod.mk.injEq] at h
        obtain ⟨rfl, rfl, rfl, rfl⟩ := h
        have Hn := Aside0.mk hn
        clear hn Hh Hc
        go_upto_region 10 with (go_at_call 68; refine (policy_kinds_3.calls k 3 a0_1 A0_2 c0_2 l0_2 a0_3 a0_4 a0_5 a0_6 A0_7 c0_7 l0_7 a1_0 a1_1 a1_2 c a3 a4 y1 y2 y3 n _ HA2.out HC2.out HA7.out HC7.out Hn.out).mono ?_; rintro e_ w5 ⟨rfl, hb⟩; have HF2 := Aside0.mk (HF1.out.below hb); clear hb; have t0 := fun o => (HF2.out.cells o).1; have t1 := fun o => (HF2.out.cells o).2.1; have t2 := fun o => (HF2.out.cells o).2.2; have tf0 := fun o => blk_frozen (blk_alloc HF2.out.hS o) 0; have tf1 := fun o => blk_frozen (blk_alloc HF2.out.hS o) 1; have tf2 := fun o => blk_frozen (blk_alloc HF2.out.hS o) 2)
        have F2 : PolW w ((((w5.alloc (.cells #[.int .i64 y1, .int .i64 y2, .bool y3] 47)).setCell ⟨w.heap.size + 1, 0, none⟩ (.int .i64 y1)).setCell ⟨w.heap.size + 1, 1, none⟩ (.int .i64 y2)).setCell ⟨w.heap.size + 1, 2, none⟩ (.bool y3)) #[.int .i64 3, .int .i64 a0_1, .slice A0_2 l0_2.length c0_2, .int .i64 a0_3, .int .i64 a0_4, .int .i64 a0_5, .int .i64 a0_6, .slice A0_7 l0_7.length c0_7] #[.int .i64 y1, .int .i64 y2, .bool y3] := (HF2.out.alloc _).put _ _ _
        clear p0 p1 p2 p3 p4 p5 p6 p7 b0 b1 b2 b3 b4 b5 q0 q1 e1 e2 e3 e4 HF1 t0 t1 t2 tf0 tf1 tf2 HF2
        generalize ((((w5.alloc (.cells #[.int .i64 y1, .int .i64 y2, .bool y3] 47)).setCell ⟨w.heap.size + 1, 0, none⟩ (.int .i64 y1)).setCell ⟨w.heap.size + 1, 1, none⟩ (.int .i64 y2)).setCell ⟨w.heap.size + 1, 2, none⟩ (.bool y3)) = w5b at F2 ⊢
        have F3 := F2.drew
        refine start_ (n := 6) (S := fun w' => w'.heap[w.heap.size + 1]? = some (.cells #[.int .i64 y1, .int .i64 y2, .bool y3] 47 (0, 0))) (ds := []) #[false, false, false, false, false, false] (by kernel_rfl) rfl rfl F3.hS (fun hHeld => ?_)
        clear F2
        generalize (w5b).drew = w6 at F3 hHeld ⊢
        refine pure_ (i := 1) (N := some 57) (v := ?_) (a' := ?_) #[false, true, false, false, false, false] rfl rfl (by kernel_rfl) (fun _ _ _ h => h) (Or.inl ⟨by rfl, ?_⟩) ?_ ?_
        rotate_left
        · intro w'
          go_simp
          with_reducible rfl
        rotate_left
        · simp only [Act.put, List.setIfInBounds_toArray, List.set_cons_zero, List.set_cons_succ, i64_w, i32_w]
          rfl
        refine pure_ (i := 2) (N := some 58) (v := ?_) (a' := ?_) #[false, true, true, false, false, false] rfl rfl (by kernel_rfl) (fun _ _ _ h => h) (Or.inl ⟨by rfl, ?_⟩) ?_ ?_
        rotate_left
        · intro w'
          go_simp
          with_reducible rfl
        rotate_left
        · simp only [Act.put, List.setIfInBounds_toArray, List.set_cons_zero, List.set_cons_succ, i64_w, i32_w]
          rfl
        refine take_ (i := 0) (N := some 56) (v := ?_) (a' := ?_) #[true, true, true, false, false, false] rfl rfl (by kernel_rfl) (fun _ _ _ h => h) (Or.inl ⟨by rfl, ?_⟩) hHeld ?_ ?_
        rotate_left
        · intro w' hS
          have s0 := blk_cell hS 0
          have s1 := blk_cell hS 1
          have s2 := blk_cell hS 2
          simp only [List.getElem?_toArray, List.getElem?_cons_zero, List.getElem?_cons_succ] at s0 s1 s2
          clear hS
          go_simp
          with_reducible rfl
        rotate_left
        · simp only [Act.put, List.setIfInBounds_toArray, List.set_cons_zero, List.set_cons_succ, i64_w, i32_w]
          rfl
        refine one_ (i := 3) (N := some 59) #[true, true, true, true, false, false] rfl rfl (by kernel_rfl) (by decide) (fun K hK => ?_)
        refine goesV_ Try.func48 (by kernel_rfl) rfl #[.int .i64 (wrap64 (c + n))] (by rfl) rfl rfl rfl (by simp only [List.map_toArray, List.map_cons, List.map_nil]; rfl) ?_
        refine (polInto_any (wrap64 (c + n)) _).mono ?_
        rintro e_ w_ ⟨rfl, ⟨nd, rfl⟩⟩
        refine ⟨_, rfl, ?_⟩
        have F4 := F3.drewN nd
        clear F3
        refine hK.out _ _ F4.hS (fun hHeld => ?_)
        clear hK K
        refine norm_ (a' := ?_) ?_ ?_
        rotate_left
        · show Act.put _ (some 59) _ = _
          simp only [Act.put, List.setIfInBounds_toArray, List.set_cons_zero, List.set_cons_succ, i64_w, i32_w]
          rfl
        generalize w6.drewN nd = w7 at F4 hHeld ⊢
        refine one_ (i := 4) (N := none) #[true, true, true, true, true, false] rfl rfl (by kernel_rfl) (by decide) (fun K hK => ?_)
        have z0 := blk_cell F4.hR 0
        have f0 := blk_frozen F4.hR 0
        have z1 := blk_cell F4.hR 1
        have f1 := blk_frozen F4.hR 1
        have z2 := blk_cell F4.hR 2
        have f2 := blk_frozen F4.hR 2
        simp only [List.getElem?_toArray, List.getElem?_cons_zero, List.getElem?_cons_succ] at z0 z1 z2
        refine skip_ (w1 := ?_) (by rfl) rfl ?_ ?_
        rotate_left
        · go_simp
          rfl
        have R5 := blk_put (blk_put (blk_put F4.hR 0 (.int .i64 y1) rfl) 1 (.int .i64 y2) rfl) 2 (.bool y3) rfl
        have S5 := blk_far (p := ⟨w.heap.size + 1 + 1, 2, none⟩) (blk_far (p := ⟨w.heap.size + 1 + 1, 1, none⟩) (blk_far (p := ⟨w.heap.size + 1 + 1, 0, none⟩) F4.hS (by show w.heap.size + 1 ≠ w.heap.size + 1 + 1; omega) (.int .i64 y1)) (by show w.heap.size + 1 ≠ w.heap.size + 1 + 1; omega) (.int .i64 y2)) (by show w.heap.size + 1 ≠ w.heap.size + 1 + 1; omega) (.bool y3)
        have B5 := below_set (g := w.heap.size + 1 + 1) (j := 2) (v := .bool y3) (below_set (g := w.heap.size + 1 + 1) (j := 1) (v := .int .i64 y2) (below_set (g := w.heap.size + 1 + 1) (j := 0) (v := .int .i64 y1) F4.hB (by omega)) (by omega)) (by omega)
        clear z0 z1 z2 f0 f1 f2
        refine hK.out _ _ S5 (fun hHeld => ?_)
        clear hK K
        refine pure_ (i := 5) (N := some 11) (v := ?_) (a' := ?_) #[true, true, true, true, true, true] rfl rfl (by kernel_rfl) (fun _ _ _ h => h) (Or.inl ⟨by rfl, ?_⟩) ?_ ?_
        rotate_left
        · intro w'
          go_simp
          with_reducible rfl
        rotate_left
        · simp only [Act.put, List.setIfInBounds_toArray, List.set_cons_zero, List.set_cons_succ, i64_w, i32_w]
          rfl
        refine done_ (by kernel_rfl) ?_
        have HR5 := Aside0.mk R5
        have HB5 := Aside0.mk B5
        clear R5 B5 S5 hHeld F4
        go_wp2
        refine bodyPost_ret (results_ct rfl _ _ (w.heap.size + 1 + 1) 47 _ (0, 0) _ rfl HR5.out Try.underlying47 rfl (by kernel_rfl)) rfl ?_
        exact ⟨rfl, HB5.out⟩
      · have h := Hh.out
        unfold policy_Next.f at h
        rw [if_neg (by omega), if_neg (by omega), if_neg (by omega), if_pos rfl, Hc.out] at h
        obtain ⟨n, hn, h⟩ := Option.bind_eq_some_iff.1 h
        simp only [Option.some.injEq, Prod.mk.injEq] at h
        obtain ⟨rfl, rfl, rfl, rfl⟩ := h
        have Hn := Aside0.mk hn
        clear hn Hh Hc
        go_upto_region 10 with (go_at_call 70; refine (policy_kinds_4.calls 4 a0_1 A0_2 c0_2 l0_2 a0_3 a0_4 a0_5 a0_6 A0_7 c0_7 l0_7 a1_0 a1_1 a1_2 c a3 a4 n _ HA2.out HC2.out HA7.out HC7.out Hn.out).mono ?_; rintro e_ w5 ⟨rfl, hb⟩; have HF2 := Aside0.mk (HF1.out.below hb); clear hb)
        have F2 : PolW w w5 #[.int .i64 4, .int .i64 a0_1, .slice A0_2 l0_2.length c0_2, .int .i64 a0_3, .int .i64 a0_4, .int .i64 a0_5, .int .i64 a0_6, .slice A0_7 l0_7.length c0_7] #[.int .i64 a1_0, .int .i64 a1_1, .bool a1_2] := HF2.out
        clear p0 p1 p2 p3 p4 p5 p6 p7 b0 b1 b2 b3 b4 b5 q0 q1 e1 e2 e3 e4 HF1 HF2
        have F3 := F2.drew
        refine start_ (n := 6) (S := fun w' => w'.heap[w.heap.size + 1]? = some (.cells #[.int .i64 a1_0, .int .i64 a1_1, .bool a1_2] 47 (0, 0))) (ds := []) #[false, false, false, false, false, false] (by kernel_rfl) rfl rfl F3.hS (fun hHeld => ?_)
        clear F2
        generalize (w5).drew = w6 at F3 hHeld ⊢
        refine pure_ (i := 1) (N := some 57) (v := ?_) (a' := ?_) #[false, true, false, false, false, false] rfl rfl (by kernel_rfl) (fun _ _ _ h => h) (Or.inl ⟨by rfl, ?_⟩) ?_ ?_
        rotate_left
        · intro w'
          go_simp
          with_reducible rfl
        rotate_left
        · simp only [Act.put, List.setIfInBounds_toArray, List.set_cons_zero, List.set_cons_succ, i64_w, i32_w]
          rfl
        refine pure_ (i := 2) (N := some 58) (v := ?_) (a' := ?_) #[false, true, true, false, false, false] rfl rfl (by kernel_rfl) (fun _ _ _ h => h) (Or.inl ⟨by rfl, ?_⟩) ?_ ?_
        rotate_left
        · intro w'
          go_simp
          with_reducible rfl
        rotate_left
        · simp only [Act.put, List.setIfInBounds_toArray, List.set_cons_zero, List.set_cons_succ, i64_w, i32_w]
          rfl
        refine take_ (i := 0) (N := some 56) (v := ?_) (a' := ?_) #[true, true, true, false, false, false] rfl rfl (by kernel_rfl) (fun _ _ _ h => h) (Or.inl ⟨by rfl, ?_⟩) hHeld ?_ ?_
        rotate_left
        · intro w' hS
          have s0 := blk_cell hS 0
          have s1 := blk_cell hS 1
          have s2 := blk_cell hS 2
          simp only [List.getElem?_toArray, List.getElem?_cons_zero, List.getElem?_cons_succ] at s0 s1 s2
          clear hS
          go_simp
          with_reducible rfl
        rotate_left
        · simp only [Act.put, List.setIfInBounds_toArray, List.set_cons_zero, List.set_cons_succ, i64_w, i32_w]
          rfl
        refine one_ (i := 3) (N := some 59) #[true, true, true, true, false, false] rfl rfl (by kernel_rfl) (by decide) (fun K hK => ?_)
        refine goesV_ Try.func48 (by kernel_rfl) rfl #[.int .i64 (n)] (by rfl) rfl rfl rfl (by simp only [List.map_toArray, List.map_cons, List.map_nil]; rfl) ?_
        refine (polInto_any (n) _).mono ?_
        rintro e_ w_ ⟨rfl, ⟨nd, rfl⟩⟩
        refine ⟨_, rfl, ?_⟩
        have F4 := F3.drewN nd
        clear F3
        refine hK.out _ _ F4.hS (fun hHeld => ?_)
        clear hK K
        refine norm_ (a' := ?_) ?_ ?_
        rotate_left
        · show Act.put _ (some 59) _ = _
          simp only [Act.put, List.setIfInBounds_toArray, List.set_cons_zero, List.set_cons_succ, i64_w, i32_w]
          rfl
        generalize w6.drewN nd = w7 at F4 hHeld ⊢
        refine one_ (i := 4) (N := none) #[true, true, true, true, true, false] rfl rfl (by kernel_rfl) (by decide) (fun K hK => ?_)
        have z0 := blk_cell F4.hR 0
        have f0 := blk_frozen F4.hR 0
        have z1 := blk_cell F4.hR 1
        have f1 := blk_frozen F4.hR 1
        have z2 := blk_cell F4.hR 2
        have f2 := blk_frozen F4.hR 2
        simp only [List.getElem?_toArray, List.getElem?_cons_zero, List.getElem?_cons_succ] at z0 z1 z2
        refine skip_ (w1 := ?_) (by rfl) rfl ?_ ?_
        rotate_left
        · go_simp
          rfl
        have R5 := blk_put (blk_put (blk_put F4.hR 0 (.int .i64 a1_0) rfl) 1 (.int .i64 a1_1) rfl) 2 (.bool a1_2) rfl
        have S5 := blk_far (p := ⟨w.heap.size + 1 + 1, 2, none⟩) (blk_far (p := ⟨w.heap.size + 1 + 1, 1, none⟩) (blk_far (p := ⟨w.heap.size + 1 + 1, 0, none⟩) F4.hS (by show w.heap.size + 1 ≠ w.heap.size + 1 + 1; omega) (.int .i64 a1_0)) (by show w.heap.size + 1 ≠ w.heap.size + 1 + 1; omega) (.int .i64 a1_1)) (by show w.heap.size + 1 ≠ w.heap.size + 1 + 1; omega) (.bool a1_2)
        have B5 := below_set (g := w.heap.size + 1 + 1) (j := 2) (v := .bool a1_2) (below_set (g := w.heap.size + 1 + 1) (j := 1) (v := .int .i64 a1_1) (below_set (g := w.heap.size + 1 + 1) (j := 0) (v := .int .i64 a1_0) F4.hB (by omega)) (by omega)) (by omega)
        clear z0 z1 z2 f0 f1 f2
        refine hK.out _ _ S5 (fun hHeld => ?_)
        clear hK K
        refine pure_ (i := 5) (N := some 11) (v := ?_) (a' := ?_) #[true, true, true, true, true, true] rfl rfl (by kernel_rfl) (fun _ _ _ h => h) (Or.inl ⟨by rfl, ?_⟩) ?_ ?_
        rotate_left
        · intro w'
          go_simp
          with_reducible rfl
        rotate_left
        · simp only [Act.put, List.setIfInBounds_toArray, List.set_cons_zero, List.set_cons_succ, i64_w, i32_w]
          rfl
        refine done_ (by kernel_rfl) ?_
        have HR5 := Aside0.mk R5
        have HB5 := Aside0.mk B5
        clear R5 B5 S5 hHeld F4
        go_wp2
        refine bodyPost_ret (results_ct rfl _ _ (w.heap.size + 1 + 1) 47 _ (0, 0) _ rfl HR5.out Try.underlying47 rfl (by kernel_rfl)) rfl ?_
        exact ⟨rfl, HB5.out⟩
      · have h := Hh.out
        unfold policy_Next.f at h
        rw [if_neg hk.1, if_neg hk.2.1, if_neg hk.2.2.1, if_neg hk.2.2.2, Hc.out] at h
        simp only [Option.some.injEq, Prod.mk.injEq] at h
        obtain ⟨rfl, rfl, rfl, rfl⟩ := h
        clear hk Hh Hc
        go_upto_region 10 with (fail)
        have F2 : PolW w wc #[.int .i64 a0_0, .int .i64 a0_1, .slice A0_2 l0_2.length c0_2, .int .i64 a0_3, .int .i64 a0_4, .int .i64 a0_5, .int .i64 a0_6, .slice A0_7 l0_7.length c0_7] #[.int .i64 a1_0, .int .i64 a1_1, .bool a1_2] := HF1.out
        clear p0 p1 p2 p3 p4 p5 p6 p7 b0 b1 b2 b3 b4 b5 q0 q1 e1 e2 e3 e4 HF1
        have F3 := F2.drew
        refine start_ (n := 6) (S := fun w' => w'.heap[w.heap.size + 1]? = some (.cells #[.int .i64 a1_0, .int .i64 a1_1, .bool a1_2] 47 (0, 0))) (ds := []) #[false, false, false, false, false, false] (by kernel_rfl) rfl rfl F3.hS (fun hHeld => ?_)
        clear F2
        generalize (wc).drew = w6 at F3 hHeld ⊢
        refine pure_ (i := 1) (N := some 57) (v := ?_) (a' := ?_) #[false, true, false, false, false, false] rfl rfl (by kernel_rfl) (fun _ _ _ h => h) (Or.inl ⟨by rfl, ?_⟩) ?_ ?_
        rotate_left
        · intro w'
          go_simp
          with_reducible rfl
        rotate_left
        · simp only [Act.put, List.setIfInBounds_toArray, List.set_cons_zero, List.set_cons_succ, i64_w, i32_w]
          rfl
        refine pure_ (i := 2) (N := some 58) (v := ?_) (a' := ?_) #[false, true, true, false, false, false] rfl rfl (by kernel_rfl) (fun _ _ _ h => h) (Or.inl ⟨by rfl, ?_⟩) ?_ ?_
        rotate_left
        · intro w'
          go_simp
          with_reducible rfl
        rotate_left
        · simp only [Act.put, List.setIfInBounds_toArray, List.set_cons_zero, List.set_cons_succ, i64_w, i32_w]
          rfl
        refine take_ (i := 0) (N := some 56) (v := ?_) (a' := ?_) #[true, true, true, false, false, false] rfl rfl (by kernel_rfl) (fun _ _ _ h => h) (Or.inl ⟨by rfl, ?_⟩) hHeld ?_ ?_
        rotate_left
        · intro w' hS
          have s0 := blk_cell hS 0
          have s1 := blk_cell hS 1
          have s2 := blk_cell hS 2
          simp only [List.getElem?_toArray, List.getElem?_cons_zero, List.getElem?_cons_succ] at s0 s1 s2
          clear hS
          go_simp
          with_reducible rfl
        rotate_left
        · simp only [Act.put, List.setIfInBounds_toArray, List.set_cons_zero, List.set_cons_succ, i64_w, i32_w]
          rfl
        refine one_ (i := 3) (N := some 59) #[true, true, true, true, false, false] rfl rfl (by kernel_rfl) (by decide) (fun K hK => ?_)
        refine goesV_ Try.func48 (by kernel_rfl) rfl #[.int .i64 (c)] (by rfl) rfl rfl rfl (by simp only [List.map_toArray, List.map_cons, List.map_nil]; rfl) ?_
        refine (polInto_any (c) _).mono ?_
        rintro e_ w_ ⟨rfl, ⟨nd, rfl⟩⟩
        refine ⟨_, rfl, ?_⟩
        have F4 := F3.drewN nd
        clear F3
        refine hK.out _ _ F4.hS (fun hHeld => ?_)
        clear hK K
        refine norm_ (a' := ?_) ?_ ?_
        rotate_left
        · show Act.put _ (some 59) _ = _
          simp only [Act.put, List.setIfInBounds_toArray, List.set_cons_zero, List.set_cons_succ, i64_w, i32_w]
          rfl
        generalize w6.drewN nd = w7 at F4 hHeld ⊢
        refine one_ (i := 4) (N := none) #[true, true, true, true, true, false] rfl rfl (by kernel_rfl) (by decide) (fun K hK => ?_)
        have z0 := blk_cell F4.hR 0
        have f0 := blk_frozen F4.hR 0
        have z1 := blk_cell F4.hR 1
        have f1 := blk_frozen F4.hR 1
        have z2 := blk_cell F4.hR 2
        have f2 := blk_frozen F4.hR 2
        simp only [List.getElem?_toArray, List.getElem?_cons_zero, List.getElem?_cons_succ] at z0 z1 z2
        refine skip_ (w1 := ?_) (by rfl) rfl ?_ ?_
        rotate_left
        · go_simp
          rfl
        have R5 := blk_put (blk_put (blk_put F4.hR 0 (.int .i64 a1_0) rfl) 1 (.int .i64 a1_1) rfl) 2 (.bool a1_2) rfl
        have S5 := blk_far (p := ⟨w.heap.size + 1 + 1, 2, none⟩) (blk_far (p := ⟨w.heap.size + 1 + 1, 1, none⟩) (blk_far (p := ⟨w.heap.size + 1 + 1, 0, none⟩) F4.hS (by show w.heap.size + 1 ≠ w.heap.size + 1 + 1; omega) (.int .i64 a1_0)) (by show w.heap.size + 1 ≠ w.heap.size + 1 + 1; omega) (.int .i64 a1_1)) (by show w.heap.size + 1 ≠ w.heap.size + 1 + 1; omega) (.bool a1_2)
        have B5 := below_set (g := w.heap.size + 1 + 1) (j := 2) (v := .bool a1_2) (below_set (g := w.heap.size + 1 + 1) (j := 1) (v := .int .i64 a1_1) (below_set (g := w.heap.size + 1 + 1) (j := 0) (v := .int .i64 a1_0) F4.hB (by omega)) (by omega)) (by omega)
        clear z0 z1 z2 f0 f1 f2
        refine hK.out _ _ S5 (fun hHeld => ?_)
        clear hK K
        refine pure_ (i := 5) (N := some 11) (v := ?_) (a' := ?_) #[true, true, true, true, true, true] rfl rfl (by kernel_rfl) (fun _ _ _ h => h) (Or.inl ⟨by rfl, ?_⟩) ?_ ?_
        rotate_left
        · intro w'
          go_simp
          with_reducible rfl
        rotate_left
        · simp only [Act.put, List.setIfInBounds_toArray, List.set_cons_zero, List.set_cons_succ, i64_w, i32_w]
          rfl
        refine done_ (by kernel_rfl) ?_
        have HR5 := Aside0.mk R5
        have HB5 := Aside0.mk B5
        clear R5 B5 S5 hHeld F4
        go_wp2
        refine bodyPost_ret (results_ct rfl _ _ (w.heap.size + 1 + 1) 47 _ (0, 0) _ rfl HR5.out Try.underlying47 rfl (by kernel_rfl)) rfl ?_
        exact ⟨rfl, HB5.out⟩

end Go.Proofs.Ytgeldfjpafimpaa.PAll
