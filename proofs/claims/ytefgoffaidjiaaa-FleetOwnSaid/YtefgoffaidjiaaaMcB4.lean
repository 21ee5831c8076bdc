/- What the laws FleetOwn lean on: the contracts of the functions that they reach, part 4 of 5. -/
import Derived.Test.YtefgoffaidjiaaaMcB3
namespace Go.Proofs.Ytefgoffaidjiaaa.PAll
open Go.RowKit Go.Proofs.YtefgoffaidjiaaaW.PrintWords Go.Proofs.YtefgoffaidjiaaaW.PrintLast Go.Proofs.YtefgoffaidjiaaaW.PrintMore
attribute [local go_sem] max2_int min2_int max_two min_two max_three min_three max_four min_four   -- for this text's walks alone
set_option linter.unusedVariables false
set_option linter.unusedSimpArgs false

/-! ### fleet_runner_run: function 29 -/
theorem os_below {w W W1 : World} (h : W.os = w.os ∧ W.tape = w.tape ∧ W.output = w.output) (hb : Below W.heap.size W W1) : W1.os = w.os ∧ W1.tape = w.tape ∧ W1.output = w.output := ⟨hb.os.trans h.1, hb.tape.trans h.2.1, hb.output.trans h.2.2⟩
theorem os_set {w W : World} {p : Addr} {u : Value} (h : W.os = w.os ∧ W.tape = w.tape ∧ W.output = w.output) : (W.setCell p u).os = w.os ∧ (W.setCell p u).tape = w.tape ∧ (W.setCell p u).output = w.output := h
set_option maxHeartbeats 8000000 in
set_option maxRecDepth 100000 in
theorem fleet_run (G : Nat) (p0 p1 : Int) (A2 : Option Addr) (c2 : Nat) (l2 : List (S56)) (p3 p4 p5 p6 : Int) (A7 : Option Addr) (c7 : Nat) (l7 : List (S58)) (s0 s1 : Int) (s2 : Bool) (h0 h1 : Int) (h2 : Bool) (R : Int) (A15 : Option Addr) (c15 : Nat) (l15 : List Int) (wt ut : Int) (A18 : Option Addr) (c18 : Nat) (l18 : List (S52)) (q0 q1 q2 q3 q4 q5 q6 q7 q8 q9 q10 q11 : Int) (now : Int) (B : Nat) (want demand : Int) (w : World) (hG : w.heap[G]? = some (.cells #[.int .i64 p0, .int .i64 p1, .slice A2 l2.length c2, .int .i64 p3, .int .i64 p4, .int .i64 p5, .int .i64 p6, .slice A7 l7.length c7, .int .i64 s0, .int .i64 s1, .bool s2, .int .i64 h0, .int .i64 h1, .bool h2, .int .i64 R, .slice A15 l15.length c15, .int .i64 wt, .int .i64 ut, .slice A18 l18.length c18, .int .i64 q0, .int .i64 q1, .int .i64 q2, .int .i64 q3, .int .i64 q4, .int .i64 q5, .int .i64 q6, .int .i64 q7, .int .i64 q8, .int .i64 q9, .int .i64 q10, .int .i64 q11, .int .i64 now] 69 (0, 0)))
    (hQS : (Kd.int .i64).Q 3 w B (fun _ => True) (.slice A15 l15.length c15) l15) (hQM : k52.Q 52 w B (fun _ => True) (.slice A18 l18.length c18) l18) (hB0 : B ≤ w.heap.size)
    (k0 k1 : Int) (k2 : Bool) (hL : limit_Next.f q0 q1 q2 q3 q4 q5 q6 q7 q8 q9 q10 q11 h0 h1 h2 want now = some (k0, k1, k2)) (R' : Int) (l15' : List Int) (wt' ut' cost : Int) (bad : Bool) (hP : plant_Step.f q0 q1 q2 q3 q4 q5 q6 q7 q8 q9 q10 q11 R l15 wt ut k0 demand = some (R', l15', wt', ut', cost, bad)) (l18' : List (S52)) (hA : score_Add.f q7 l18 cost bad = some l18') :
    Calls Try.prog 29 #[.pointer (some ⟨G, 0, none⟩), .int .i64 want, .int .i64 demand] w fun e w' => ∃ (B15 : Option Addr) (d15 : Nat) (B18 : Option Addr) (d18 : Nat), e = .returned (.tuple #[]) ∧ w'.heap[G]? = some (.cells #[.int .i64 p0, .int .i64 p1, .slice A2 l2.length c2, .int .i64 p3, .int .i64 p4, .int .i64 p5, .int .i64 p6, .slice A7 l7.length c7, .int .i64 s0, .int .i64 s1, .bool s2, .int .i64 k0, .int .i64 k1, .bool k2, .int .i64 R', .slice B15 l15'.length d15, .int .i64 wt', .int .i64 ut', .slice B18 l18'.length d18, .int .i64 q0, .int .i64 q1, .int .i64 q2, .int .i64 q3, .int .i64 q4, .int .i64 q5, .int .i64 q6, .int .i64 q7, .int .i64 q8, .int .i64 q9, .int .i64 q10, .int .i64 q11, .int .i64 now] 69 (0, 0)) ∧ (Kd.int .i64).Q 3 w' B (fun _ => True) (.slice B15 l15'.length d15) l15' ∧ k52.Q 52 w' B (fun _ => True) (.slice B18 l18'.length d18) l18' ∧ Kept w w' (fun k => k = G) ∧ (w'.os = w.os ∧ w'.tape = w.tape ∧ w'.output = w.output) := by
  have hu0 := Try.underlying69
  have hu1 := Try.underlying37
  have hu2 := Try.underlying27
  have hu3 := Try.underlying29
  have hu4 := Try.underlying23
  have hu5 := Try.underlying31
  have hu6 := Try.underlying34
  have hu7 := Try.underlying52
  have HL := Aside0.mk hL
  have HP := Aside0.mk hP
  have HA := Aside0.mk hA
  clear hL hP hA
  have hGl := blk_lt hG
  go_enter Try.func29, Try.ntmps29
  go_upto_region 0 with (fail)
  refine start_ (n := 20) (S := fun w' => w'.heap[G]? = some (.cells #[.int .i64 p0, .int .i64 p1, .slice A2 l2.length c2, .int .i64 p3, .int .i64 p4, .int .i64 p5, .int .i64 p6, .slice A7 l7.length c7, .int .i64 s0, .int .i64 s1, .bool s2, .int .i64 h0, .int .i64 h1, .bool h2, .int .i64 R, .slice A15 l15.length c15, .int .i64 wt, .int .i64 ut, .slice A18 l18.length c18, .int .i64 q0, .int .i64 q1, .int .i64 q2, .int .i64 q3, .int .i64 q4, .int .i64 q5, .int .i64 q6, .int .i64 q7, .int .i64 q8, .int .i64 q9, .int .i64 q10, .int .i64 q11, .int .i64 now] 69 (0, 0))) (ds := [19]) #[false, false, false, false, false, false, false, false, false, false, false, false, false, false, false, false, false, false, false, false] (by kernel_rfl) rfl rfl hG (fun hHeld => ?_)
  have FB := Kept.refl w (fun k => k = G)
  have FO : w.os = w.os ∧ w.tape = w.tape ∧ w.output = w.output := ⟨rfl, rfl, rfl⟩
  have FB := Kept.below FB (below_drew1 (Below.refl _ _))
  have FO := os_below FO (below_drew1 (Below.refl _ _))
  have FG := blk_below hG (below_drew1 (Below.refl _ _))
  have FS := Kd.Q_below hQS (below_drew1 (Below.refl _ _))
  have FM := Kd.Q_below hQM (below_drew1 (Below.refl _ _))
  generalize w.drew = w9 at FB FO FG FS FM hHeld ⊢
  clear hG hQS hQM
  refine pure_ (i := 0) (N := some 8) (v := ?_) (a' := ?_) #[true, false, false, false, false, false, false, false, false, false, false, false, false, false, false, false, false, false, false, false] rfl rfl (by kernel_rfl) (fun _ _ _ h => h) (Or.inl ⟨by rfl, ?_⟩) ?_ ?_
  rotate_left
  · intro w'
    go_simp
    with_reducible rfl
  rotate_left
  · simp only [Act.put, List.setIfInBounds_toArray, List.set_cons_zero, List.set_cons_succ, i64_w, i32_w]
    rfl
  refine pure_ (i := 1) (N := some 9) (v := ?_) (a' := ?_) #[true, true, false, false, false, false, false, false, false, false, false, false, false, false, false, false, false, false, false, false] rfl rfl (by kernel_rfl) (fun _ _ _ h => h) (Or.inl ⟨by rfl, ?_⟩) ?_ ?_
  rotate_left
  · intro w'
    go_simp
    with_reducible rfl
  rotate_left
  · simp only [Act.put, List.setIfInBounds_toArray, List.set_cons_zero, List.set_cons_succ, i64_w, i32_w]
    rfl
  refine pure_ (i := 5) (N := some 13) (v := ?_) (a' := ?_) #[true, true, false, false, false, true, false, false, false, false, false, false, false, false, false, false, false, false, false, false] rfl rfl (by kernel_rfl) (fun _ _ _ h => h) (Or.inl ⟨by rfl, ?_⟩) ?_ ?_
  rotate_left
  · intro w'
    go_simp
    with_reducible rfl
  rotate_left
  · simp only [Act.put, List.setIfInBounds_toArray, List.set_cons_zero, List.set_cons_succ, i64_w, i32_w]
    rfl
  refine pure_ (i := 10) (N := some 18) (v := ?_) (a' := ?_) #[true, true, false, false, false, true, false, false, false, false, true, false, false, false, false, false, false, false, false, false] rfl rfl (by kernel_rfl) (fun _ _ _ h => h) (Or.inl ⟨by rfl, ?_⟩) ?_ ?_
  rotate_left
  · intro w'
    go_simp
    with_reducible rfl
  rotate_left
  · simp only [Act.put, List.setIfInBounds_toArray, List.set_cons_zero, List.set_cons_succ, i64_w, i32_w]
    rfl
  refine pure_ (i := 11) (N := some 19) (v := ?_) (a' := ?_) #[true, true, false, false, false, true, false, false, false, false, true, true, false, false, false, false, false, false, false, false] rfl rfl (by kernel_rfl) (fun _ _ _ h => h) (Or.inl ⟨by rfl, ?_⟩) ?_ ?_
  rotate_left
  · intro w'
    go_simp
    with_reducible rfl
  rotate_left
  · simp only [Act.put, List.setIfInBounds_toArray, List.set_cons_zero, List.set_cons_succ, i64_w, i32_w]
    rfl
  refine pure_ (i := 2) (N := some 10) (v := ?_) (a' := ?_) #[true, true, true, false, false, true, false, false, false, false, true, true, false, false, false, false, false, false, false, false] rfl rfl (by kernel_rfl) (fun _ _ _ h => h) (Or.inl ⟨by rfl, ?_⟩) ?_ ?_
  rotate_left
  · intro w'
    go_simp
    with_reducible rfl
  rotate_left
  · simp only [Act.put, List.setIfInBounds_toArray, List.set_cons_zero, List.set_cons_succ, i64_w, i32_w]
    rfl
  refine pure_ (i := 6) (N := some 14) (v := ?_) (a' := ?_) #[true, true, true, false, false, true, true, false, false, false, true, true, false, false, false, false, false, false, false, false] rfl rfl (by kernel_rfl) (fun _ _ _ h => h) (Or.inl ⟨by rfl, ?_⟩) ?_ ?_
  rotate_left
  · intro w'
    go_simp
    with_reducible rfl
  rotate_left
  · simp only [Act.put, List.setIfInBounds_toArray, List.set_cons_zero, List.set_cons_succ, i64_w, i32_w]
    rfl
  refine pure_ (i := 12) (N := some 20) (v := ?_) (a' := ?_) #[true, true, true, false, false, true, true, false, false, false, true, true, true, false, false, false, false, false, false, false] rfl rfl (by kernel_rfl) (fun _ _ _ h => h) (Or.inl ⟨by rfl, ?_⟩) ?_ ?_
  rotate_left
  · intro w'
    go_simp
    with_reducible rfl
  rotate_left
  · simp only [Act.put, List.setIfInBounds_toArray, List.set_cons_zero, List.set_cons_succ, i64_w, i32_w]
    rfl
  refine pure_ (i := 3) (N := some 11) (v := ?_) (a' := ?_) #[true, true, true, true, false, true, true, false, false, false, true, true, true, false, false, false, false, false, false, false] rfl rfl (by kernel_rfl) (fun _ _ _ h => h) (Or.inl ⟨by rfl, ?_⟩) ?_ ?_
  rotate_left
  · intro w'
    go_simp
    with_reducible rfl
  rotate_left
  · simp only [Act.put, List.setIfInBounds_toArray, List.set_cons_zero, List.set_cons_succ, i64_w, i32_w]
    rfl
  refine pure_ (i := 7) (N := some 15) (v := ?_) (a' := ?_) #[true, true, true, true, false, true, true, true, false, false, true, true, true, false, false, false, false, false, false, false] rfl rfl (by kernel_rfl) (fun _ _ _ h => h) (Or.inl ⟨by rfl, ?_⟩) ?_ ?_
  rotate_left
  · intro w'
    go_simp
    with_reducible rfl
  rotate_left
  · simp only [Act.put, List.setIfInBounds_toArray, List.set_cons_zero, List.set_cons_succ, i64_w, i32_w]
    rfl
  refine pure_ (i := 13) (N := some 21) (v := ?_) (a' := ?_) #[true, true, true, true, false, true, true, true, false, false, true, true, true, true, false, false, false, false, false, false] rfl rfl (by kernel_rfl) (fun _ _ _ h => h) (Or.inl ⟨by rfl, ?_⟩) ?_ ?_
  rotate_left
  · intro w'
    go_simp
    with_reducible rfl
  rotate_left
  · simp only [Act.put, List.setIfInBounds_toArray, List.set_cons_zero, List.set_cons_succ, i64_w, i32_w]
    rfl
  refine take_ (i := 4) (N := some 12) (v := ?_) (a' := ?_) #[true, true, true, true, true, true, true, true, false, false, true, true, true, true, false, false, false, false, false, false] rfl rfl (by kernel_rfl) (fun _ _ _ h => h) (Or.inl ⟨by rfl, ?_⟩) hHeld ?_ ?_
  rotate_left
  · intro w' hS
    have s19 := blk_cell hS 19
    have s20 := blk_cell hS 20
    have s21 := blk_cell hS 21
    have s22 := blk_cell hS 22
    have s23 := blk_cell hS 23
    have s24 := blk_cell hS 24
    have s25 := blk_cell hS 25
    have s26 := blk_cell hS 26
    have s27 := blk_cell hS 27
    have s28 := blk_cell hS 28
    have s29 := blk_cell hS 29
    have s30 := blk_cell hS 30
    simp only [List.getElem?_toArray, List.getElem?_cons_zero, List.getElem?_cons_succ] at s19 s20 s21 s22 s23 s24 s25 s26 s27 s28 s29 s30
    clear hS
    go_simp
    with_reducible rfl
  rotate_left
  · simp only [Act.put, List.setIfInBounds_toArray, List.set_cons_zero, List.set_cons_succ, i64_w, i32_w]
    rfl
  refine pure_ (i := 8) (N := some 16) (v := ?_) (a' := ?_) #[true, true, true, true, true, true, true, true, true, false, true, true, true, true, false, false, false, false, false, false] rfl rfl (by kernel_rfl) (fun _ _ _ h => h) (Or.inl ⟨by rfl, ?_⟩) ?_ ?_
  rotate_left
  · intro w'
    go_simp
    with_reducible rfl
  rotate_left
  · simp only [Act.put, List.setIfInBounds_toArray, List.set_cons_zero, List.set_cons_succ, i64_w, i32_w]
    rfl
  refine take_ (i := 14) (N := some 22) (v := ?_) (a' := ?_) #[true, true, true, true, true, true, true, true, true, false, true, true, true, true, true, false, false, false, false, false] rfl rfl (by kernel_rfl) (fun _ _ _ h => h) (Or.inl ⟨by rfl, ?_⟩) hHeld ?_ ?_
  rotate_left
  · intro w' hS
    have s31 := blk_cell hS 31
    simp only [List.getElem?_toArray, List.getElem?_cons_zero, List.getElem?_cons_succ] at s31
    clear hS
    go_simp
    with_reducible rfl
  rotate_left
  · simp only [Act.put, List.setIfInBounds_toArray, List.set_cons_zero, List.set_cons_succ, i64_w, i32_w]
    rfl
  refine take_ (i := 9) (N := some 17) (v := ?_) (a' := ?_) #[true, true, true, true, true, true, true, true, true, true, true, true, true, true, true, false, false, false, false, false] rfl rfl (by kernel_rfl) (fun _ _ _ h => h) (Or.inl ⟨by rfl, ?_⟩) hHeld ?_ ?_
  rotate_left
  · intro w' hS
    have s11 := blk_cell hS 11
    have s12 := blk_cell hS 12
    have s13 := blk_cell hS 13
    simp only [List.getElem?_toArray, List.getElem?_cons_zero, List.getElem?_cons_succ] at s11 s12 s13
    clear hS
    go_simp
    with_reducible rfl
  rotate_left
  · simp only [Act.put, List.setIfInBounds_toArray, List.set_cons_zero, List.set_cons_succ, i64_w, i32_w]
    rfl
  refine one_ (i := 15) (N := some 23) #[true, true, true, true, true, true, true, true, true, true, true, true, true, true, true, true, false, false, false, false] rfl rfl (by kernel_rfl) (by decide) (fun K hK => ?_)
  refine goes_ Try.func48 (by kernel_rfl) rfl #[.agg #[.int .i64 q0, .int .i64 q1, .int .i64 q2, .int .i64 q3, .int .i64 q4, .int .i64 q5, .int .i64 q6, .int .i64 q7, .int .i64 q8, .int .i64 q9, .int .i64 q10, .int .i64 q11], .agg #[.int .i64 h0, .int .i64 h1, .bool h2], .int .i64 want, .int .i64 now] (by rfl) rfl rfl (by (try simp only [List.map_toArray, List.map_cons, List.map_nil]); first | done | rfl) ?_
  refine (limit_Next.calls _ _ _ _ _ _ _ _ _ _ _ _ _ _ _ _ _ _ _ _ _ HL.out).mono ?_
  rintro e_ wa1 ⟨rfl, hba2⟩
  refine ⟨_, rfl, ?_⟩
  have fa3 := blk_below FG hba2
  have fa4 := Kd.Q_below FS hba2
  have fa5 := Kd.Q_below FM hba2
  have ba6 := Kept.below FB hba2
  have oa7 := os_below FO hba2
  refine hK.out _ _ fa3 (fun hHeld => ?_)
  clear hK K
  refine norm_ (a' := ?_) ?_ ?_
  rotate_left
  · show Act.put _ (some 23) _ = _
    simp only [Act.put, List.setIfInBounds_toArray, List.set_cons_zero, List.set_cons_succ, i64_w, i32_w]
    rfl
  refine pure_ (i := 16) (N := some 24) (v := ?_) (a' := ?_) #[true, true, true, true, true, true, true, true, true, true, true, true, true, true, true, true, true, false, false, false] rfl rfl (by kernel_rfl) (fun _ _ _ h => h) (Or.inl ⟨by rfl, ?_⟩) ?_ ?_
  rotate_left
  · intro w'
    go_simp
    with_reducible rfl
  rotate_left
  · simp only [Act.put, List.setIfInBounds_toArray, List.set_cons_zero, List.set_cons_succ, i64_w, i32_w]
    rfl
  refine pure_ (i := 17) (N := some 25) (v := ?_) (a' := ?_) #[true, true, true, true, true, true, true, true, true, true, true, true, true, true, true, true, true, true, false, false] rfl rfl (by kernel_rfl) (fun _ _ _ h => h) (Or.inl ⟨by rfl, ?_⟩) ?_ ?_
  rotate_left
  · intro w'
    go_simp
    with_reducible rfl
  rotate_left
  · simp only [Act.put, List.setIfInBounds_toArray, List.set_cons_zero, List.set_cons_succ, i64_w, i32_w]
    rfl
  refine pure_ (i := 18) (N := some 26) (v := ?_) (a' := ?_) #[true, true, true, true, true, true, true, true, true, true, true, true, true, true, true, true, true, true, true, false] rfl rfl (by kernel_rfl) (fun _ _ _ h => h) (Or.inl ⟨by rfl, ?_⟩) ?_ ?_
  rotate_left
  · intro w'
    go_simp
    with_reducible rfl
  rotate_left
  · simp only [Act.put, List.setIfInBounds_toArray, List.set_cons_zero, List.set_cons_succ, i64_w, i32_w]
    rfl
  refine last_ (i := 19) (N := none) #[true, true, true, true, true, true, true, true, true, true, true, true, true, true, true, true, true, true, true, true] rfl rfl (by kernel_rfl) (by decide) (fun K hK => ?_)
  have za8 := blk_cell fa3 11
  have za11 := blk_frozen fa3 11
  have za9 := blk_cell fa3 12
  have za12 := blk_frozen fa3 12
  have za10 := blk_cell fa3 13
  have za13 := blk_frozen fa3 13
  simp only [List.getElem?_toArray, List.getElem?_cons_zero, List.getElem?_cons_succ] at za8 za9 za10
  refine skip_ (w1 := ?_) (by rfl) rfl ?_ ?_
  rotate_left
  · go_simp
    rfl
  clear za8 za9 za10 za11 za12 za13
  have fa14 : (_ : World).heap[G]? = some (.cells #[.int .i64 p0, .int .i64 p1, .slice A2 l2.length c2, .int .i64 p3, .int .i64 p4, .int .i64 p5, .int .i64 p6, .slice A7 l7.length c7, .int .i64 s0, .int .i64 s1, .bool s2, .int .i64 k0, .int .i64 k1, .bool k2, .int .i64 R, .slice A15 l15.length c15, .int .i64 wt, .int .i64 ut, .slice A18 l18.length c18, .int .i64 q0, .int .i64 q1, .int .i64 q2, .int .i64 q3, .int .i64 q4, .int .i64 q5, .int .i64 q6, .int .i64 q7, .int .i64 q8, .int .i64 q9, .int .i64 q10, .int .i64 q11, .int .i64 now] 69 (0, 0)) := blk_put (blk_put (blk_put (fa3) 11 (.int .i64 k0) rfl) 12 (.int .i64 k1) rfl) 13 (.bool k2) rfl
  have fa15 := Kd.Q_mono (ok' := fun _ => True) (Kd.Q_far (p := ⟨G, 13, none⟩) (Kd.Q_far (p := ⟨G, 12, none⟩) (Kd.Q_far (p := ⟨G, 11, none⟩) (Kd.Q_types fa4 fa3 (by decide)) (fun k hk => hk.2) (.int .i64 k0)) (fun k hk => hk.2) (.int .i64 k1)) (fun k hk => hk.2) (.bool k2)) (fun _ _ => trivial)
  have fa16 := Kd.Q_mono (ok' := fun _ => True) (Kd.Q_far (p := ⟨G, 13, none⟩) (Kd.Q_far (p := ⟨G, 12, none⟩) (Kd.Q_far (p := ⟨G, 11, none⟩) (Kd.Q_types fa5 fa3 (by decide)) (fun k hk => hk.2) (.int .i64 k0)) (fun k hk => hk.2) (.int .i64 k1)) (fun k hk => hk.2) (.bool k2)) (fun _ _ => trivial)
  have ba17 := Kept.setCell (p := ⟨G, 13, none⟩) (Kept.setCell (p := ⟨G, 12, none⟩) (Kept.setCell (p := ⟨G, 11, none⟩) (ba6) (.inl rfl) (.int .i64 k0)) (.inl rfl) (.int .i64 k1)) (.inl rfl) (.bool k2)
  have oa18 := os_set (p := ⟨G, 13, none⟩) (u := .bool k2) (os_set (p := ⟨G, 12, none⟩) (u := .int .i64 k1) (os_set (p := ⟨G, 11, none⟩) (u := .int .i64 k0) (oa7)))
  generalize (((wa1.setCell _ _).setCell _ _).setCell _ _) = wa19 at fa14 fa15 fa16 ba17 oa18 ⊢
  refine hK.out _ _ ?_
  clear hK K
  refine done_ (by kernel_rfl) ?_
  have FG1 := Aside0.mk fa14
  have FS1 := Aside0.mk fa15
  have FM1 := Aside0.mk fa16
  have FB1 := Aside0.mk ba17
  have FO1 := Aside0.mk oa18
  clear fa14 fa15 fa16 ba17 oa18
  clear HL hHeld
  go_upto_region 1 with (fail)
  go_cut [6, 7] (fun x6 x7 wx => ∃ (g6 g7 : Nat) (B15 : Option Addr) (d15 : Nat), x6 = .pointer (some ⟨g6, 0, none⟩) ∧ x7 = .pointer (some ⟨g7, 0, none⟩) ∧ wx.heap[G]? = some (.cells #[.int .i64 p0, .int .i64 p1, .slice A2 l2.length c2, .int .i64 p3, .int .i64 p4, .int .i64 p5, .int .i64 p6, .slice A7 l7.length c7, .int .i64 s0, .int .i64 s1, .bool s2, .int .i64 k0, .int .i64 k1, .bool k2, .int .i64 R, .slice A15 l15.length c15, .int .i64 wt, .int .i64 ut, .slice A18 l18.length c18, .int .i64 q0, .int .i64 q1, .int .i64 q2, .int .i64 q3, .int .i64 q4, .int .i64 q5, .int .i64 q6, .int .i64 q7, .int .i64 q8, .int .i64 q9, .int .i64 q10, .int .i64 q11, .int .i64 now] 69 (0, 0)) ∧ wx.heap[g6]? = some (.cells #[.int .i64 R', .slice B15 l15'.length d15, .int .i64 wt', .int .i64 ut'] 34 (0, 0)) ∧ wx.heap[g7]? = some (.cells #[.int .i64 cost, .bool bad] 52 (0, 0)) ∧ (Kd.int .i64).Q 3 wx B (fun _ => True) (.slice B15 l15'.length d15) l15' ∧ k52.Q 52 wx B (fun _ => True) (.slice A18 l18.length c18) l18 ∧ G < g6 ∧ G < g7 ∧ Kept w wx (fun k => k = G) ∧ (wx.os = w.os ∧ wx.tape = w.tape ∧ wx.output = w.output))
  case first =>
    have FG := FG1.out
    refine start_ (n := 24) (S := fun w' => w'.heap[G]? = some (.cells #[.int .i64 p0, .int .i64 p1, .slice A2 l2.length c2, .int .i64 p3, .int .i64 p4, .int .i64 p5, .int .i64 p6, .slice A7 l7.length c7, .int .i64 s0, .int .i64 s1, .bool s2, .int .i64 k0, .int .i64 k1, .bool k2, .int .i64 R, .slice A15 l15.length c15, .int .i64 wt, .int .i64 ut, .slice A18 l18.length c18, .int .i64 q0, .int .i64 q1, .int .i64 q2, .int .i64 q3, .int .i64 q4, .int .i64 q5, .int .i64 q6, .int .i64 q7, .int .i64 q8, .int .i64 q9, .int .i64 q10, .int .i64 q11, .int .i64 now] 69 (0, 0))) (ds := []) #[false, false, false, false, false, false, false, false, false, false, false, false, false, false, false, false, false, false, false, false, false, false, false, false] (by kernel_rfl) rfl rfl FG (fun hHeld => ?_)
    have FG := blk_below FG (below_drew1 (Below.refl _ _))
    have FS := Kd.Q_below FS1.out (below_drew1 (Below.refl _ _))
    have FM := Kd.Q_below FM1.out (below_drew1 (Below.refl _ _))
    have FB := Kept.below FB1.out (below_drew1 (Below.refl _ _))
    have FO := os_below FO1.out (below_drew1 (Below.refl _ _))
    clear FG1 FS1 FM1 FB1 FO1
    generalize World.drew _ = w9 at FB FO FG FS FM hHeld ⊢
    refine pure_ (i := 0) (N := some 28) (v := ?_) (a' := ?_) #[true, false, false, false, false, false, false, false, false, false, false, false, false, false, false, false, false, false, false, false, false, false, false, false] rfl rfl (by kernel_rfl) (fun _ _ _ h => h) (Or.inl ⟨by rfl, ?_⟩) ?_ ?_
    rotate_left
    · intro w'
      go_simp
      with_reducible rfl
    rotate_left
    · simp only [Act.put, List.setIfInBounds_toArray, List.set_cons_zero, List.set_cons_succ, i64_w, i32_w]
      rfl
    refine pure_ (i := 4) (N := some 32) (v := ?_) (a' := ?_) #[true, false, false, false, true, false, false, false, false, false, false, false, false, false, false, false, false, false, false, false, false, false, false, false] rfl rfl (by kernel_rfl) (fun _ _ _ h => h) (Or.inl ⟨by rfl, ?_⟩) ?_ ?_
    rotate_left
    · intro w'
      go_simp
      with_reducible rfl
    rotate_left
    · simp only [Act.put, List.setIfInBounds_toArray, List.set_cons_zero, List.set_cons_succ, i64_w, i32_w]
      rfl
    refine pure_ (i := 9) (N := some 37) (v := ?_) (a' := ?_) #[true, false, false, false, true, false, false, false, false, true, false, false, false, false, false, false, false, false, false, false, false, false, false, false] rfl rfl (by kernel_rfl) (fun _ _ _ h => h) (Or.inl ⟨by rfl, ?_⟩) ?_ ?_
    rotate_left
    · intro w'
      go_simp
      with_reducible rfl
    rotate_left
    · simp only [Act.put, List.setIfInBounds_toArray, List.set_cons_zero, List.set_cons_succ, i64_w, i32_w]
      rfl
    refine pure_ (i := 15) (N := some 43) (v := ?_) (a' := ?_) #[true, false, false, false, true, false, false, false, false, true, false, false, false, false, false, true, false, false, false, false, false, false, false, false] rfl rfl (by kernel_rfl) (fun _ _ _ h => h) (Or.inl ⟨by rfl, ?_⟩) ?_ ?_
    rotate_left
    · intro w'
      go_simp
      with_reducible rfl
    rotate_left
    · simp only [Act.put, List.setIfInBounds_toArray, List.set_cons_zero, List.set_cons_succ, i64_w, i32_w]
      rfl
    refine pure_ (i := 1) (N := some 29) (v := ?_) (a' := ?_) #[true, true, false, false, true, false, false, false, false, true, false, false, false, false, false, true, false, false, false, false, false, false, false, false] rfl rfl (by kernel_rfl) (fun _ _ _ h => h) (Or.inl ⟨by rfl, ?_⟩) ?_ ?_
    rotate_left
    · intro w'
      go_simp
      with_reducible rfl
    rotate_left
    · simp only [Act.put, List.setIfInBounds_toArray, List.set_cons_zero, List.set_cons_succ, i64_w, i32_w]
      rfl
    refine pure_ (i := 5) (N := some 33) (v := ?_) (a' := ?_) #[true, true, false, false, true, true, false, false, false, true, false, false, false, false, false, true, false, false, false, false, false, false, false, false] rfl rfl (by kernel_rfl) (fun _ _ _ h => h) (Or.inl ⟨by rfl, ?_⟩) ?_ ?_
    rotate_left
    · intro w'
      go_simp
      with_reducible rfl
    rotate_left
    · simp only [Act.put, List.setIfInBounds_toArray, List.set_cons_zero, List.set_cons_succ, i64_w, i32_w]
      rfl
    refine pure_ (i := 10) (N := some 38) (v := ?_) (a' := ?_) #[true, true, false, false, true, true, false, false, false, true, true, false, false, false, false, true, false, false, false, false, false, false, false, false] rfl rfl (by kernel_rfl) (fun _ _ _ h => h) (Or.inl ⟨by rfl, ?_⟩) ?_ ?_
    rotate_left
    · intro w'
      go_simp
      with_reducible rfl
    rotate_left
    · simp only [Act.put, List.setIfInBounds_toArray, List.set_cons_zero, List.set_cons_succ, i64_w, i32_w]
      rfl
    refine pure_ (i := 2) (N := some 30) (v := ?_) (a' := ?_) #[true, true, true, false, true, true, false, false, false, true, true, false, false, false, false, true, false, false, false, false, false, false, false, false] rfl rfl (by kernel_rfl) (fun _ _ _ h => h) (Or.inl ⟨by rfl, ?_⟩) ?_ ?_
    rotate_left
    · intro w'
      go_simp
      with_reducible rfl
    rotate_left
    · simp only [Act.put, List.setIfInBounds_toArray, List.set_cons_zero, List.set_cons_succ, i64_w, i32_w]
      rfl
    refine pure_ (i := 6) (N := some 34) (v := ?_) (a' := ?_) #[true, true, true, false, true, true, true, false, false, true, true, false, false, false, false, true, false, false, false, false, false, false, false, false] rfl rfl (by kernel_rfl) (fun _ _ _ h => h) (Or.inl ⟨by rfl, ?_⟩) ?_ ?_
    rotate_left
    · intro w'
      go_simp
      with_reducible rfl
    rotate_left
    · simp only [Act.put, List.setIfInBounds_toArray, List.set_cons_zero, List.set_cons_succ, i64_w, i32_w]
      rfl
    refine pure_ (i := 11) (N := some 39) (v := ?_) (a' := ?_) #[true, true, true, false, true, true, true, false, false, true, true, true, false, false, false, true, false, false, false, false, false, false, false, false] rfl rfl (by kernel_rfl) (fun _ _ _ h => h) (Or.inl ⟨by rfl, ?_⟩) ?_ ?_
    rotate_left
    · intro w'
      go_simp
      with_reducible rfl
    rotate_left
    · simp only [Act.put, List.setIfInBounds_toArray, List.set_cons_zero, List.set_cons_succ, i64_w, i32_w]
      rfl
    refine take_ (i := 3) (N := some 31) (v := ?_) (a' := ?_) #[true, true, true, true, true, true, true, false, false, true, true, true, false, false, false, true, false, false, false, false, false, false, false, false] rfl rfl (by kernel_rfl) (fun _ _ _ h => h) (Or.inl ⟨by rfl, ?_⟩) hHeld ?_ ?_
    rotate_left
    · intro w' hS
      have s19 := blk_cell hS 19
      have s20 := blk_cell hS 20
      have s21 := blk_cell hS 21
      have s22 := blk_cell hS 22
      have s23 := blk_cell hS 23
      have s24 := blk_cell hS 24
      have s25 := blk_cell hS 25
      have s26 := blk_cell hS 26
      have s27 := blk_cell hS 27
      have s28 := blk_cell hS 28
      have s29 := blk_cell hS 29
      have s30 := blk_cell hS 30
      simp only [List.getElem?_toArray, List.getElem?_cons_zero, List.getElem?_cons_succ] at s19 s20 s21 s22 s23 s24 s25 s26 s27 s28 s29 s30
      clear hS
      go_simp
      with_reducible rfl
    rotate_left
    · simp only [Act.put, List.setIfInBounds_toArray, List.set_cons_zero, List.set_cons_succ, i64_w, i32_w]
      rfl
    refine pure_ (i := 7) (N := some 35) (v := ?_) (a' := ?_) #[true, true, true, true, true, true, true, true, false, true, true, true, false, false, false, true, false, false, false, false, false, false, false, false] rfl rfl (by kernel_rfl) (fun _ _ _ h => h) (Or.inl ⟨by rfl, ?_⟩) ?_ ?_
    rotate_left
    · intro w'
      go_simp
      with_reducible rfl
    rotate_left
    · simp only [Act.put, List.setIfInBounds_toArray, List.set_cons_zero, List.set_cons_succ, i64_w, i32_w]
      rfl
    refine pure_ (i := 12) (N := some 40) (v := ?_) (a' := ?_) #[true, true, true, true, true, true, true, true, false, true, true, true, true, false, false, true, false, false, false, false, false, false, false, false] rfl rfl (by kernel_rfl) (fun _ _ _ h => h) (Or.inl ⟨by rfl, ?_⟩) ?_ ?_
    rotate_left
    · intro w'
      go_simp
      with_reducible rfl
    rotate_left
    · simp only [Act.put, List.setIfInBounds_toArray, List.set_cons_zero, List.set_cons_succ, i64_w, i32_w]
      rfl
    refine take_ (i := 8) (N := some 36) (v := ?_) (a' := ?_) #[true, true, true, true, true, true, true, true, true, true, true, true, true, false, false, true, false, false, false, false, false, false, false, false] rfl rfl (by kernel_rfl) (fun _ _ _ h => h) (Or.inl ⟨by rfl, ?_⟩) hHeld ?_ ?_
    rotate_left
    · intro w' hS
      have s14 := blk_cell hS 14
      have s15 := blk_cell hS 15
      have s16 := blk_cell hS 16
      have s17 := blk_cell hS 17
      simp only [List.getElem?_toArray, List.getElem?_cons_zero, List.getElem?_cons_succ] at s14 s15 s16 s17
      clear hS
      go_simp
      with_reducible rfl
    rotate_left
    · simp only [Act.put, List.setIfInBounds_toArray, List.set_cons_zero, List.set_cons_succ, i64_w, i32_w]
      rfl
    refine pure_ (i := 13) (N := some 41) (v := ?_) (a' := ?_) #[true, true, true, true, true, true, true, true, true, true, true, true, true, true, false, true, false, false, false, false, false, false, false, false] rfl rfl (by kernel_rfl) (fun _ _ _ h => h) (Or.inl ⟨by rfl, ?_⟩) ?_ ?_
    rotate_left
    · intro w'
      go_simp
      with_reducible rfl
    rotate_left
    · simp only [Act.put, List.setIfInBounds_toArray, List.set_cons_zero, List.set_cons_succ, i64_w, i32_w]
      rfl
    refine take_ (i := 14) (N := some 42) (v := ?_) (a' := ?_) #[true, true, true, true, true, true, true, true, true, true, true, true, true, true, true, true, false, false, false, false, false, false, false, false] rfl rfl (by kernel_rfl) (fun _ _ _ h => h) (Or.inl ⟨by rfl, ?_⟩) hHeld ?_ ?_
    rotate_left
    · intro w' hS
      have s11 := blk_cell hS 11
      simp only [List.getElem?_toArray, List.getElem?_cons_zero, List.getElem?_cons_succ] at s11
      clear hS
      go_simp
      with_reducible rfl
    rotate_left
    · simp only [Act.put, List.setIfInBounds_toArray, List.set_cons_zero, List.set_cons_succ, i64_w, i32_w]
      rfl
    refine three_ (i := 16) (j := 20) (k := 21) (Ni := some 44) (Nj := some 6) (Nk := some 7) #[true, true, true, true, true, true, true, true, true, true, true, true, true, true, true, true, true, false, false, false, false, false, false, false] #[true, true, true, true, true, true, true, true, true, true, true, true, true, true, true, true, false, false, false, false, true, false, false, false] #[true, true, true, true, true, true, true, true, true, true, true, true, true, true, true, true, false, false, false, false, false, true, false, false] rfl rfl rfl rfl rfl rfl (by kernel_rfl) (by decide) (by decide) (by decide) (fun K hK => ?_) (fun K hK => ?_) (fun K hK => ?_)
    · skip
      refine goes_ Try.func49 (by kernel_rfl) rfl #[.agg #[.int .i64 q0, .int .i64 q1, .int .i64 q2, .int .i64 q3, .int .i64 q4, .int .i64 q5, .int .i64 q6, .int .i64 q7, .int .i64 q8, .int .i64 q9, .int .i64 q10, .int .i64 q11], .agg #[.int .i64 R, .slice A15 l15.length c15, .int .i64 wt, .int .i64 ut], .int .i64 k0, .int .i64 demand] (by rfl) rfl rfl (by (try simp only [List.map_toArray, List.map_cons, List.map_nil]); first | done | rfl) ?_
      refine (plant_Step.calls _ _ _ _ _ _ _ _ _ _ _ _ _ _ _ _ _ _ _ _ _ _ _ _ _ _ _ (Kd.Q_reads' FS).2.2 (Kd.Q_reads' FS).2.1 HP.out).mono ?_
      rintro e_ wb1 ⟨v15, rfl, rb2, hbb3⟩
      refine ⟨_, rfl, ?_⟩
      have fb4 := blk_below FG hbb3
      have fb5 := Kd.Q_below FS hbb3
      have fb6 := Kd.Q_below FM hbb3
      have bb7 := Kept.below FB hbb3
      have ob8 := os_below FO hbb3
      replace rb2 := Kd.Q_lower rb2 (Nat.le_trans hB0 FB.1)
      obtain ⟨B15, d15, rfl, _⟩ := Kd.Q_slice rb2
      refine hK.out _ _ fb4 (fun hHeld => ?_)
      clear hK K
      refine norm_ (a' := ?_) ?_ ?_
      rotate_left
      · show Act.put _ (some 44) _ = _
        simp only [Act.put, List.setIfInBounds_toArray, List.set_cons_zero, List.set_cons_succ, i64_w, i32_w]
        rfl
      refine pure_ (i := 17) (N := some 27) (v := ?_) (a' := ?_) #[true, true, true, true, true, true, true, true, true, true, true, true, true, true, true, true, true, true, false, false, false, false, false, false] rfl rfl (by kernel_rfl) (fun _ _ _ h => h) (Or.inl ⟨by rfl, ?_⟩) ?_ ?_
      rotate_left
      · intro w'
        go_simp
        with_reducible rfl
      rotate_left
      · simp only [Act.put, List.setIfInBounds_toArray, List.set_cons_zero, List.set_cons_succ, i64_w, i32_w]
        rfl
      refine pure_ (i := 18) (N := some 45) (v := ?_) (a' := ?_) #[true, true, true, true, true, true, true, true, true, true, true, true, true, true, true, true, true, true, true, false, false, false, false, false] rfl rfl (by kernel_rfl) (fun _ _ _ h => h) (Or.inl ⟨by rfl, ?_⟩) ?_ ?_
      rotate_left
      · intro w'
        go_simp
        with_reducible rfl
      rotate_left
      · simp only [Act.put, List.setIfInBounds_toArray, List.set_cons_zero, List.set_cons_succ, i64_w, i32_w]
        rfl
      refine pure_ (i := 19) (N := some 46) (v := ?_) (a' := ?_) #[true, true, true, true, true, true, true, true, true, true, true, true, true, true, true, true, true, true, true, true, false, false, false, false] rfl rfl (by kernel_rfl) (fun _ _ _ h => h) (Or.inl ⟨by rfl, ?_⟩) ?_ ?_
      rotate_left
      · intro w'
        go_simp
        with_reducible rfl
      rotate_left
      · simp only [Act.put, List.setIfInBounds_toArray, List.set_cons_zero, List.set_cons_succ, i64_w, i32_w]
        rfl
      refine two_ (i := 20) (j := 21) (Ni := some 6) (Nj := some 7) #[true, true, true, true, true, true, true, true, true, true, true, true, true, true, true, true, true, true, true, true, true, false, false, false] #[true, true, true, true, true, true, true, true, true, true, true, true, true, true, true, true, true, true, true, true, false, true, false, false] rfl rfl rfl rfl (by kernel_rfl) (by decide) (by decide) (fun K hK => ?_) (fun K hK => ?_)
      · skip
        refine box_step ?hg (N := 6) ?hd (cs := #[.int .i64 0, .slice none 0 0, .int .i64 0, .int .i64 0]) (t := 34) ?hr ?_; (case hd => rfl); (case hg => rfl); (case hr => first | (go_simp; done) | (go_simp; rfl))
        intro g6 eb12 wb9 hb11 hbb10
        have lt_G_g6 : G < g6 := by rw [eb12]; exact blk_lt fb4
        have ge_g6 : w.heap.size ≤ g6 := by rw [eb12]; exact bb7.1
        clear eb12
        have fb13 := blk_below fb4 hbb10
        have fb14 := Kd.Q_below fb5 hbb10
        have fb15 := Kd.Q_below fb6 hbb10
        have fb16 := Kd.Q_below rb2 hbb10
        have bb17 := Kept.below bb7 hbb10
        have ob18 := os_below ob8 hbb10
        refine hK.out _ _ fb13 (fun hHeld => ?_)
        clear hK K
        refine norm_ (a' := ?_) ?_ ?_
        rotate_left
        · show Act.put _ (some 6) _ = _
          simp only [Act.put, List.setIfInBounds_toArray, List.set_cons_zero, List.set_cons_succ, i64_w, i32_w]
          rfl
        refine one_ (i := 21) (N := some 7) #[true, true, true, true, true, true, true, true, true, true, true, true, true, true, true, true, true, true, true, true, true, true, false, false] rfl rfl (by kernel_rfl) (by decide) (fun K hK => ?_)
        refine box_step ?hg (N := 7) ?hd (cs := #[.int .i64 0, .bool false]) (t := 52) ?hr ?_; (case hd => rfl); (case hg => rfl); (case hr => first | (go_simp; done) | (go_simp; rfl))
        intro g7 eb22 wb19 hb21 hbb20
        have lt_G_g7 : G < g7 := by rw [eb22]; exact blk_lt fb13
        have lt_g6_g7 : g6 < g7 := by rw [eb22]; exact blk_lt hb11
        have ge_g7 : w.heap.size ≤ g7 := by rw [eb22]; exact bb17.1
        replace fb15 := Kd.Q_mono (ok' := fun k => k ≠ g7) (Kd.Q_bound fb15) (fun k hk => by have h1 := hk.2.2.1; omega)
        clear eb22
        have fb23 := blk_below fb13 hbb20
        have fb24 := blk_below hb11 hbb20
        have fb25 := Kd.Q_below fb14 hbb20
        have fb26 := Kd.Q_below fb15 hbb20
        have fb27 := Kd.Q_below fb16 hbb20
        have bb28 := Kept.below bb17 hbb20
        have ob29 := os_below ob18 hbb20
        refine hK.out _ _ fb23 (fun hHeld => ?_)
        clear hK K
        refine norm_ (a' := ?_) ?_ ?_
        rotate_left
        · show Act.put _ (some 7) _ = _
          simp only [Act.put, List.setIfInBounds_toArray, List.set_cons_zero, List.set_cons_succ, i64_w, i32_w]
          rfl
        refine one_ (i := 22) (N := none) #[true, true, true, true, true, true, true, true, true, true, true, true, true, true, true, true, true, true, true, true, true, true, true, false] rfl rfl (by kernel_rfl) (by decide) (fun K hK => ?_)
        have zb30 := blk_cell fb24 0
        have zb34 := blk_frozen fb24 0
        have zb31 := blk_cell fb24 1
        have zb35 := blk_frozen fb24 1
        have zb32 := blk_cell fb24 2
        have zb36 := blk_frozen fb24 2
        have zb33 := blk_cell fb24 3
        have zb37 := blk_frozen fb24 3
        simp only [List.getElem?_toArray, List.getElem?_cons_zero, List.getElem?_cons_succ] at zb30 zb31 zb32 zb33
        refine skip_ (w1 := ?_) (by rfl) rfl ?_ ?_
        rotate_left
        · go_simp
          rfl
        clear zb30 zb31 zb32 zb33 zb34 zb35 zb36 zb37
        have fb38 := blk_far (p := ⟨g6, 3, none⟩) (blk_far (p := ⟨g6, 2, none⟩) (blk_far (p := ⟨g6, 1, none⟩) (blk_far (p := ⟨g6, 0, none⟩) (fb23) (by show G ≠ g6; omega) (.int .i64 R')) (by show G ≠ g6; omega) (.slice B15 l15'.length d15)) (by show G ≠ g6; omega) (.int .i64 wt')) (by show G ≠ g6; omega) (.int .i64 ut')
        have fb39 : (_ : World).heap[g6]? = some (.cells #[.int .i64 R', .slice B15 l15'.length d15, .int .i64 wt', .int .i64 ut'] 34 (0, 0)) := blk_put (blk_put (blk_put (blk_put (fb24) 0 (.int .i64 R') rfl) 1 (.slice B15 l15'.length d15) rfl) 2 (.int .i64 wt') rfl) 3 (.int .i64 ut') rfl
        have fb40 := blk_far (p := ⟨g6, 3, none⟩) (blk_far (p := ⟨g6, 2, none⟩) (blk_far (p := ⟨g6, 1, none⟩) (blk_far (p := ⟨g6, 0, none⟩) (hb21) (by show g7 ≠ g6; omega) (.int .i64 R')) (by show g7 ≠ g6; omega) (.slice B15 l15'.length d15)) (by show g7 ≠ g6; omega) (.int .i64 wt')) (by show g7 ≠ g6; omega) (.int .i64 ut')
        have fb41 := Kd.Q_mono (ok' := fun _ => True) (Kd.Q_far (p := ⟨g6, 3, none⟩) (Kd.Q_far (p := ⟨g6, 2, none⟩) (Kd.Q_far (p := ⟨g6, 1, none⟩) (Kd.Q_far (p := ⟨g6, 0, none⟩) (Kd.Q_types fb25 fb24 (by decide)) (fun k hk => hk.2) (.int .i64 R')) (fun k hk => hk.2) (.slice B15 l15'.length d15)) (fun k hk => hk.2) (.int .i64 wt')) (fun k hk => hk.2) (.int .i64 ut')) (fun _ _ => trivial)
        have fb42 := Kd.Q_mono (ok' := fun k => k ≠ g7) (Kd.Q_far (p := ⟨g6, 3, none⟩) (Kd.Q_far (p := ⟨g6, 2, none⟩) (Kd.Q_far (p := ⟨g6, 1, none⟩) (Kd.Q_far (p := ⟨g6, 0, none⟩) (Kd.Q_types fb26 fb24 (by decide)) (fun k hk => hk.2) (.int .i64 R')) (fun k hk => hk.2) (.slice B15 l15'.length d15)) (fun k hk => hk.2) (.int .i64 wt')) (fun k hk => hk.2) (.int .i64 ut')) (fun k hk => hk.1)
        have fb43 := Kd.Q_mono (ok' := fun _ => True) (Kd.Q_far (p := ⟨g6, 3, none⟩) (Kd.Q_far (p := ⟨g6, 2, none⟩) (Kd.Q_far (p := ⟨g6, 1, none⟩) (Kd.Q_far (p := ⟨g6, 0, none⟩) (Kd.Q_types fb27 fb24 (by decide)) (fun k hk => hk.2) (.int .i64 R')) (fun k hk => hk.2) (.slice B15 l15'.length d15)) (fun k hk => hk.2) (.int .i64 wt')) (fun k hk => hk.2) (.int .i64 ut')) (fun _ _ => trivial)
        have bb44 := Kept.setCell (p := ⟨g6, 3, none⟩) (Kept.setCell (p := ⟨g6, 2, none⟩) (Kept.setCell (p := ⟨g6, 1, none⟩) (Kept.setCell (p := ⟨g6, 0, none⟩) (bb28) (.inr ge_g6) (.int .i64 R')) (.inr ge_g6) (.slice B15 l15'.length d15)) (.inr ge_g6) (.int .i64 wt')) (.inr ge_g6) (.int .i64 ut')
        have ob45 := os_set (p := ⟨g6, 3, none⟩) (u := .int .i64 ut') (os_set (p := ⟨g6, 2, none⟩) (u := .int .i64 wt') (os_set (p := ⟨g6, 1, none⟩) (u := .slice B15 l15'.length d15) (os_set (p := ⟨g6, 0, none⟩) (u := .int .i64 R') (ob29))))
        generalize ((((wb19.setCell _ _).setCell _ _).setCell _ _).setCell _ _) = wb46 at fb38 fb39 fb40 fb41 fb42 fb43 bb44 ob45 ⊢
        refine hK.out _ _ fb38 (fun hHeld => ?_)
        clear hK K
        refine one_ (i := 23) (N := none) #[true, true, true, true, true, true, true, true, true, true, true, true, true, true, true, true, true, true, true, true, true, true, true, true] rfl rfl (by kernel_rfl) (by decide) (fun K hK => ?_)
        have zb47 := blk_cell fb40 0
        have zb49 := blk_frozen fb40 0
        have zb48 := blk_cell fb40 1
        have zb50 := blk_frozen fb40 1
        simp only [List.getElem?_toArray, List.getElem?_cons_zero, List.getElem?_cons_succ] at zb47 zb48
        refine skip_ (w1 := ?_) (by rfl) rfl ?_ ?_
        rotate_left
        · go_simp
          rfl
        clear zb47 zb48 zb49 zb50
        have fb51 := blk_far (p := ⟨g7, 1, none⟩) (blk_far (p := ⟨g7, 0, none⟩) (fb38) (by show G ≠ g7; omega) (.int .i64 cost)) (by show G ≠ g7; omega) (.bool bad)
        have fb52 := blk_far (p := ⟨g7, 1, none⟩) (blk_far (p := ⟨g7, 0, none⟩) (fb39) (by show g6 ≠ g7; omega) (.int .i64 cost)) (by show g6 ≠ g7; omega) (.bool bad)
        have fb53 : (_ : World).heap[g7]? = some (.cells #[.int .i64 cost, .bool bad] 52 (0, 0)) := blk_put (blk_put (fb40) 0 (.int .i64 cost) rfl) 1 (.bool bad) rfl
        have fb54 := Kd.Q_mono (ok' := fun _ => True) (Kd.Q_far (p := ⟨g7, 1, none⟩) (Kd.Q_far (p := ⟨g7, 0, none⟩) (Kd.Q_types fb41 fb40 (by decide)) (fun k hk => hk.2) (.int .i64 cost)) (fun k hk => hk.2) (.bool bad)) (fun _ _ => trivial)
        have fb55 := Kd.Q_mono (ok' := fun _ => True) (Kd.Q_far (p := ⟨g7, 1, none⟩) (Kd.Q_far (p := ⟨g7, 0, none⟩) (fb42) (fun k hk => hk) (.int .i64 cost)) (fun k hk => hk) (.bool bad)) (fun _ _ => trivial)
        have fb56 := Kd.Q_mono (ok' := fun _ => True) (Kd.Q_far (p := ⟨g7, 1, none⟩) (Kd.Q_far (p := ⟨g7, 0, none⟩) (Kd.Q_types fb43 fb40 (by decide)) (fun k hk => hk.2) (.int .i64 cost)) (fun k hk => hk.2) (.bool bad)) (fun _ _ => trivial)
        have bb57 := Kept.setCell (p := ⟨g7, 1, none⟩) (Kept.setCell (p := ⟨g7, 0, none⟩) (bb44) (.inr ge_g7) (.int .i64 cost)) (.inr ge_g7) (.bool bad)
        have ob58 := os_set (p := ⟨g7, 1, none⟩) (u := .bool bad) (os_set (p := ⟨g7, 0, none⟩) (u := .int .i64 cost) (ob45))
        generalize ((wb46.setCell _ _).setCell _ _) = wb59 at fb51 fb52 fb53 fb54 fb55 fb56 bb57 ob58 ⊢
        refine hK.out _ _ fb51 (fun hHeld => ?_)
        clear hK K
        refine done_ (by kernel_rfl) ?_
        (try go_wp2)
        go_meet
        exact ⟨g6, g7, _, _, rfl, rfl, fb51, fb52, fb53, fb56, fb55, by omega, by omega, bb57, ob58⟩
      · skip
        refine box_step ?hg (N := 7) ?hd (cs := #[.int .i64 0, .bool false]) (t := 52) ?hr ?_; (case hd => rfl); (case hg => rfl); (case hr => first | (go_simp; done) | (go_simp; rfl))
        intro g7 eb63 wb60 hb62 hbb61
        have lt_G_g7 : G < g7 := by rw [eb63]; exact blk_lt fb4
        have ge_g7 : w.heap.size ≤ g7 := by rw [eb63]; exact bb7.1
        replace fb6 := Kd.Q_mono (ok' := fun k => k ≠ g7) (Kd.Q_bound fb6) (fun k hk => by have h1 := hk.2.2.1; omega)
        clear eb63
        have fb64 := blk_below fb4 hbb61
        have fb65 := Kd.Q_below fb5 hbb61
        have fb66 := Kd.Q_below fb6 hbb61
        have fb67 := Kd.Q_below rb2 hbb61
        have bb68 := Kept.below bb7 hbb61
        have ob69 := os_below ob8 hbb61
        refine hK.out _ _ fb64 (fun hHeld => ?_)
        clear hK K
        refine norm_ (a' := ?_) ?_ ?_
        rotate_left
        · show Act.put _ (some 7) _ = _
          simp only [Act.put, List.setIfInBounds_toArray, List.set_cons_zero, List.set_cons_succ, i64_w, i32_w]
          rfl
        refine one_ (i := 20) (N := some 6) #[true, true, true, true, true, true, true, true, true, true, true, true, true, true, true, true, true, true, true, true, true, true, false, false] rfl rfl (by kernel_rfl) (by decide) (fun K hK => ?_)
        refine box_step ?hg (N := 6) ?hd (cs := #[.int .i64 0, .slice none 0 0, .int .i64 0, .int .i64 0]) (t := 34) ?hr ?_; (case hd => rfl); (case hg => rfl); (case hr => first | (go_simp; done) | (go_simp; rfl))
        intro g6 eb73 wb70 hb72 hbb71
        have lt_G_g6 : G < g6 := by rw [eb73]; exact blk_lt fb64
        have lt_g7_g6 : g7 < g6 := by rw [eb73]; exact blk_lt hb62
        have ge_g6 : w.heap.size ≤ g6 := by rw [eb73]; exact bb68.1
        clear eb73
        have fb74 := blk_below fb64 hbb71
        have fb75 := blk_below hb62 hbb71
        have fb76 := Kd.Q_below fb65 hbb71
        have fb77 := Kd.Q_below fb66 hbb71
        have fb78 := Kd.Q_below fb67 hbb71
        have bb79 := Kept.below bb68 hbb71
        have ob80 := os_below ob69 hbb71
        refine hK.out _ _ fb74 (fun hHeld => ?_)
        clear hK K
        refine norm_ (a' := ?_) ?_ ?_
        rotate_left
        · show Act.put _ (some 6) _ = _
          simp only [Act.put, List.setIfInBounds_toArray, List.set_cons_zero, List.set_cons_succ, i64_w, i32_w]
          rfl
        refine one_ (i := 22) (N := none) #[true, true, true, true, true, true, true, true, true, true, true, true, true, true, true, true, true, true, true, true, true, true, true, false] rfl rfl (by kernel_rfl) (by decide) (fun K hK => ?_)
        have zb81 := blk_cell hb72 0
        have zb85 := blk_frozen hb72 0
        have zb82 := blk_cell hb72 1
        have zb86 := blk_frozen hb72 1
        have zb83 := blk_cell hb72 2
        have zb87 := blk_frozen hb72 2
        have zb84 := blk_cell hb72 3
        have zb88 := blk_frozen hb72 3
        simp only [List.getElem?_toArray, List.getElem?_cons_zero, List.getElem?_cons_succ] at zb81 zb82 zb83 zb84
        refine skip_ (w1 := ?_) (by rfl) rfl ?_ ?_
        rotate_left
        · go_simp
          rfl
        clear zb81 zb82 zb83 zb84 zb85 zb86 zb87 zb88
        have fb89 := blk_far (p := ⟨g6, 3, none⟩) (blk_far (p := ⟨g6, 2, none⟩) (blk_far (p := ⟨g6, 1, none⟩) (blk_far (p := ⟨g6, 0, none⟩) (fb74) (by show G ≠ g6; omega) (.int .i64 R')) (by show G ≠ g6; omega) (.slice B15 l15'.length d15)) (by show G ≠ g6; omega) (.int .i64 wt')) (by show G ≠ g6; omega) (.int .i64 ut')
        have fb90 := blk_far (p := ⟨g6, 3, none⟩) (blk_far (p := ⟨g6, 2, none⟩) (blk_far (p := ⟨g6, 1, none⟩) (blk_far (p := ⟨g6, 0, none⟩) (fb75) (by show g7 ≠ g6; omega) (.int .i64 R')) (by show g7 ≠ g6; omega) (.slice B15 l15'.length d15)) (by show g7 ≠ g6; omega) (.int .i64 wt')) (by show g7 ≠ g6; omega) (.int .i64 ut')
        have fb91 : (_ : World).heap[g6]? = some (.cells #[.int .i64 R', .slice B15 l15'.length d15, .int .i64 wt', .int .i64 ut'] 34 (0, 0)) := blk_put (blk_put (blk_put (blk_put (hb72) 0 (.int .i64 R') rfl) 1 (.slice B15 l15'.length d15) rfl) 2 (.int .i64 wt') rfl) 3 (.int .i64 ut') rfl
        have fb92 := Kd.Q_mono (ok' := fun _ => True) (Kd.Q_far (p := ⟨g6, 3, none⟩) (Kd.Q_far (p := ⟨g6, 2, none⟩) (Kd.Q_far (p := ⟨g6, 1, none⟩) (Kd.Q_far (p := ⟨g6, 0, none⟩) (Kd.Q_types fb76 hb72 (by decide)) (fun k hk => hk.2) (.int .i64 R')) (fun k hk => hk.2) (.slice B15 l15'.length d15)) (fun k hk => hk.2) (.int .i64 wt')) (fun k hk => hk.2) (.int .i64 ut')) (fun _ _ => trivial)
        have fb93 := Kd.Q_mono (ok' := fun k => k ≠ g7) (Kd.Q_far (p := ⟨g6, 3, none⟩) (Kd.Q_far (p := ⟨g6, 2, none⟩) (Kd.Q_far (p := ⟨g6, 1, none⟩) (Kd.Q_far (p := ⟨g6, 0, none⟩) (Kd.Q_types fb77 hb72 (by decide)) (fun k hk => hk.2) (.int .i64 R')) (fun k hk => hk.2) (.slice B15 l15'.length d15)) (fun k hk => hk.2) (.int .i64 wt')) (fun k hk => hk.2) (.int .i64 ut')) (fun k hk => hk.1)
        have fb94 := Kd.Q_mono (ok' := fun _ => True) (Kd.Q_far (p := ⟨g6, 3, none⟩) (Kd.Q_far (p := ⟨g6, 2, none⟩) (Kd.Q_far (p := ⟨g6, 1, none⟩) (Kd.Q_far (p := ⟨g6, 0, none⟩) (Kd.Q_types fb78 hb72 (by decide)) (fun k hk => hk.2) (.int .i64 R')) (fun k hk => hk.2) (.slice B15 l15'.length d15)) (fun k hk => hk.2) (.int .i64 wt')) (fun k hk => hk.2) (.int .i64 ut')) (fun _ _ => trivial)
        have bb95 := Kept.setCell (p := ⟨g6, 3, none⟩) (Kept.setCell (p := ⟨g6, 2, none⟩) (Kept.setCell (p := ⟨g6, 1, none⟩) (Kept.setCell (p := ⟨g6, 0, none⟩) (bb79) (.inr ge_g6) (.int .i64 R')) (.inr ge_g6) (.slice B15 l15'.length d15)) (.inr ge_g6) (.int .i64 wt')) (.inr ge_g6) (.int .i64 ut')
        have ob96 := os_set (p := ⟨g6, 3, none⟩) (u := .int .i64 ut') (os_set (p := ⟨g6, 2, none⟩) (u := .int .i64 wt') (os_set (p := ⟨g6, 1, none⟩) (u := .slice B15 l15'.length d15) (os_set (p := ⟨g6, 0, none⟩) (u := .int .i64 R') (ob80))))
        generalize ((((wb70.setCell _ _).setCell _ _).setCell _ _).setCell _ _) = wb97 at fb89 fb90 fb91 fb92 fb93 fb94 bb95 ob96 ⊢
        refine hK.out _ _ fb89 (fun hHeld => ?_)
        clear hK K
        refine one_ (i := 23) (N := none) #[true, true, true, true, true, true, true, true, true, true, true, true, true, true, true, true, true, true, true, true, true, true, true, true] rfl rfl (by kernel_rfl) (by decide) (fun K hK => ?_)
        have zb98 := blk_cell fb90 0
        have zb100 := blk_frozen fb90 0
        have zb99 := blk_cell fb90 1
        have zb101 := blk_frozen fb90 1
        simp only [List.getElem?_toArray, List.getElem?_cons_zero, List.getElem?_cons_succ] at zb98 zb99
        refine skip_ (w1 := ?_) (by rfl) rfl ?_ ?_
        rotate_left
        · go_simp
          rfl
        clear zb98 zb99 zb100 zb101
        have fb102 := blk_far (p := ⟨g7, 1, none⟩) (blk_far (p := ⟨g7, 0, none⟩) (fb89) (by show G ≠ g7; omega) (.int .i64 cost)) (by show G ≠ g7; omega) (.bool bad)
        have fb103 : (_ : World).heap[g7]? = some (.cells #[.int .i64 cost, .bool bad] 52 (0, 0)) := blk_put (blk_put (fb90) 0 (.int .i64 cost) rfl) 1 (.bool bad) rfl
        have fb104 := blk_far (p := ⟨g7, 1, none⟩) (blk_far (p := ⟨g7, 0, none⟩) (fb91) (by show g6 ≠ g7; omega) (.int .i64 cost)) (by show g6 ≠ g7; omega) (.bool bad)
        have fb105 := Kd.Q_mono (ok' := fun _ => True) (Kd.Q_far (p := ⟨g7, 1, none⟩) (Kd.Q_far (p := ⟨g7, 0, none⟩) (Kd.Q_types fb92 fb90 (by decide)) (fun k hk => hk.2) (.int .i64 cost)) (fun k hk => hk.2) (.bool bad)) (fun _ _ => trivial)
        have fb106 := Kd.Q_mono (ok' := fun _ => True) (Kd.Q_far (p := ⟨g7, 1, none⟩) (Kd.Q_far (p := ⟨g7, 0, none⟩) (fb93) (fun k hk => hk) (.int .i64 cost)) (fun k hk => hk) (.bool bad)) (fun _ _ => trivial)
        have fb107 := Kd.Q_mono (ok' := fun _ => True) (Kd.Q_far (p := ⟨g7, 1, none⟩) (Kd.Q_far (p := ⟨g7, 0, none⟩) (Kd.Q_types fb94 fb90 (by decide)) (fun k hk => hk.2) (.int .i64 cost)) (fun k hk => hk.2) (.bool bad)) (fun _ _ => trivial)
        have bb108 := Kept.setCell (p := ⟨g7, 1, none⟩) (Kept.setCell (p := ⟨g7, 0, none⟩) (bb95) (.inr ge_g7) (.int .i64 cost)) (.inr ge_g7) (.bool bad)
        have ob109 := os_set (p := ⟨g7, 1, none⟩) (u := .bool bad) (os_set (p := ⟨g7, 0, none⟩) (u := .int .i64 cost) (ob96))
        generalize ((wb97.setCell _ _).setCell _ _) = wb110 at fb102 fb103 fb104 fb105 fb106 fb107 bb108 ob109 ⊢
        refine hK.out _ _ fb102 (fun hHeld => ?_)
        clear hK K
        refine done_ (by kernel_rfl) ?_
        (try go_wp2)
        go_meet
        exact ⟨g6, g7, _, _, rfl, rfl, fb102, fb104, fb103, fb107, fb106, by omega, by omega, bb108, ob109⟩
    · skip
      refine box_step ?hg (N := 6) ?hd (cs := #[.int .i64 0, .slice none 0 0, .int .i64 0, .int .i64 0]) (t := 34) ?hr ?_; (case hd => rfl); (case hg => rfl); (case hr => first | (go_simp; done) | (go_simp; rfl))
      intro g6 eb114 wb111 hb113 hbb112
      have lt_G_g6 : G < g6 := by rw [eb114]; exact blk_lt FG
      have ge_g6 : w.heap.size ≤ g6 := by rw [eb114]; exact FB.1
      clear eb114
      have fb115 := blk_below FG hbb112
      have fb116 := Kd.Q_below FS hbb112
      have fb117 := Kd.Q_below FM hbb112
      have bb118 := Kept.below FB hbb112
      have ob119 := os_below FO hbb112
      refine hK.out _ _ fb115 (fun hHeld => ?_)
      clear hK K
      refine norm_ (a' := ?_) ?_ ?_
      rotate_left
      · show Act.put _ (some 6) _ = _
        simp only [Act.put, List.setIfInBounds_toArray, List.set_cons_zero, List.set_cons_succ, i64_w, i32_w]
        rfl
      refine two_ (i := 16) (j := 21) (Ni := some 44) (Nj := some 7) #[true, true, true, true, true, true, true, true, true, true, true, true, true, true, true, true, true, false, false, false, true, false, false, false] #[true, true, true, true, true, true, true, true, true, true, true, true, true, true, true, true, false, false, false, false, true, true, false, false] rfl rfl rfl rfl (by kernel_rfl) (by decide) (by decide) (fun K hK => ?_) (fun K hK => ?_)
      · skip
        refine goes_ Try.func49 (by kernel_rfl) rfl #[.agg #[.int .i64 q0, .int .i64 q1, .int .i64 q2, .int .i64 q3, .int .i64 q4, .int .i64 q5, .int .i64 q6, .int .i64 q7, .int .i64 q8, .int .i64 q9, .int .i64 q10, .int .i64 q11], .agg #[.int .i64 R, .slice A15 l15.length c15, .int .i64 wt, .int .i64 ut], .int .i64 k0, .int .i64 demand] (by rfl) rfl rfl (by (try simp only [List.map_toArray, List.map_cons, List.map_nil]); first | done | rfl) ?_
        refine (plant_Step.calls _ _ _ _ _ _ _ _ _ _ _ _ _ _ _ _ _ _ _ _ _ _ _ _ _ _ _ (Kd.Q_reads' fb116).2.2 (Kd.Q_reads' fb116).2.1 HP.out).mono ?_
        rintro e_ wb120 ⟨v15, rfl, rb121, hbb122⟩
        refine ⟨_, rfl, ?_⟩
        have fb123 := blk_below fb115 hbb122
        have fb124 := blk_below hb113 hbb122
        have fb125 := Kd.Q_below fb116 hbb122
        have fb126 := Kd.Q_below fb117 hbb122
        have bb127 := Kept.below bb118 hbb122
        have ob128 := os_below ob119 hbb122
        replace rb121 := Kd.Q_lower rb121 (Nat.le_trans hB0 bb118.1)
        obtain ⟨B15, d15, rfl, _⟩ := Kd.Q_slice rb121
        refine hK.out _ _ fb123 (fun hHeld => ?_)
        clear hK K
        refine norm_ (a' := ?_) ?_ ?_
        rotate_left
        · show Act.put _ (some 44) _ = _
          simp only [Act.put, List.setIfInBounds_toArray, List.set_cons_zero, List.set_cons_succ, i64_w, i32_w]
          rfl
        refine pure_ (i := 17) (N := some 27) (v := ?_) (a' := ?_) #[true, true, true, true, true, true, true, true, true, true, true, true, true, true, true, true, true, true, false, false, true, false, false, false] rfl rfl (by kernel_rfl) (fun _ _ _ h => h) (Or.inl ⟨by rfl, ?_⟩) ?_ ?_
        rotate_left
        · intro w'
          go_simp
          with_reducible rfl
        rotate_left
        · simp only [Act.put, List.setIfInBounds_toArray, List.set_cons_zero, List.set_cons_succ, i64_w, i32_w]
          rfl
        refine pure_ (i := 18) (N := some 45) (v := ?_) (a' := ?_) #[true, true, true, true, true, true, true, true, true, true, true, true, true, true, true, true, true, true, true, false, true, false, false, false] rfl rfl (by kernel_rfl) (fun _ _ _ h => h) (Or.inl ⟨by rfl, ?_⟩) ?_ ?_
        rotate_left
        · intro w'
          go_simp
          with_reducible rfl
        rotate_left
        · simp only [Act.put, List.setIfInBounds_toArray, List.set_cons_zero, List.set_cons_succ, i64_w, i32_w]
          rfl
        refine pure_ (i := 19) (N := some 46) (v := ?_) (a' := ?_) #[true, true, true, true, true, true, true, true, true, true, true, true, true, true, true, true, true, true, true, true, true, false, false, false] rfl rfl (by kernel_rfl) (fun _ _ _ h => h) (Or.inl ⟨by rfl, ?_⟩) ?_ ?_
        rotate_left
        · intro w'
          go_simp
          with_reducible rfl
        rotate_left
        · simp only [Act.put, List.setIfInBounds_toArray, List.set_cons_zero, List.set_cons_succ, i64_w, i32_w]
          rfl
        refine one_ (i := 21) (N := some 7) #[true, true, true, true, true, true, true, true, true, true, true, true, true, true, true, true, true, true, true, true, true, true, false, false] rfl rfl (by kernel_rfl) (by decide) (fun K hK => ?_)
        refine box_step ?hg (N := 7) ?hd (cs := #[.int .i64 0, .bool false]) (t := 52) ?hr ?_; (case hd => rfl); (case hg => rfl); (case hr => first | (go_simp; done) | (go_simp; rfl))
        intro g7 eb132 wb129 hb131 hbb130
        have lt_G_g7 : G < g7 := by rw [eb132]; exact blk_lt fb123
        have lt_g6_g7 : g6 < g7 := by rw [eb132]; exact blk_lt fb124
        have ge_g7 : w.heap.size ≤ g7 := by rw [eb132]; exact bb127.1
        replace fb126 := Kd.Q_mono (ok' := fun k => k ≠ g7) (Kd.Q_bound fb126) (fun k hk => by have h1 := hk.2.2.1; omega)
        clear eb132
        have fb133 := blk_below fb123 hbb130
        have fb134 := blk_below fb124 hbb130
        have fb135 := Kd.Q_below fb125 hbb130
        have fb136 := Kd.Q_below fb126 hbb130
        have fb137 := Kd.Q_below rb121 hbb130
        have bb138 := Kept.below bb127 hbb130
        have ob139 := os_below ob128 hbb130
        refine hK.out _ _ fb133 (fun hHeld => ?_)
        clear hK K
        refine norm_ (a' := ?_) ?_ ?_
        rotate_left
        · show Act.put _ (some 7) _ = _
          simp only [Act.put, List.setIfInBounds_toArray, List.set_cons_zero, List.set_cons_succ, i64_w, i32_w]
          rfl
        refine one_ (i := 22) (N := none) #[true, true, true, true, true, true, true, true, true, true, true, true, true, true, true, true, true, true, true, true, true, true, true, false] rfl rfl (by kernel_rfl) (by decide) (fun K hK => ?_)
        have zb140 := blk_cell fb134 0
        have zb144 := blk_frozen fb134 0
        have zb141 := blk_cell fb134 1
        have zb145 := blk_frozen fb134 1
        have zb142 := blk_cell fb134 2
        have zb146 := blk_frozen fb134 2
        have zb143 := blk_cell fb134 3
        have zb147 := blk_frozen fb134 3
        simp only [List.getElem?_toArray, List.getElem?_cons_zero, List.getElem?_cons_succ] at zb140 zb141 zb142 zb143
        refine skip_ (w1 := ?_) (by rfl) rfl ?_ ?_
        rotate_left
        · go_simp
          rfl
        clear zb140 zb141 zb142 zb143 zb144 zb145 zb146 zb147
        have fb148 := blk_far (p := ⟨g6, 3, none⟩) (blk_far (p := ⟨g6, 2, none⟩) (blk_far (p := ⟨g6, 1, none⟩) (blk_far (p := ⟨g6, 0, none⟩) (fb133) (by show G ≠ g6; omega) (.int .i64 R')) (by show G ≠ g6; omega) (.slice B15 l15'.length d15)) (by show G ≠ g6; omega) (.int .i64 wt')) (by show G ≠ g6; omega) (.int .i64 ut')
        have fb149 : (_ : World).heap[g6]? = some (.cells #[.int .i64 R', .slice B15 l15'.length d15, .int .i64 wt', .int .i64 ut'] 34 (0, 0)) := blk_put (blk_put (blk_put (blk_put (fb134) 0 (.int .i64 R') rfl) 1 (.slice B15 l15'.length d15) rfl) 2 (.int .i64 wt') rfl) 3 (.int .i64 ut') rfl
        have fb150 := blk_far (p := ⟨g6, 3, none⟩) (blk_far (p := ⟨g6, 2, none⟩) (blk_far (p := ⟨g6, 1, none⟩) (blk_far (p := ⟨g6, 0, none⟩) (hb131) (by show g7 ≠ g6; omega) (.int .i64 R')) (by show g7 ≠ g6; omega) (.slice B15 l15'.length d15)) (by show g7 ≠ g6; omega) (.int .i64 wt')) (by show g7 ≠ g6; omega) (.int .i64 ut')
        have fb151 := Kd.Q_mono (ok' := fun _ => True) (Kd.Q_far (p := ⟨g6, 3, none⟩) (Kd.Q_far (p := ⟨g6, 2, none⟩) (Kd.Q_far (p := ⟨g6, 1, none⟩) (Kd.Q_far (p := ⟨g6, 0, none⟩) (Kd.Q_types fb135 fb134 (by decide)) (fun k hk => hk.2) (.int .i64 R')) (fun k hk => hk.2) (.slice B15 l15'.length d15)) (fun k hk => hk.2) (.int .i64 wt')) (fun k hk => hk.2) (.int .i64 ut')) (fun _ _ => trivial)
        have fb152 := Kd.Q_mono (ok' := fun k => k ≠ g7) (Kd.Q_far (p := ⟨g6, 3, none⟩) (Kd.Q_far (p := ⟨g6, 2, none⟩) (Kd.Q_far (p := ⟨g6, 1, none⟩) (Kd.Q_far (p := ⟨g6, 0, none⟩) (Kd.Q_types fb136 fb134 (by decide)) (fun k hk => hk.2) (.int .i64 R')) (fun k hk => hk.2) (.slice B15 l15'.length d15)) (fun k hk => hk.2) (.int .i64 wt')) (fun k hk => hk.2) (.int .i64 ut')) (fun k hk => hk.1)
        have fb153 := Kd.Q_mono (ok' := fun _ => True) (Kd.Q_far (p := ⟨g6, 3, none⟩) (Kd.Q_far (p := ⟨g6, 2, none⟩) (Kd.Q_far (p := ⟨g6, 1, none⟩) (Kd.Q_far (p := ⟨g6, 0, none⟩) (Kd.Q_types fb137 fb134 (by decide)) (fun k hk => hk.2) (.int .i64 R')) (fun k hk => hk.2) (.slice B15 l15'.length d15)) (fun k hk => hk.2) (.int .i64 wt')) (fun k hk => hk.2) (.int .i64 ut')) (fun _ _ => trivial)
        have bb154 := Kept.setCell (p := ⟨g6, 3, none⟩) (Kept.setCell (p := ⟨g6, 2, none⟩) (Kept.setCell (p := ⟨g6, 1, none⟩) (Kept.setCell (p := ⟨g6, 0, none⟩) (bb138) (.inr ge_g6) (.int .i64 R')) (.inr ge_g6) (.slice B15 l15'.length d15)) (.inr ge_g6) (.int .i64 wt')) (.inr ge_g6) (.int .i64 ut')
        have ob155 := os_set (p := ⟨g6, 3, none⟩) (u := .int .i64 ut') (os_set (p := ⟨g6, 2, none⟩) (u := .int .i64 wt') (os_set (p := ⟨g6, 1, none⟩) (u := .slice B15 l15'.length d15) (os_set (p := ⟨g6, 0, none⟩) (u := .int .i64 R') (ob139))))
        generalize ((((wb129.setCell _ _).setCell _ _).setCell _ _).setCell _ _) = wb156 at fb148 fb149 fb150 fb151 fb152 fb153 bb154 ob155 ⊢
        refine hK.out _ _ fb148 (fun hHeld => ?_)
        clear hK K
        refine one_ (i := 23) (N := none) #[true, true, true, true, true, true, true, true, true, true, true, true, true, true, true, true, true, true, true, true, true, true, true, true] rfl rfl (by kernel_rfl) (by decide) (fun K hK => ?_)
        have zb157 := blk_cell fb150 0
        have zb159 := blk_frozen fb150 0
        have zb158 := blk_cell fb150 1
        have zb160 := blk_frozen fb150 1
        simp only [List.getElem?_toArray, List.getElem?_cons_zero, List.getElem?_cons_succ] at zb157 zb158
        refine skip_ (w1 := ?_) (by rfl) rfl ?_ ?_
        rotate_left
        · go_simp
          rfl
        clear zb157 zb158 zb159 zb160
        have fb161 := blk_far (p := ⟨g7, 1, none⟩) (blk_far (p := ⟨g7, 0, none⟩) (fb148) (by show G ≠ g7; omega) (.int .i64 cost)) (by show G ≠ g7; omega) (.bool bad)
        have fb162 := blk_far (p := ⟨g7, 1, none⟩) (blk_far (p := ⟨g7, 0, none⟩) (fb149) (by show g6 ≠ g7; omega) (.int .i64 cost)) (by show g6 ≠ g7; omega) (.bool bad)
        have fb163 : (_ : World).heap[g7]? = some (.cells #[.int .i64 cost, .bool bad] 52 (0, 0)) := blk_put (blk_put (fb150) 0 (.int .i64 cost) rfl) 1 (.bool bad) rfl
        have fb164 := Kd.Q_mono (ok' := fun _ => True) (Kd.Q_far (p := ⟨g7, 1, none⟩) (Kd.Q_far (p := ⟨g7, 0, none⟩) (Kd.Q_types fb151 fb150 (by decide)) (fun k hk => hk.2) (.int .i64 cost)) (fun k hk => hk.2) (.bool bad)) (fun _ _ => trivial)
        have fb165 := Kd.Q_mono (ok' := fun _ => True) (Kd.Q_far (p := ⟨g7, 1, none⟩) (Kd.Q_far (p := ⟨g7, 0, none⟩) (fb152) (fun k hk => hk) (.int .i64 cost)) (fun k hk => hk) (.bool bad)) (fun _ _ => trivial)
        have fb166 := Kd.Q_mono (ok' := fun _ => True) (Kd.Q_far (p := ⟨g7, 1, none⟩) (Kd.Q_far (p := ⟨g7, 0, none⟩) (Kd.Q_types fb153 fb150 (by decide)) (fun k hk => hk.2) (.int .i64 cost)) (fun k hk => hk.2) (.bool bad)) (fun _ _ => trivial)
        have bb167 := Kept.setCell (p := ⟨g7, 1, none⟩) (Kept.setCell (p := ⟨g7, 0, none⟩) (bb154) (.inr ge_g7) (.int .i64 cost)) (.inr ge_g7) (.bool bad)
        have ob168 := os_set (p := ⟨g7, 1, none⟩) (u := .bool bad) (os_set (p := ⟨g7, 0, none⟩) (u := .int .i64 cost) (ob155))
        generalize ((wb156.setCell _ _).setCell _ _) = wb169 at fb161 fb162 fb163 fb164 fb165 fb166 bb167 ob168 ⊢
        refine hK.out _ _ fb161 (fun hHeld => ?_)
        clear hK K
        refine done_ (by kernel_rfl) ?_
        (try go_wp2)
        go_meet
        exact ⟨g6, g7, _, _, rfl, rfl, fb161, fb162, fb163, fb166, fb165, by omega, by omega, bb167, ob168⟩
      · skip
        refine box_step ?hg (N := 7) ?hd (cs := #[.int .i64 0, .bool false]) (t := 52) ?hr ?_; (case hd => rfl); (case hg => rfl); (case hr => first | (go_simp; done) | (go_simp; rfl))
        intro g7 eb173 wb170 hb172 hbb171
        have lt_G_g7 : G < g7 := by rw [eb173]; exact blk_lt fb115
        have lt_g6_g7 : g6 < g7 := by rw [eb173]; exact blk_lt hb113
        have ge_g7 : w.heap.size ≤ g7 := by rw [eb173]; exact bb118.1
        replace fb117 := Kd.Q_mono (ok' := fun k => k ≠ g7) (Kd.Q_bound fb117) (fun k hk => by have h1 := hk.2.2.1; omega)
        clear eb173
        have fb174 := blk_below fb115 hbb171
        have fb175 := blk_below hb113 hbb171
        have fb176 := Kd.Q_below fb116 hbb171
        have fb177 := Kd.Q_below fb117 hbb171
        have bb178 := Kept.below bb118 hbb171
        have ob179 := os_below ob119 hbb171
        refine hK.out _ _ fb174 (fun hHeld => ?_)
        clear hK K
        refine norm_ (a' := ?_) ?_ ?_
        rotate_left
        · show Act.put _ (some 7) _ = _
          simp only [Act.put, List.setIfInBounds_toArray, List.set_cons_zero, List.set_cons_succ, i64_w, i32_w]
          rfl
        refine one_ (i := 16) (N := some 44) #[true, true, true, true, true, true, true, true, true, true, true, true, true, true, true, true, true, false, false, false, true, true, false, false] rfl rfl (by kernel_rfl) (by decide) (fun K hK => ?_)
        refine goes_ Try.func49 (by kernel_rfl) rfl #[.agg #[.int .i64 q0, .int .i64 q1, .int .i64 q2, .int .i64 q3, .int .i64 q4, .int .i64 q5, .int .i64 q6, .int .i64 q7, .int .i64 q8, .int .i64 q9, .int .i64 q10, .int .i64 q11], .agg #[.int .i64 R, .slice A15 l15.length c15, .int .i64 wt, .int .i64 ut], .int .i64 k0, .int .i64 demand] (by rfl) rfl rfl (by (try simp only [List.map_toArray, List.map_cons, List.map_nil]); first | done | rfl) ?_
        refine (plant_Step.calls _ _ _ _ _ _ _ _ _ _ _ _ _ _ _ _ _ _ _ _ _ _ _ _ _ _ _ (Kd.Q_reads' fb176).2.2 (Kd.Q_reads' fb176).2.1 HP.out).mono ?_
        rintro e_ wb180 ⟨v15, rfl, rb181, hbb182⟩
        refine ⟨_, rfl, ?_⟩
        have fb183 := blk_below fb174 hbb182
        have fb184 := blk_below fb175 hbb182
        have fb185 := blk_below hb172 hbb182
        have fb186 := Kd.Q_below fb176 hbb182
        have fb187 := Kd.Q_below fb177 hbb182
        have bb188 := Kept.below bb178 hbb182
        have ob189 := os_below ob179 hbb182
        replace rb181 := Kd.Q_lower rb181 (Nat.le_trans hB0 bb178.1)
        obtain ⟨B15, d15, rfl, _⟩ := Kd.Q_slice rb181
        refine hK.out _ _ fb183 (fun hHeld => ?_)
        clear hK K
        refine norm_ (a' := ?_) ?_ ?_
        rotate_left
        · show Act.put _ (some 44) _ = _
          simp only [Act.put, List.setIfInBounds_toArray, List.set_cons_zero, List.set_cons_succ, i64_w, i32_w]
          rfl
        refine pure_ (i := 17) (N := some 27) (v := ?_) (a' := ?_) #[true, true, true, true, true, true, true, true, true, true, true, true, true, true, true, true, true, true, false, false, true, true, false, false] rfl rfl (by kernel_rfl) (fun _ _ _ h => h) (Or.inl ⟨by rfl, ?_⟩) ?_ ?_
        rotate_left
        · intro w'
          go_simp
          with_reducible rfl
        rotate_left
        · simp only [Act.put, List.setIfInBounds_toArray, List.set_cons_zero, List.set_cons_succ, i64_w, i32_w]
          rfl
        refine pure_ (i := 18) (N := some 45) (v := ?_) (a' := ?_) #[true, true, true, true, true, true, true, true, true, true, true, true, true, true, true, true, true, true, true, false, true, true, false, false] rfl rfl (by kernel_rfl) (fun _ _ _ h => h) (Or.inl ⟨by rfl, ?_⟩) ?_ ?_
        rotate_left
        · intro w'
          go_simp
          with_reducible rfl
        rotate_left
        · simp only [Act.put, List.setIfInBounds_toArray, List.set_cons_zero, List.set_cons_succ, i64_w, i32_w]
          rfl
        refine pure_ (i := 19) (N := some 46) (v := ?_) (a' := ?_) #[true, true, true, true, true, true, true, true, true, true, true, true, true, true, true, true, true, true, true, true, true, true, false, false] rfl rfl (by kernel_rfl) (fun _ _ _ h => h) (Or.inl ⟨by rfl, ?_⟩) ?_ ?_
        rotate_left
        · intro w'
          go_simp
          with_reducible rfl
        rotate_left
        · simp only [Act.put, List.setIfInBounds_toArray, List.set_cons_zero, List.set_cons_succ, i64_w, i32_w]
          rfl
        refine one_ (i := 22) (N := none) #[true, true, true, true, true, true, true, true, true, true, true, true, true, true, true, true, true, true, true, true, true, true, true, false] rfl rfl (by kernel_rfl) (by decide) (fun K hK => ?_)
        have zb190 := blk_cell fb184 0
        have zb194 := blk_frozen fb184 0
        have zb191 := blk_cell fb184 1
        have zb195 := blk_frozen fb184 1
        have zb192 := blk_cell fb184 2
        have zb196 := blk_frozen fb184 2
        have zb193 := blk_cell fb184 3
        have zb197 := blk_frozen fb184 3
        simp only [List.getElem?_toArray, List.getElem?_cons_zero, List.getElem?_cons_succ] at zb190 zb191 zb192 zb193
        refine skip_ (w1 := ?_) (by rfl) rfl ?_ ?_
        rotate_left
        · go_simp
          rfl
        clear zb190 zb191 zb192 zb193 zb194 zb195 zb196 zb197
        have fb198 := blk_far (p := ⟨g6, 3, none⟩) (blk_far (p := ⟨g6, 2, none⟩) (blk_far (p := ⟨g6, 1, none⟩) (blk_far (p := ⟨g6, 0, none⟩) (fb183) (by show G ≠ g6; omega) (.int .i64 R')) (by show G ≠ g6; omega) (.slice B15 l15'.length d15)) (by show G ≠ g6; omega) (.int .i64 wt')) (by show G ≠ g6; omega) (.int .i64 ut')
        have fb199 : (_ : World).heap[g6]? = some (.cells #[.int .i64 R', .slice B15 l15'.length d15, .int .i64 wt', .int .i64 ut'] 34 (0, 0)) := blk_put (blk_put (blk_put (blk_put (fb184) 0 (.int .i64 R') rfl) 1 (.slice B15 l15'.length d15) rfl) 2 (.int .i64 wt') rfl) 3 (.int .i64 ut') rfl
        have fb200 := blk_far (p := ⟨g6, 3, none⟩) (blk_far (p := ⟨g6, 2, none⟩) (blk_far (p := ⟨g6, 1, none⟩) (blk_far (p := ⟨g6, 0, none⟩) (fb185) (by show g7 ≠ g6; omega) (.int .i64 R')) (by show g7 ≠ g6; omega) (.slice B15 l15'.length d15)) (by show g7 ≠ g6; omega) (.int .i64 wt')) (by show g7 ≠ g6; omega) (.int .i64 ut')
        have fb201 := Kd.Q_mono (ok' := fun _ => True) (Kd.Q_far (p := ⟨g6, 3, none⟩) (Kd.Q_far (p := ⟨g6, 2, none⟩) (Kd.Q_far (p := ⟨g6, 1, none⟩) (Kd.Q_far (p := ⟨g6, 0, none⟩) (Kd.Q_types fb186 fb184 (by decide)) (fun k hk => hk.2) (.int .i64 R')) (fun k hk => hk.2) (.slice B15 l15'.length d15)) (fun k hk => hk.2) (.int .i64 wt')) (fun k hk => hk.2) (.int .i64 ut')) (fun _ _ => trivial)
        have fb202 := Kd.Q_mono (ok' := fun k => k ≠ g7) (Kd.Q_far (p := ⟨g6, 3, none⟩) (Kd.Q_far (p := ⟨g6, 2, none⟩) (Kd.Q_far (p := ⟨g6, 1, none⟩) (Kd.Q_far (p := ⟨g6, 0, none⟩) (Kd.Q_types fb187 fb184 (by decide)) (fun k hk => hk.2) (.int .i64 R')) (fun k hk => hk.2) (.slice B15 l15'.length d15)) (fun k hk => hk.2) (.int .i64 wt')) (fun k hk => hk.2) (.int .i64 ut')) (fun k hk => hk.1)
        have fb203 := Kd.Q_mono (ok' := fun _ => True) (Kd.Q_far (p := ⟨g6, 3, none⟩) (Kd.Q_far (p := ⟨g6, 2, none⟩) (Kd.Q_far (p := ⟨g6, 1, none⟩) (Kd.Q_far (p := ⟨g6, 0, none⟩) (Kd.Q_types rb181 fb184 (by decide)) (fun k hk => hk.2) (.int .i64 R')) (fun k hk => hk.2) (.slice B15 l15'.length d15)) (fun k hk => hk.2) (.int .i64 wt')) (fun k hk => hk.2) (.int .i64 ut')) (fun _ _ => trivial)
        have bb204 := Kept.setCell (p := ⟨g6, 3, none⟩) (Kept.setCell (p := ⟨g6, 2, none⟩) (Kept.setCell (p := ⟨g6, 1, none⟩) (Kept.setCell (p := ⟨g6, 0, none⟩) (bb188) (.inr ge_g6) (.int .i64 R')) (.inr ge_g6) (.slice B15 l15'.length d15)) (.inr ge_g6) (.int .i64 wt')) (.inr ge_g6) (.int .i64 ut')
        have ob205 := os_set (p := ⟨g6, 3, none⟩) (u := .int .i64 ut') (os_set (p := ⟨g6, 2, none⟩) (u := .int .i64 wt') (os_set (p := ⟨g6, 1, none⟩) (u := .slice B15 l15'.length d15) (os_set (p := ⟨g6, 0, none⟩) (u := .int .i64 R') (ob189))))
        generalize ((((wb180.setCell _ _).setCell _ _).setCell _ _).setCell _ _) = wb206 at fb198 fb199 fb200 fb201 fb202 fb203 bb204 ob205 ⊢
        refine hK.out _ _ fb198 (fun hHeld => ?_)
        clear hK K
        refine one_ (i := 23) (N := none) #[true, true, true, true, true, true, true, true, true, true, true, true, true, true, true, true, true, true, true, true, true, true, true, true] rfl rfl (by kernel_rfl) (by decide) (fun K hK => ?_)
        have zb207 := blk_cell fb200 0
        have zb209 := blk_frozen fb200 0
        have zb208 := blk_cell fb200 1
        have zb210 := blk_frozen fb200 1
        simp only [List.getElem?_toArray, List.getElem?_cons_zero, List.getElem?_cons_succ] at zb207 zb208
        refine skip_ (w1 := ?_) (by rfl) rfl ?_ ?_
        rotate_left
        · go_simp
          rfl
        clear zb207 zb208 zb209 zb210
        have fb211 := blk_far (p := ⟨g7, 1, none⟩) (blk_far (p := ⟨g7, 0, none⟩) (fb198) (by show G ≠ g7; omega) (.int .i64 cost)) (by show G ≠ g7; omega) (.bool bad)
        have fb212 := blk_far (p := ⟨g7, 1, none⟩) (blk_far (p := ⟨g7, 0, none⟩) (fb199) (by show g6 ≠ g7; omega) (.int .i64 cost)) (by show g6 ≠ g7; omega) (.bool bad)
        have fb213 : (_ : World).heap[g7]? = some (.cells #[.int .i64 cost, .bool bad] 52 (0, 0)) := blk_put (blk_put (fb200) 0 (.int .i64 cost) rfl) 1 (.bool bad) rfl
        have fb214 := Kd.Q_mono (ok' := fun _ => True) (Kd.Q_far (p := ⟨g7, 1, none⟩) (Kd.Q_far (p := ⟨g7, 0, none⟩) (Kd.Q_types fb201 fb200 (by decide)) (fun k hk => hk.2) (.int .i64 cost)) (fun k hk => hk.2) (.bool bad)) (fun _ _ => trivial)
        have fb215 := Kd.Q_mono (ok' := fun _ => True) (Kd.Q_far (p := ⟨g7, 1, none⟩) (Kd.Q_far (p := ⟨g7, 0, none⟩) (fb202) (fun k hk => hk) (.int .i64 cost)) (fun k hk => hk) (.bool bad)) (fun _ _ => trivial)
        have fb216 := Kd.Q_mono (ok' := fun _ => True) (Kd.Q_far (p := ⟨g7, 1, none⟩) (Kd.Q_far (p := ⟨g7, 0, none⟩) (Kd.Q_types fb203 fb200 (by decide)) (fun k hk => hk.2) (.int .i64 cost)) (fun k hk => hk.2) (.bool bad)) (fun _ _ => trivial)
        have bb217 := Kept.setCell (p := ⟨g7, 1, none⟩) (Kept.setCell (p := ⟨g7, 0, none⟩) (bb204) (.inr ge_g7) (.int .i64 cost)) (.inr ge_g7) (.bool bad)
        have ob218 := os_set (p := ⟨g7, 1, none⟩) (u := .bool bad) (os_set (p := ⟨g7, 0, none⟩) (u := .int .i64 cost) (ob205))
        generalize ((wb206.setCell _ _).setCell _ _) = wb219 at fb211 fb212 fb213 fb214 fb215 fb216 bb217 ob218 ⊢
        refine hK.out _ _ fb211 (fun hHeld => ?_)
        clear hK K
        refine done_ (by kernel_rfl) ?_
        (try go_wp2)
        go_meet
        exact ⟨g6, g7, _, _, rfl, rfl, fb211, fb212, fb213, fb216, fb215, by omega, by omega, bb217, ob218⟩
    · skip
      refine box_step ?hg (N := 7) ?hd (cs := #[.int .i64 0, .bool false]) (t := 52) ?hr ?_; (case hd => rfl); (case hg => rfl); (case hr => first | (go_simp; done) | (go_simp; rfl))
      intro g7 eb223 wb220 hb222 hbb221
      have lt_G_g7 : G < g7 := by rw [eb223]; exact blk_lt FG
      have ge_g7 : w.heap.size ≤ g7 := by rw [eb223]; exact FB.1
      replace FM := Kd.Q_mono (ok' := fun k => k ≠ g7) (Kd.Q_bound FM) (fun k hk => by have h1 := hk.2.2.1; omega)
      clear eb223
      have fb224 := blk_below FG hbb221
      have fb225 := Kd.Q_below FS hbb221
      have fb226 := Kd.Q_below FM hbb221
      have bb227 := Kept.below FB hbb221
      have ob228 := os_below FO hbb221
      refine hK.out _ _ fb224 (fun hHeld => ?_)
      clear hK K
      refine norm_ (a' := ?_) ?_ ?_
      rotate_left
      · show Act.put _ (some 7) _ = _
        simp only [Act.put, List.setIfInBounds_toArray, List.set_cons_zero, List.set_cons_succ, i64_w, i32_w]
        rfl
      refine two_ (i := 16) (j := 20) (Ni := some 44) (Nj := some 6) #[true, true, true, true, true, true, true, true, true, true, true, true, true, true, true, true, true, false, false, false, false, true, false, false] #[true, true, true, true, true, true, true, true, true, true, true, true, true, true, true, true, false, false, false, false, true, true, false, false] rfl rfl rfl rfl (by kernel_rfl) (by decide) (by decide) (fun K hK => ?_) (fun K hK => ?_)
      · skip
        refine goes_ Try.func49 (by kernel_rfl) rfl #[.agg #[.int .i64 q0, .int .i64 q1, .int .i64 q2, .int .i64 q3, .int .i64 q4, .int .i64 q5, .int .i64 q6, .int .i64 q7, .int .i64 q8, .int .i64 q9, .int .i64 q10, .int .i64 q11], .agg #[.int .i64 R, .slice A15 l15.length c15, .int .i64 wt, .int .i64 ut], .int .i64 k0, .int .i64 demand] (by rfl) rfl rfl (by (try simp only [List.map_toArray, List.map_cons, List.map_nil]); first | done | rfl) ?_
        refine (plant_Step.calls _ _ _ _ _ _ _ _ _ _ _ _ _ _ _ _ _ _ _ _ _ _ _ _ _ _ _ (Kd.Q_reads' fb225).2.2 (Kd.Q_reads' fb225).2.1 HP.out).mono ?_
        rintro e_ wb229 ⟨v15, rfl, rb230, hbb231⟩
        refine ⟨_, rfl, ?_⟩
        have fb232 := blk_below fb224 hbb231
        have fb233 := blk_below hb222 hbb231
        have fb234 := Kd.Q_below fb225 hbb231
        have fb235 := Kd.Q_below fb226 hbb231
        have bb236 := Kept.below bb227 hbb231
        have ob237 := os_below ob228 hbb231
        replace rb230 := Kd.Q_lower rb230 (Nat.le_trans hB0 bb227.1)
        obtain ⟨B15, d15, rfl, _⟩ := Kd.Q_slice rb230
        refine hK.out _ _ fb232 (fun hHeld => ?_)
        clear hK K
        refine norm_ (a' := ?_) ?_ ?_
        rotate_left
        · show Act.put _ (some 44) _ = _
          simp only [Act.put, List.setIfInBounds_toArray, List.set_cons_zero, List.set_cons_succ, i64_w, i32_w]
          rfl
        refine pure_ (i := 17) (N := some 27) (v := ?_) (a' := ?_) #[true, true, true, true, true, true, true, true, true, true, true, true, true, true, true, true, true, true, false, false, false, true, false, false] rfl rfl (by kernel_rfl) (fun _ _ _ h => h) (Or.inl ⟨by rfl, ?_⟩) ?_ ?_
        rotate_left
        · intro w'
          go_simp
          with_reducible rfl
        rotate_left
        · simp only [Act.put, List.setIfInBounds_toArray, List.set_cons_zero, List.set_cons_succ, i64_w, i32_w]
          rfl
        refine pure_ (i := 18) (N := some 45) (v := ?_) (a' := ?_) #[true, true, true, true, true, true, true, true, true, true, true, true, true, true, true, true, true, true, true, false, false, true, false, false] rfl rfl (by kernel_rfl) (fun _ _ _ h => h) (Or.inl ⟨by rfl, ?_⟩) ?_ ?_
        rotate_left
        · intro w'
          go_simp
          with_reducible rfl
        rotate_left
        · simp only [Act.put, List.setIfInBounds_toArray, List.set_cons_zero, List.set_cons_succ, i64_w, i32_w]
          rfl
        refine pure_ (i := 19) (N := some 46) (v := ?_) (a' := ?_) #[true, true, true, true, true, true, true, true, true, true, true, true, true, true, true, true, true, true, true, true, false, true, false, false] rfl rfl (by kernel_rfl) (fun _ _ _ h => h) (Or.inl ⟨by rfl, ?_⟩) ?_ ?_
        rotate_left
        · intro w'
          go_simp
          with_reducible rfl
        rotate_left
        · simp only [Act.put, List.setIfInBounds_toArray, List.set_cons_zero, List.set_cons_succ, i64_w, i32_w]
          rfl
        refine one_ (i := 20) (N := some 6) #[true, true, true, true, true, true, true, true, true, true, true, true, true, true, true, true, true, true, true, true, true, true, false, false] rfl rfl (by kernel_rfl) (by decide) (fun K hK => ?_)
        refine box_step ?hg (N := 6) ?hd (cs := #[.int .i64 0, .slice none 0 0, .int .i64 0, .int .i64 0]) (t := 34) ?hr ?_; (case hd => rfl); (case hg => rfl); (case hr => first | (go_simp; done) | (go_simp; rfl))
        intro g6 eb241 wb238 hb240 hbb239
        have lt_G_g6 : G < g6 := by rw [eb241]; exact blk_lt fb232
        have lt_g7_g6 : g7 < g6 := by rw [eb241]; exact blk_lt fb233
        have ge_g6 : w.heap.size ≤ g6 := by rw [eb241]; exact bb236.1
        clear eb241
        have fb242 := blk_below fb232 hbb239
        have fb243 := blk_below fb233 hbb239
        have fb244 := Kd.Q_below fb234 hbb239
        have fb245 := Kd.Q_below fb235 hbb239
        have fb246 := Kd.Q_below rb230 hbb239
        have bb247 := Kept.below bb236 hbb239
        have ob248 := os_below ob237 hbb239
        refine hK.out _ _ fb242 (fun hHeld => ?_)
        clear hK K
        refine norm_ (a' := ?_) ?_ ?_
        rotate_left
        · show Act.put _ (some 6) _ = _
          simp only [Act.put, List.setIfInBounds_toArray, List.set_cons_zero, List.set_cons_succ, i64_w, i32_w]
          rfl
        refine one_ (i := 22) (N := none) #[true, true, true, true, true, true, true, true, true, true, true, true, true, true, true, true, true, true, true, true, true, true, true, false] rfl rfl (by kernel_rfl) (by decide) (fun K hK => ?_)
        have zb249 := blk_cell hb240 0
        have zb253 := blk_frozen hb240 0
        have zb250 := blk_cell hb240 1
        have zb254 := blk_frozen hb240 1
        have zb251 := blk_cell hb240 2
        have zb255 := blk_frozen hb240 2
        have zb252 := blk_cell hb240 3
        have zb256 := blk_frozen hb240 3
        simp only [List.getElem?_toArray, List.getElem?_cons_zero, List.getElem?_cons_succ] at zb249 zb250 zb251 zb252
        refine skip_ (w1 := ?_) (by rfl) rfl ?_ ?_
        rotate_left
        · go_simp
          rfl
        clear zb249 zb250 zb251 zb252 zb253 zb254 zb255 zb256
        have fb257 := blk_far (p := ⟨g6, 3, none⟩) (blk_far (p := ⟨g6, 2, none⟩) (blk_far (p := ⟨g6, 1, none⟩) (blk_far (p := ⟨g6, 0, none⟩) (fb242) (by show G ≠ g6; omega) (.int .i64 R')) (by show G ≠ g6; omega) (.slice B15 l15'.length d15)) (by show G ≠ g6; omega) (.int .i64 wt')) (by show G ≠ g6; omega) (.int .i64 ut')
        have fb258 := blk_far (p := ⟨g6, 3, none⟩) (blk_far (p := ⟨g6, 2, none⟩) (blk_far (p := ⟨g6, 1, none⟩) (blk_far (p := ⟨g6, 0, none⟩) (fb243) (by show g7 ≠ g6; omega) (.int .i64 R')) (by show g7 ≠ g6; omega) (.slice B15 l15'.length d15)) (by show g7 ≠ g6; omega) (.int .i64 wt')) (by show g7 ≠ g6; omega) (.int .i64 ut')
        have fb259 : (_ : World).heap[g6]? = some (.cells #[.int .i64 R', .slice B15 l15'.length d15, .int .i64 wt', .int .i64 ut'] 34 (0, 0)) := blk_put (blk_put (blk_put (blk_put (hb240) 0 (.int .i64 R') rfl) 1 (.slice B15 l15'.length d15) rfl) 2 (.int .i64 wt') rfl) 3 (.int .i64 ut') rfl
        have fb260 := Kd.Q_mono (ok' := fun _ => True) (Kd.Q_far (p := ⟨g6, 3, none⟩) (Kd.Q_far (p := ⟨g6, 2, none⟩) (Kd.Q_far (p := ⟨g6, 1, none⟩) (Kd.Q_far (p := ⟨g6, 0, none⟩) (Kd.Q_types fb244 hb240 (by decide)) (fun k hk => hk.2) (.int .i64 R')) (fun k hk => hk.2) (.slice B15 l15'.length d15)) (fun k hk => hk.2) (.int .i64 wt')) (fun k hk => hk.2) (.int .i64 ut')) (fun _ _ => trivial)
        have fb261 := Kd.Q_mono (ok' := fun k => k ≠ g7) (Kd.Q_far (p := ⟨g6, 3, none⟩) (Kd.Q_far (p := ⟨g6, 2, none⟩) (Kd.Q_far (p := ⟨g6, 1, none⟩) (Kd.Q_far (p := ⟨g6, 0, none⟩) (Kd.Q_types fb245 hb240 (by decide)) (fun k hk => hk.2) (.int .i64 R')) (fun k hk => hk.2) (.slice B15 l15'.length d15)) (fun k hk => hk.2) (.int .i64 wt')) (fun k hk => hk.2) (.int .i64 ut')) (fun k hk => hk.1)
        have fb262 := Kd.Q_mono (ok' := fun _ => True) (Kd.Q_far (p := ⟨g6, 3, none⟩) (Kd.Q_far (p := ⟨g6, 2, none⟩) (Kd.Q_far (p := ⟨g6, 1, none⟩) (Kd.Q_far (p := ⟨g6, 0, none⟩) (Kd.Q_types fb246 hb240 (by decide)) (fun k hk => hk.2) (.int .i64 R')) (fun k hk => hk.2) (.slice B15 l15'.length d15)) (fun k hk => hk.2) (.int .i64 wt')) (fun k hk => hk.2) (.int .i64 ut')) (fun _ _ => trivial)
        have bb263 := Kept.setCell (p := ⟨g6, 3, none⟩) (Kept.setCell (p := ⟨g6, 2, none⟩) (Kept.setCell (p := ⟨g6, 1, none⟩) (Kept.setCell (p := ⟨g6, 0, none⟩) (bb247) (.inr ge_g6) (.int .i64 R')) (.inr ge_g6) (.slice B15 l15'.length d15)) (.inr ge_g6) (.int .i64 wt')) (.inr ge_g6) (.int .i64 ut')
        have ob264 := os_set (p := ⟨g6, 3, none⟩) (u := .int .i64 ut') (os_set (p := ⟨g6, 2, none⟩) (u := .int .i64 wt') (os_set (p := ⟨g6, 1, none⟩) (u := .slice B15 l15'.length d15) (os_set (p := ⟨g6, 0, none⟩) (u := .int .i64 R') (ob248))))
        generalize ((((wb238.setCell _ _).setCell _ _).setCell _ _).setCell _ _) = wb265 at fb257 fb258 fb259 fb260 fb261 fb262 bb263 ob264 ⊢
        refine hK.out _ _ fb257 (fun hHeld => ?_)
        clear hK K
        refine one_ (i := 23) (N := none) #[true, true, true, true, true, true, true, true, true, true, true, true, true, true, true, true, true, true, true, true, true, true, true, true] rfl rfl (by kernel_rfl) (by decide) (fun K hK => ?_)
        have zb266 := blk_cell fb258 0
        have zb268 := blk_frozen fb258 0
        have zb267 := blk_cell fb258 1
        have zb269 := blk_frozen fb258 1
        simp only [List.getElem?_toArray, List.getElem?_cons_zero, List.getElem?_cons_succ] at zb266 zb267
        refine skip_ (w1 := ?_) (by rfl) rfl ?_ ?_
        rotate_left
        · go_simp
          rfl
        clear zb266 zb267 zb268 zb269
        have fb270 := blk_far (p := ⟨g7, 1, none⟩) (blk_far (p := ⟨g7, 0, none⟩) (fb257) (by show G ≠ g7; omega) (.int .i64 cost)) (by show G ≠ g7; omega) (.bool bad)
        have fb271 : (_ : World).heap[g7]? = some (.cells #[.int .i64 cost, .bool bad] 52 (0, 0)) := blk_put (blk_put (fb258) 0 (.int .i64 cost) rfl) 1 (.bool bad) rfl
        have fb272 := blk_far (p := ⟨g7, 1, none⟩) (blk_far (p := ⟨g7, 0, none⟩) (fb259) (by show g6 ≠ g7; omega) (.int .i64 cost)) (by show g6 ≠ g7; omega) (.bool bad)
        have fb273 := Kd.Q_mono (ok' := fun _ => True) (Kd.Q_far (p := ⟨g7, 1, none⟩) (Kd.Q_far (p := ⟨g7, 0, none⟩) (Kd.Q_types fb260 fb258 (by decide)) (fun k hk => hk.2) (.int .i64 cost)) (fun k hk => hk.2) (.bool bad)) (fun _ _ => trivial)
        have fb274 := Kd.Q_mono (ok' := fun _ => True) (Kd.Q_far (p := ⟨g7, 1, none⟩) (Kd.Q_far (p := ⟨g7, 0, none⟩) (fb261) (fun k hk => hk) (.int .i64 cost)) (fun k hk => hk) (.bool bad)) (fun _ _ => trivial)
        have fb275 := Kd.Q_mono (ok' := fun _ => True) (Kd.Q_far (p := ⟨g7, 1, none⟩) (Kd.Q_far (p := ⟨g7, 0, none⟩) (Kd.Q_types fb262 fb258 (by decide)) (fun k hk => hk.2) (.int .i64 cost)) (fun k hk => hk.2) (.bool bad)) (fun _ _ => trivial)
        have bb276 := Kept.setCell (p := ⟨g7, 1, none⟩) (Kept.setCell (p := ⟨g7, 0, none⟩) (bb263) (.inr ge_g7) (.int .i64 cost)) (.inr ge_g7) (.bool bad)
        have ob277 := os_set (p := ⟨g7, 1, none⟩) (u := .bool bad) (os_set (p := ⟨g7, 0, none⟩) (u := .int .i64 cost) (ob264))
        generalize ((wb265.setCell _ _).setCell _ _) = wb278 at fb270 fb271 fb272 fb273 fb274 fb275 bb276 ob277 ⊢
        refine hK.out _ _ fb270 (fun hHeld => ?_)
        clear hK K
        refine done_ (by kernel_rfl) ?_
        (try go_wp2)
        go_meet
        exact ⟨g6, g7, _, _, rfl, rfl, fb270, fb272, fb271, fb275, fb274, by omega, by omega, bb276, ob277⟩
      · skip
        refine box_step ?hg (N := 6) ?hd (cs := #[.int .i64 0, .slice none 0 0, .int .i64 0, .int .i64 0]) (t := 34) ?hr ?_; (case hd => rfl); (case hg => rfl); (case hr => first | (go_simp; done) | (go_simp; rfl))
        intro g6 eb282 wb279 hb281 hbb280
        have lt_G_g6 : G < g6 := by rw [eb282]; exact blk_lt fb224
        have lt_g7_g6 : g7 < g6 := by rw [eb282]; exact blk_lt hb222
        have ge_g6 : w.heap.size ≤ g6 := by rw [eb282]; exact bb227.1
        clear eb282
        have fb283 := blk_below fb224 hbb280
        have fb284 := blk_below hb222 hbb280
        have fb285 := Kd.Q_below fb225 hbb280
        have fb286 := Kd.Q_below fb226 hbb280
        have bb287 := Kept.below bb227 hbb280
        have ob288 := os_below ob228 hbb280
        refine hK.out _ _ fb283 (fun hHeld => ?_)
        clear hK K
        refine norm_ (a' := ?_) ?_ ?_
        rotate_left
        · show Act.put _ (some 6) _ = _
          simp only [Act.put, List.setIfInBounds_toArray, List.set_cons_zero, List.set_cons_succ, i64_w, i32_w]
          rfl
        refine one_ (i := 16) (N := some 44) #[true, true, true, true, true, true, true, true, true, true, true, true, true, true, true, true, true, false, false, false, true, true, false, false] rfl rfl (by kernel_rfl) (by decide) (fun K hK => ?_)
        refine goes_ Try.func49 (by kernel_rfl) rfl #[.agg #[.int .i64 q0, .int .i64 q1, .int .i64 q2, .int .i64 q3, .int .i64 q4, .int .i64 q5, .int .i64 q6, .int .i64 q7, .int .i64 q8, .int .i64 q9, .int .i64 q10, .int .i64 q11], .agg #[.int .i64 R, .slice A15 l15.length c15, .int .i64 wt, .int .i64 ut], .int .i64 k0, .int .i64 demand] (by rfl) rfl rfl (by (try simp only [List.map_toArray, List.map_cons, List.map_nil]); first | done | rfl) ?_
        refine (plant_Step.calls _ _ _ _ _ _ _ _ _ _ _ _ _ _ _ _ _ _ _ _ _ _ _ _ _ _ _ (Kd.Q_reads' fb285).2.2 (Kd.Q_reads' fb285).2.1 HP.out).mono ?_
        rintro e_ wb289 ⟨v15, rfl, rb290, hbb291⟩
        refine ⟨_, rfl, ?_⟩
        have fb292 := blk_below fb283 hbb291
        have fb293 := blk_below fb284 hbb291
        have fb294 := blk_below hb281 hbb291
        have fb295 := Kd.Q_below fb285 hbb291
        have fb296 := Kd.Q_below fb286 hbb291
        have bb297 := Kept.below bb287 hbb291
        have ob298 := os_below ob288 hbb291
        replace rb290 := Kd.Q_lower rb290 (Nat.le_trans hB0 bb287.1)
        obtain ⟨B15, d15, rfl, _⟩ := Kd.Q_slice rb290
        refine hK.out _ _ fb292 (fun hHeld => ?_)
        clear hK K
        refine norm_ (a' := ?_) ?_ ?_
        rotate_left
        · show Act.put _ (some 44) _ = _
          simp only [Act.put, List.setIfInBounds_toArray, List.set_cons_zero, List.set_cons_succ, i64_w, i32_w]
          rfl
        refine pure_ (i := 17) (N := some 27) (v := ?_) (a' := ?_) #[true, true, true, true, true, true, true, true, true, true, true, true, true, true, true, true, true, true, false, false, true, true, false, false] rfl rfl (by kernel_rfl) (fun _ _ _ h => h) (Or.inl ⟨by rfl, ?_⟩) ?_ ?_
        rotate_left
        · intro w'
          go_simp
          with_reducible rfl
        rotate_left
        · simp only [Act.put, List.setIfInBounds_toArray, List.set_cons_zero, List.set_cons_succ, i64_w, i32_w]
          rfl
        refine pure_ (i := 18) (N := some 45) (v := ?_) (a' := ?_) #[true, true, true, true, true, true, true, true, true, true, true, true, true, true, true, true, true, true, true, false, true, true, false, false] rfl rfl (by kernel_rfl) (fun _ _ _ h => h) (Or.inl ⟨by rfl, ?_⟩) ?_ ?_
        rotate_left
        · intro w'
          go_simp
          with_reducible rfl
        rotate_left
        · simp only [Act.put, List.setIfInBounds_toArray, List.set_cons_zero, List.set_cons_succ, i64_w, i32_w]
          rfl
        refine pure_ (i := 19) (N := some 46) (v := ?_) (a' := ?_) #[true, true, true, true, true, true, true, true, true, true, true, true, true, true, true, true, true, true, true, true, true, true, false, false] rfl rfl (by kernel_rfl) (fun _ _ _ h => h) (Or.inl ⟨by rfl, ?_⟩) ?_ ?_
        rotate_left
        · intro w'
          go_simp
          with_reducible rfl
        rotate_left
        · simp only [Act.put, List.setIfInBounds_toArray, List.set_cons_zero, List.set_cons_succ, i64_w, i32_w]
          rfl
        refine one_ (i := 22) (N := none) #[true, true, true, true, true, true, true, true, true, true, true, true, true, true, true, true, true, true, true, true, true, true, true, false] rfl rfl (by kernel_rfl) (by decide) (fun K hK => ?_)
        have zb299 := blk_cell fb294 0
        have zb303 := blk_frozen fb294 0
        have zb300 := blk_cell fb294 1
        have zb304 := blk_frozen fb294 1
        have zb301 := blk_cell fb294 2
        have zb305 := blk_frozen fb294 2
        have zb302 := blk_cell fb294 3
        have zb306 := blk_frozen fb294 3
        simp only [List.getElem?_toArray, List.getElem?_cons_zero, List.getElem?_cons_succ] at zb299 zb300 zb301 zb302
        refine skip_ (w1 := ?_) (by rfl) rfl ?_ ?_
        rotate_left
        · go_simp
          rfl
        clear zb299 zb300 zb301 zb302 zb303 zb304 zb305 zb306
        have fb307 := blk_far (p := ⟨g6, 3, none⟩) (blk_far (p := ⟨g6, 2, none⟩) (blk_far (p := ⟨g6, 1, none⟩) (blk_far (p := ⟨g6, 0, none⟩) (fb292) (by show G ≠ g6; omega) (.int .i64 R')) (by show G ≠ g6; omega) (.slice B15 l15'.length d15)) (by show G ≠ g6; omega) (.int .i64 wt')) (by show G ≠ g6; omega) (.int .i64 ut')
        have fb308 := blk_far (p := ⟨g6, 3, none⟩) (blk_far (p := ⟨g6, 2, none⟩) (blk_far (p := ⟨g6, 1, none⟩) (blk_far (p := ⟨g6, 0, none⟩) (fb293) (by show g7 ≠ g6; omega) (.int .i64 R')) (by show g7 ≠ g6; omega) (.slice B15 l15'.length d15)) (by show g7 ≠ g6; omega) (.int .i64 wt')) (by show g7 ≠ g6; omega) (.int .i64 ut')
        have fb309 : (_ : World).heap[g6]? = some (.cells #[.int .i64 R', .slice B15 l15'.length d15, .int .i64 wt', .int .i64 ut'] 34 (0, 0)) := blk_put (blk_put (blk_put (blk_put (fb294) 0 (.int .i64 R') rfl) 1 (.slice B15 l15'.length d15) rfl) 2 (.int .i64 wt') rfl) 3 (.int .i64 ut') rfl
        have fb310 := Kd.Q_mono (ok' := fun _ => True) (Kd.Q_far (p := ⟨g6, 3, none⟩) (Kd.Q_far (p := ⟨g6, 2, none⟩) (Kd.Q_far (p := ⟨g6, 1, none⟩) (Kd.Q_far (p := ⟨g6, 0, none⟩) (Kd.Q_types fb295 fb294 (by decide)) (fun k hk => hk.2) (.int .i64 R')) (fun k hk => hk.2) (.slice B15 l15'.length d15)) (fun k hk => hk.2) (.int .i64 wt')) (fun k hk => hk.2) (.int .i64 ut')) (fun _ _ => trivial)
        have fb311 := Kd.Q_mono (ok' := fun k => k ≠ g7) (Kd.Q_far (p := ⟨g6, 3, none⟩) (Kd.Q_far (p := ⟨g6, 2, none⟩) (Kd.Q_far (p := ⟨g6, 1, none⟩) (Kd.Q_far (p := ⟨g6, 0, none⟩) (Kd.Q_types fb296 fb294 (by decide)) (fun k hk => hk.2) (.int .i64 R')) (fun k hk => hk.2) (.slice B15 l15'.length d15)) (fun k hk => hk.2) (.int .i64 wt')) (fun k hk => hk.2) (.int .i64 ut')) (fun k hk => hk.1)
        have fb312 := Kd.Q_mono (ok' := fun _ => True) (Kd.Q_far (p := ⟨g6, 3, none⟩) (Kd.Q_far (p := ⟨g6, 2, none⟩) (Kd.Q_far (p := ⟨g6, 1, none⟩) (Kd.Q_far (p := ⟨g6, 0, none⟩) (Kd.Q_types rb290 fb294 (by decide)) (fun k hk => hk.2) (.int .i64 R')) (fun k hk => hk.2) (.slice B15 l15'.length d15)) (fun k hk => hk.2) (.int .i64 wt')) (fun k hk => hk.2) (.int .i64 ut')) (fun _ _ => trivial)
        have bb313 := Kept.setCell (p := ⟨g6, 3, none⟩) (Kept.setCell (p := ⟨g6, 2, none⟩) (Kept.setCell (p := ⟨g6, 1, none⟩) (Kept.setCell (p := ⟨g6, 0, none⟩) (bb297) (.inr ge_g6) (.int .i64 R')) (.inr ge_g6) (.slice B15 l15'.length d15)) (.inr ge_g6) (.int .i64 wt')) (.inr ge_g6) (.int .i64 ut')
        have ob314 := os_set (p := ⟨g6, 3, none⟩) (u := .int .i64 ut') (os_set (p := ⟨g6, 2, none⟩) (u := .int .i64 wt') (os_set (p := ⟨g6, 1, none⟩) (u := .slice B15 l15'.length d15) (os_set (p := ⟨g6, 0, none⟩) (u := .int .i64 R') (ob298))))
        generalize ((((wb289.setCell _ _).setCell _ _).setCell _ _).setCell _ _) = wb315 at fb307 fb308 fb309 fb310 fb311 fb312 bb313 ob314 ⊢
        refine hK.out _ _ fb307 (fun hHeld => ?_)
        clear hK K
        refine one_ (i := 23) (N := none) #[true, true, true, true, true, true, true, true, true, true, true, true, true, true, true, true, true, true, true, true, true, true, true, true] rfl rfl (by kernel_rfl) (by decide) (fun K hK => ?_)
        have zb316 := blk_cell fb308 0
        have zb318 := blk_frozen fb308 0
        have zb317 := blk_cell fb308 1
        have zb319 := blk_frozen fb308 1
        simp only [List.getElem?_toArray, List.getElem?_cons_zero, List.getElem?_cons_succ] at zb316 zb317
        refine skip_ (w1 := ?_) (by rfl) rfl ?_ ?_
        rotate_left
        · go_simp
          rfl
        clear zb316 zb317 zb318 zb319
        have fb320 := blk_far (p := ⟨g7, 1, none⟩) (blk_far (p := ⟨g7, 0, none⟩) (fb307) (by show G ≠ g7; omega) (.int .i64 cost)) (by show G ≠ g7; omega) (.bool bad)
        have fb321 : (_ : World).heap[g7]? = some (.cells #[.int .i64 cost, .bool bad] 52 (0, 0)) := blk_put (blk_put (fb308) 0 (.int .i64 cost) rfl) 1 (.bool bad) rfl
        have fb322 := blk_far (p := ⟨g7, 1, none⟩) (blk_far (p := ⟨g7, 0, none⟩) (fb309) (by show g6 ≠ g7; omega) (.int .i64 cost)) (by show g6 ≠ g7; omega) (.bool bad)
        have fb323 := Kd.Q_mono (ok' := fun _ => True) (Kd.Q_far (p := ⟨g7, 1, none⟩) (Kd.Q_far (p := ⟨g7, 0, none⟩) (Kd.Q_types fb310 fb308 (by decide)) (fun k hk => hk.2) (.int .i64 cost)) (fun k hk => hk.2) (.bool bad)) (fun _ _ => trivial)
        have fb324 := Kd.Q_mono (ok' := fun _ => True) (Kd.Q_far (p := ⟨g7, 1, none⟩) (Kd.Q_far (p := ⟨g7, 0, none⟩) (fb311) (fun k hk => hk) (.int .i64 cost)) (fun k hk => hk) (.bool bad)) (fun _ _ => trivial)
        have fb325 := Kd.Q_mono (ok' := fun _ => True) (Kd.Q_far (p := ⟨g7, 1, none⟩) (Kd.Q_far (p := ⟨g7, 0, none⟩) (Kd.Q_types fb312 fb308 (by decide)) (fun k hk => hk.2) (.int .i64 cost)) (fun k hk => hk.2) (.bool bad)) (fun _ _ => trivial)
        have bb326 := Kept.setCell (p := ⟨g7, 1, none⟩) (Kept.setCell (p := ⟨g7, 0, none⟩) (bb313) (.inr ge_g7) (.int .i64 cost)) (.inr ge_g7) (.bool bad)
        have ob327 := os_set (p := ⟨g7, 1, none⟩) (u := .bool bad) (os_set (p := ⟨g7, 0, none⟩) (u := .int .i64 cost) (ob314))
        generalize ((wb315.setCell _ _).setCell _ _) = wb328 at fb320 fb321 fb322 fb323 fb324 fb325 bb326 ob327 ⊢
        refine hK.out _ _ fb320 (fun hHeld => ?_)
        clear hK K
        refine done_ (by kernel_rfl) ?_
        (try go_wp2)
        go_meet
        exact ⟨g6, g7, _, _, rfl, rfl, fb320, fb322, fb321, fb325, fb324, by omega, by omega, bb326, ob327⟩
  case rest =>
    obtain ⟨g6, g7, B15, d15, rfl, rfl, FG, F6, F7, FS, FM, hlt6, hlt7, FB, FO⟩ := hcut
    try clear FG1 FS1 FM1 FB1 FO1
    clear HP
    go_upto_region 2 with (fail)
    refine start_ (n := 23) (S := fun w' => w'.heap[G]? = some (.cells #[.int .i64 p0, .int .i64 p1, .slice A2 l2.length c2, .int .i64 p3, .int .i64 p4, .int .i64 p5, .int .i64 p6, .slice A7 l7.length c7, .int .i64 s0, .int .i64 s1, .bool s2, .int .i64 k0, .int .i64 k1, .bool k2, .int .i64 R, .slice A15 l15.length c15, .int .i64 wt, .int .i64 ut, .slice A18 l18.length c18, .int .i64 q0, .int .i64 q1, .int .i64 q2, .int .i64 q3, .int .i64 q4, .int .i64 q5, .int .i64 q6, .int .i64 q7, .int .i64 q8, .int .i64 q9, .int .i64 q10, .int .i64 q11, .int .i64 now] 69 (0, 0)) ∧ w'.heap[g6]? = some (.cells #[.int .i64 R', .slice B15 l15'.length d15, .int .i64 wt', .int .i64 ut'] 34 (0, 0)) ∧ w'.heap[g7]? = some (.cells #[.int .i64 cost, .bool bad] 52 (0, 0))) (ds := [18, 22]) #[false, false, false, false, false, false, false, false, false, false, false, false, false, false, false, false, false, false, false, false, false, false, false] (by kernel_rfl) rfl rfl ⟨FG, F6, F7⟩ (fun hHeld => ?_)
    have FG := blk_below FG (below_drew1 (Below.refl _ _))
    have F6 := blk_below F6 (below_drew1 (Below.refl _ _))
    have F7 := blk_below F7 (below_drew1 (Below.refl _ _))
    have FS := Kd.Q_below FS (below_drew1 (Below.refl _ _))
    have FM := Kd.Q_below FM (below_drew1 (Below.refl _ _))
    have FB := Kept.below FB (below_drew1 (Below.refl _ _))
    have FO := os_below FO (below_drew1 (Below.refl _ _))
    generalize wc.drew = w9 at FB FO FG F6 F7 FS FM hHeld ⊢
    refine pure_ (i := 0) (N := some 47) (v := ?_) (a' := ?_) #[true, false, false, false, false, false, false, false, false, false, false, false, false, false, false, false, false, false, false, false, false, false, false] rfl rfl (by kernel_rfl) (fun _ _ _ h => h) (Or.inl ⟨by rfl, ?_⟩) ?_ ?_
    rotate_left
    · intro w'
      go_simp
      with_reducible rfl
    rotate_left
    · simp only [Act.put, List.setIfInBounds_toArray, List.set_cons_zero, List.set_cons_succ, i64_w, i32_w]
      rfl
    refine pure_ (i := 1) (N := some 48) (v := ?_) (a' := ?_) #[true, true, false, false, false, false, false, false, false, false, false, false, false, false, false, false, false, false, false, false, false, false, false] rfl rfl (by kernel_rfl) (fun _ _ _ h => h) (Or.inl ⟨by rfl, ?_⟩) ?_ ?_
    rotate_left
    · intro w'
      go_simp
      with_reducible rfl
    rotate_left
    · simp only [Act.put, List.setIfInBounds_toArray, List.set_cons_zero, List.set_cons_succ, i64_w, i32_w]
      rfl
    refine take_ (i := 2) (N := some 49) (v := ?_) (a' := ?_) #[true, true, true, false, false, false, false, false, false, false, false, false, false, false, false, false, false, false, false, false, false, false, false] rfl rfl (by kernel_rfl) (fun _ _ _ h => h) (Or.inl ⟨by rfl, ?_⟩) hHeld ?_ ?_
    rotate_left
    · intro w' hS
      have s0 := blk_cell hS.2.1 0
      have s1 := blk_cell hS.2.1 1
      have s2 := blk_cell hS.2.1 2
      have s3 := blk_cell hS.2.1 3
      simp only [List.getElem?_toArray, List.getElem?_cons_zero, List.getElem?_cons_succ] at s0 s1 s2 s3
      clear hS
      go_simp
      with_reducible rfl
    rotate_left
    · simp only [Act.put, List.setIfInBounds_toArray, List.set_cons_zero, List.set_cons_succ, i64_w, i32_w]
      rfl
    refine pure_ (i := 3) (N := some 50) (v := ?_) (a' := ?_) #[true, true, true, true, false, false, false, false, false, false, false, false, false, false, false, false, false, false, false, false, false, false, false] rfl rfl (by kernel_rfl) (fun _ _ _ h => h) (Or.inl ⟨by rfl, ?_⟩) ?_ ?_
    rotate_left
    · intro w'
      go_simp
      with_reducible rfl
    rotate_left
    · simp only [Act.put, List.setIfInBounds_toArray, List.set_cons_zero, List.set_cons_succ, i64_w, i32_w]
      rfl
    refine pure_ (i := 8) (N := some 55) (v := ?_) (a' := ?_) #[true, true, true, true, false, false, false, false, true, false, false, false, false, false, false, false, false, false, false, false, false, false, false] rfl rfl (by kernel_rfl) (fun _ _ _ h => h) (Or.inl ⟨by rfl, ?_⟩) ?_ ?_
    rotate_left
    · intro w'
      go_simp
      with_reducible rfl
    rotate_left
    · simp only [Act.put, List.setIfInBounds_toArray, List.set_cons_zero, List.set_cons_succ, i64_w, i32_w]
      rfl
    refine take_ (i := 13) (N := some 60) (v := ?_) (a' := ?_) #[true, true, true, true, false, false, false, false, true, false, false, false, false, true, false, false, false, false, false, false, false, false, false] rfl rfl (by kernel_rfl) (fun _ _ _ h => h) (Or.inl ⟨by rfl, ?_⟩) hHeld ?_ ?_
    rotate_left
    · intro w' hS
      have s0 := blk_cell hS.2.2 0
      have s1 := blk_cell hS.2.2 1
      simp only [List.getElem?_toArray, List.getElem?_cons_zero, List.getElem?_cons_succ] at s0 s1
      clear hS
      go_simp
      with_reducible rfl
    rotate_left
    · simp only [Act.put, List.setIfInBounds_toArray, List.set_cons_zero, List.set_cons_succ, i64_w, i32_w]
      rfl
    refine pure_ (i := 4) (N := some 51) (v := ?_) (a' := ?_) #[true, true, true, true, true, false, false, false, true, false, false, false, false, true, false, false, false, false, false, false, false, false, false] rfl rfl (by kernel_rfl) (fun _ _ _ h => h) (Or.inl ⟨by rfl, ?_⟩) ?_ ?_
    rotate_left
    · intro w'
      go_simp
      with_reducible rfl
    rotate_left
    · simp only [Act.put, List.setIfInBounds_toArray, List.set_cons_zero, List.set_cons_succ, i64_w, i32_w]
      rfl
    refine pure_ (i := 9) (N := some 56) (v := ?_) (a' := ?_) #[true, true, true, true, true, false, false, false, true, true, false, false, false, true, false, false, false, false, false, false, false, false, false] rfl rfl (by kernel_rfl) (fun _ _ _ h => h) (Or.inl ⟨by rfl, ?_⟩) ?_ ?_
    rotate_left
    · intro w'
      go_simp
      with_reducible rfl
    rotate_left
    · simp only [Act.put, List.setIfInBounds_toArray, List.set_cons_zero, List.set_cons_succ, i64_w, i32_w]
      rfl
    refine pure_ (i := 5) (N := some 52) (v := ?_) (a' := ?_) #[true, true, true, true, true, true, false, false, true, true, false, false, false, true, false, false, false, false, false, false, false, false, false] rfl rfl (by kernel_rfl) (fun _ _ _ h => h) (Or.inl ⟨by rfl, ?_⟩) ?_ ?_
    rotate_left
    · intro w'
      go_simp
      with_reducible rfl
    rotate_left
    · simp only [Act.put, List.setIfInBounds_toArray, List.set_cons_zero, List.set_cons_succ, i64_w, i32_w]
      rfl
    refine pure_ (i := 10) (N := some 57) (v := ?_) (a' := ?_) #[true, true, true, true, true, true, false, false, true, true, true, false, false, true, false, false, false, false, false, false, false, false, false] rfl rfl (by kernel_rfl) (fun _ _ _ h => h) (Or.inl ⟨by rfl, ?_⟩) ?_ ?_
    rotate_left
    · intro w'
      go_simp
      with_reducible rfl
    rotate_left
    · simp only [Act.put, List.setIfInBounds_toArray, List.set_cons_zero, List.set_cons_succ, i64_w, i32_w]
      rfl
    refine pure_ (i := 6) (N := some 53) (v := ?_) (a' := ?_) #[true, true, true, true, true, true, true, false, true, true, true, false, false, true, false, false, false, false, false, false, false, false, false] rfl rfl (by kernel_rfl) (fun _ _ _ h => h) (Or.inl ⟨by rfl, ?_⟩) ?_ ?_
    rotate_left
    · intro w'
      go_simp
      with_reducible rfl
    rotate_left
    · simp only [Act.put, List.setIfInBounds_toArray, List.set_cons_zero, List.set_cons_succ, i64_w, i32_w]
      rfl
    refine pure_ (i := 11) (N := some 58) (v := ?_) (a' := ?_) #[true, true, true, true, true, true, true, false, true, true, true, true, false, true, false, false, false, false, false, false, false, false, false] rfl rfl (by kernel_rfl) (fun _ _ _ h => h) (Or.inl ⟨by rfl, ?_⟩) ?_ ?_
    rotate_left
    · intro w'
      go_simp
      with_reducible rfl
    rotate_left
    · simp only [Act.put, List.setIfInBounds_toArray, List.set_cons_zero, List.set_cons_succ, i64_w, i32_w]
      rfl
    refine take_ (i := 7) (N := some 54) (v := ?_) (a' := ?_) #[true, true, true, true, true, true, true, true, true, true, true, true, false, true, false, false, false, false, false, false, false, false, false] rfl rfl (by kernel_rfl) (fun _ _ _ h => h) (Or.inl ⟨by rfl, ?_⟩) hHeld ?_ ?_
    rotate_left
    · intro w' hS
      have s26 := blk_cell hS.1 26
      simp only [List.getElem?_toArray, List.getElem?_cons_zero, List.getElem?_cons_succ] at s26
      clear hS
      go_simp
      with_reducible rfl
    rotate_left
    · simp only [Act.put, List.setIfInBounds_toArray, List.set_cons_zero, List.set_cons_succ, i64_w, i32_w]
      rfl
    refine take_ (i := 12) (N := some 59) (v := ?_) (a' := ?_) #[true, true, true, true, true, true, true, true, true, true, true, true, true, true, false, false, false, false, false, false, false, false, false] rfl rfl (by kernel_rfl) (fun _ _ _ h => h) (Or.inl ⟨by rfl, ?_⟩) hHeld ?_ ?_
    rotate_left
    · intro w' hS
      have s18 := blk_cell hS.1 18
      simp only [List.getElem?_toArray, List.getElem?_cons_zero, List.getElem?_cons_succ] at s18
      clear hS
      go_simp
      with_reducible rfl
    rotate_left
    · simp only [Act.put, List.setIfInBounds_toArray, List.set_cons_zero, List.set_cons_succ, i64_w, i32_w]
      rfl
    refine one_ (i := 14) (N := some 61) #[true, true, true, true, true, true, true, true, true, true, true, true, true, true, true, false, false, false, false, false, false, false, false] rfl rfl (by kernel_rfl) (by decide) (fun K hK => ?_)
    refine goes_ Try.func50 (by kernel_rfl) rfl #[.int .i64 q7, .slice A18 l18.length c18, .agg #[.int .i64 cost, .bool bad]] (by rfl) rfl rfl (by (try simp only [List.map_toArray, List.map_cons, List.map_nil]); first | done | rfl) ?_
    refine (score_Add.calls _ _ _ _ _ _ _ _ (Kd.Q_reads' FM).2.2 (Kd.Q_reads' FM).2.1 HA.out).mono ?_
    rintro e_ wc1 ⟨v18, rfl, rc2, hbc3⟩
    refine ⟨_, rfl, ?_⟩
    have fc4 := blk_below FG hbc3
    have fc5 := blk_below F6 hbc3
    have fc6 := blk_below F7 hbc3
    have fc7 := Kd.Q_below FS hbc3
    have fc8 := Kd.Q_below FM hbc3
    have bc9 := Kept.below FB hbc3
    have oc10 := os_below FO hbc3
    replace rc2 := Kd.Q_lower rc2 (Nat.le_trans hB0 FB.1)
    obtain ⟨B18, d18, rfl, _⟩ := Kd.Q_slice rc2
    refine hK.out _ _ ⟨fc4, fc5, fc6⟩ (fun hHeld => ?_)
    clear hK K
    refine norm_ (a' := ?_) ?_ ?_
    rotate_left
    · show Act.put _ (some 61) _ = _
      simp only [Act.put, List.setIfInBounds_toArray, List.set_cons_zero, List.set_cons_succ, i64_w, i32_w]
      rfl
    refine pure_ (i := 15) (N := some 62) (v := ?_) (a' := ?_) #[true, true, true, true, true, true, true, true, true, true, true, true, true, true, true, true, false, false, false, false, false, false, false] rfl rfl (by kernel_rfl) (fun _ _ _ h => h) (Or.inl ⟨by rfl, ?_⟩) ?_ ?_
    rotate_left
    · intro w'
      go_simp
      with_reducible rfl
    rotate_left
    · simp only [Act.put, List.setIfInBounds_toArray, List.set_cons_zero, List.set_cons_succ, i64_w, i32_w]
      rfl
    refine pure_ (i := 16) (N := some 63) (v := ?_) (a' := ?_) #[true, true, true, true, true, true, true, true, true, true, true, true, true, true, true, true, true, false, false, false, false, false, false] rfl rfl (by kernel_rfl) (fun _ _ _ h => h) (Or.inl ⟨by rfl, ?_⟩) ?_ ?_
    rotate_left
    · intro w'
      go_simp
      with_reducible rfl
    rotate_left
    · simp only [Act.put, List.setIfInBounds_toArray, List.set_cons_zero, List.set_cons_succ, i64_w, i32_w]
      rfl
    refine pure_ (i := 17) (N := some 64) (v := ?_) (a' := ?_) #[true, true, true, true, true, true, true, true, true, true, true, true, true, true, true, true, true, true, false, false, false, false, false] rfl rfl (by kernel_rfl) (fun _ _ _ h => h) (Or.inl ⟨by rfl, ?_⟩) ?_ ?_
    rotate_left
    · intro w'
      go_simp
      with_reducible rfl
    rotate_left
    · simp only [Act.put, List.setIfInBounds_toArray, List.set_cons_zero, List.set_cons_succ, i64_w, i32_w]
      rfl
    refine last_ (i := 18) (N := none) #[true, true, true, true, true, true, true, true, true, true, true, true, true, true, true, true, true, true, true, false, false, false, false] rfl rfl (by kernel_rfl) (by decide) (fun K hK => ?_)
    have zc11 := blk_cell fc4 14
    have zc15 := blk_frozen fc4 14
    have zc12 := blk_cell fc4 15
    have zc16 := blk_frozen fc4 15
    have zc13 := blk_cell fc4 16
    have zc17 := blk_frozen fc4 16
    have zc14 := blk_cell fc4 17
    have zc18 := blk_frozen fc4 17
    simp only [List.getElem?_toArray, List.getElem?_cons_zero, List.getElem?_cons_succ] at zc11 zc12 zc13 zc14
    refine skip_ (w1 := ?_) (by rfl) rfl ?_ ?_
    rotate_left
    · go_simp
      rfl
    clear zc11 zc12 zc13 zc14 zc15 zc16 zc17 zc18
    have fc19 : (_ : World).heap[G]? = some (.cells #[.int .i64 p0, .int .i64 p1, .slice A2 l2.length c2, .int .i64 p3, .int .i64 p4, .int .i64 p5, .int .i64 p6, .slice A7 l7.length c7, .int .i64 s0, .int .i64 s1, .bool s2, .int .i64 k0, .int .i64 k1, .bool k2, .int .i64 R', .slice B15 l15'.length d15, .int .i64 wt', .int .i64 ut', .slice A18 l18.length c18, .int .i64 q0, .int .i64 q1, .int .i64 q2, .int .i64 q3, .int .i64 q4, .int .i64 q5, .int .i64 q6, .int .i64 q7, .int .i64 q8, .int .i64 q9, .int .i64 q10, .int .i64 q11, .int .i64 now] 69 (0, 0)) := blk_put (blk_put (blk_put (blk_put (fc4) 14 (.int .i64 R') rfl) 15 (.slice B15 l15'.length d15) rfl) 16 (.int .i64 wt') rfl) 17 (.int .i64 ut') rfl
    have fc20 := blk_far (p := ⟨G, 17, none⟩) (blk_far (p := ⟨G, 16, none⟩) (blk_far (p := ⟨G, 15, none⟩) (blk_far (p := ⟨G, 14, none⟩) (fc5) (by show g6 ≠ G; omega) (.int .i64 R')) (by show g6 ≠ G; omega) (.slice B15 l15'.length d15)) (by show g6 ≠ G; omega) (.int .i64 wt')) (by show g6 ≠ G; omega) (.int .i64 ut')
    have fc21 := blk_far (p := ⟨G, 17, none⟩) (blk_far (p := ⟨G, 16, none⟩) (blk_far (p := ⟨G, 15, none⟩) (blk_far (p := ⟨G, 14, none⟩) (fc6) (by show g7 ≠ G; omega) (.int .i64 R')) (by show g7 ≠ G; omega) (.slice B15 l15'.length d15)) (by show g7 ≠ G; omega) (.int .i64 wt')) (by show g7 ≠ G; omega) (.int .i64 ut')
    have fc22 := Kd.Q_mono (ok' := fun _ => True) (Kd.Q_far (p := ⟨G, 17, none⟩) (Kd.Q_far (p := ⟨G, 16, none⟩) (Kd.Q_far (p := ⟨G, 15, none⟩) (Kd.Q_far (p := ⟨G, 14, none⟩) (Kd.Q_types fc7 fc4 (by decide)) (fun k hk => hk.2) (.int .i64 R')) (fun k hk => hk.2) (.slice B15 l15'.length d15)) (fun k hk => hk.2) (.int .i64 wt')) (fun k hk => hk.2) (.int .i64 ut')) (fun _ _ => trivial)
    have fc23 := Kd.Q_mono (ok' := fun _ => True) (Kd.Q_far (p := ⟨G, 17, none⟩) (Kd.Q_far (p := ⟨G, 16, none⟩) (Kd.Q_far (p := ⟨G, 15, none⟩) (Kd.Q_far (p := ⟨G, 14, none⟩) (Kd.Q_types fc8 fc4 (by decide)) (fun k hk => hk.2) (.int .i64 R')) (fun k hk => hk.2) (.slice B15 l15'.length d15)) (fun k hk => hk.2) (.int .i64 wt')) (fun k hk => hk.2) (.int .i64 ut')) (fun _ _ => trivial)
    have fc24 := Kd.Q_mono (ok' := fun _ => True) (Kd.Q_far (p := ⟨G, 17, none⟩) (Kd.Q_far (p := ⟨G, 16, none⟩) (Kd.Q_far (p := ⟨G, 15, none⟩) (Kd.Q_far (p := ⟨G, 14, none⟩) (Kd.Q_types rc2 fc4 (by decide)) (fun k hk => hk.2) (.int .i64 R')) (fun k hk => hk.2) (.slice B15 l15'.length d15)) (fun k hk => hk.2) (.int .i64 wt')) (fun k hk => hk.2) (.int .i64 ut')) (fun _ _ => trivial)
    have bc25 := Kept.setCell (p := ⟨G, 17, none⟩) (Kept.setCell (p := ⟨G, 16, none⟩) (Kept.setCell (p := ⟨G, 15, none⟩) (Kept.setCell (p := ⟨G, 14, none⟩) (bc9) (.inl rfl) (.int .i64 R')) (.inl rfl) (.slice B15 l15'.length d15)) (.inl rfl) (.int .i64 wt')) (.inl rfl) (.int .i64 ut')
    have oc26 := os_set (p := ⟨G, 17, none⟩) (u := .int .i64 ut') (os_set (p := ⟨G, 16, none⟩) (u := .int .i64 wt') (os_set (p := ⟨G, 15, none⟩) (u := .slice B15 l15'.length d15) (os_set (p := ⟨G, 14, none⟩) (u := .int .i64 R') (oc10))))
    generalize ((((wc1.setCell _ _).setCell _ _).setCell _ _).setCell _ _) = wc27 at fc19 fc20 fc21 fc22 fc23 fc24 bc25 oc26 ⊢
    refine hK.out _ _ ?_
    clear hK K
    refine pure_ (i := 19) (N := some 65) (v := ?_) (a' := ?_) #[true, true, true, true, true, true, true, true, true, true, true, true, true, true, true, true, true, true, true, true, false, false, false] rfl rfl (by kernel_rfl) (fun _ _ _ h => h) (Or.inl ⟨by rfl, ?_⟩) ?_ ?_
    rotate_left
    · intro w'
      go_simp
      with_reducible rfl
    rotate_left
    · simp only [Act.put, List.setIfInBounds_toArray, List.set_cons_zero, List.set_cons_succ, i64_w, i32_w]
      rfl
    refine pure_ (i := 20) (N := some 66) (v := ?_) (a' := ?_) #[true, true, true, true, true, true, true, true, true, true, true, true, true, true, true, true, true, true, true, true, true, false, false] rfl rfl (by kernel_rfl) (fun _ _ _ h => h) (Or.inl ⟨by rfl, ?_⟩) ?_ ?_
    rotate_left
    · intro w'
      go_simp
      with_reducible rfl
    rotate_left
    · simp only [Act.put, List.setIfInBounds_toArray, List.set_cons_zero, List.set_cons_succ, i64_w, i32_w]
      rfl
    refine pure_ (i := 21) (N := some 67) (v := ?_) (a' := ?_) #[true, true, true, true, true, true, true, true, true, true, true, true, true, true, true, true, true, true, true, true, true, true, false] rfl rfl (by kernel_rfl) (fun _ _ _ h => h) (Or.inl ⟨by rfl, ?_⟩) ?_ ?_
    rotate_left
    · intro w'
      go_simp
      with_reducible rfl
    rotate_left
    · simp only [Act.put, List.setIfInBounds_toArray, List.set_cons_zero, List.set_cons_succ, i64_w, i32_w]
      rfl
    refine last_ (i := 22) (N := none) #[true, true, true, true, true, true, true, true, true, true, true, true, true, true, true, true, true, true, true, true, true, true, true] rfl rfl (by kernel_rfl) (by decide) (fun K hK => ?_)
    have zc28 := blk_cell fc19 18
    have zc29 := blk_frozen fc19 18
    simp only [List.getElem?_toArray, List.getElem?_cons_zero, List.getElem?_cons_succ] at zc28
    refine skip_ (w1 := ?_) (by rfl) rfl ?_ ?_
    rotate_left
    · go_simp
      rfl
    clear zc28 zc29
    have fc30 : (_ : World).heap[G]? = some (.cells #[.int .i64 p0, .int .i64 p1, .slice A2 l2.length c2, .int .i64 p3, .int .i64 p4, .int .i64 p5, .int .i64 p6, .slice A7 l7.length c7, .int .i64 s0, .int .i64 s1, .bool s2, .int .i64 k0, .int .i64 k1, .bool k2, .int .i64 R', .slice B15 l15'.length d15, .int .i64 wt', .int .i64 ut', .slice B18 l18'.length d18, .int .i64 q0, .int .i64 q1, .int .i64 q2, .int .i64 q3, .int .i64 q4, .int .i64 q5, .int .i64 q6, .int .i64 q7, .int .i64 q8, .int .i64 q9, .int .i64 q10, .int .i64 q11, .int .i64 now] 69 (0, 0)) := blk_put (fc19) 18 (.slice B18 l18'.length d18) rfl
    have fc31 := blk_far (p := ⟨G, 18, none⟩) (fc20) (by show g6 ≠ G; omega) (.slice B18 l18'.length d18)
    have fc32 := blk_far (p := ⟨G, 18, none⟩) (fc21) (by show g7 ≠ G; omega) (.slice B18 l18'.length d18)
    have fc33 := Kd.Q_mono (ok' := fun _ => True) (Kd.Q_far (p := ⟨G, 18, none⟩) (Kd.Q_types fc22 fc19 (by decide)) (fun k hk => hk.2) (.slice B18 l18'.length d18)) (fun _ _ => trivial)
    have fc34 := Kd.Q_mono (ok' := fun _ => True) (Kd.Q_far (p := ⟨G, 18, none⟩) (Kd.Q_types fc23 fc19 (by decide)) (fun k hk => hk.2) (.slice B18 l18'.length d18)) (fun _ _ => trivial)
    have fc35 := Kd.Q_mono (ok' := fun _ => True) (Kd.Q_far (p := ⟨G, 18, none⟩) (Kd.Q_types fc24 fc19 (by decide)) (fun k hk => hk.2) (.slice B18 l18'.length d18)) (fun _ _ => trivial)
    have bc36 := Kept.setCell (p := ⟨G, 18, none⟩) (bc25) (.inl rfl) (.slice B18 l18'.length d18)
    have oc37 := os_set (p := ⟨G, 18, none⟩) (u := .slice B18 l18'.length d18) (oc26)
    generalize (wc27.setCell _ _) = wc38 at fc30 fc31 fc32 fc33 fc34 fc35 bc36 oc37 ⊢
    refine hK.out _ _ ?_
    clear hK K
    refine done_ (by kernel_rfl) ?_
    refine bodyPost_end (results_none rfl _ _ _) rfl ?_
    exact ⟨_, _, _, _, rfl, fc30, fc33, fc35, bc36, oc37⟩

end Go.Proofs.Ytefgoffaidjiaaa.PAll
namespace Go.Proofs.Ytefgoffaidjiaaa.PAll
open Go.RowKit Go.Proofs.YtefgoffaidjiaaaW.PrintWords Go.Proofs.YtefgoffaidjiaaaW.PrintLast Go.Proofs.YtefgoffaidjiaaaW.PrintMore
attribute [local go_sem] max2_int min2_int max_two min_two max_three min_three max_four min_four   -- for this text's walks alone
set_option linter.unusedVariables false
set_option linter.unusedSimpArgs false

/-! ### fleet_runner_want: function 30 -/
set_option maxHeartbeats 8000000 in
set_option maxRecDepth 100000 in
theorem fleet_want (k : Nat) (G : Nat) (p0 p1 : Int) (A2 : Option Addr) (c2 : Nat) (l2 : List (S56)) (p3 p4 p5 p6 : Int) (A7 : Option Addr) (c7 : Nat) (l7 : List (S58)) (s0 s1 : Int) (s2 : Bool) (h0 h1 : Int) (h2 : Bool) (R : Int) (A15 : Option Addr) (c15 : Nat) (l15 : List Int) (wt ut : Int) (A18 : Option Addr) (c18 : Nat) (l18 : List (S52)) (q0 q1 q2 q3 q4 q5 q6 q7 q8 q9 q10 q11 : Int) (now : Int) (w : World) (hG : w.heap[G]? = some (.cells #[.int .i64 p0, .int .i64 p1, .slice A2 l2.length c2, .int .i64 p3, .int .i64 p4, .int .i64 p5, .int .i64 p6, .slice A7 l7.length c7, .int .i64 s0, .int .i64 s1, .bool s2, .int .i64 h0, .int .i64 h1, .bool h2, .int .i64 R, .slice A15 l15.length c15, .int .i64 wt, .int .i64 ut, .slice A18 l18.length c18, .int .i64 q0, .int .i64 q1, .int .i64 q2, .int .i64 q3, .int .i64 q4, .int .i64 q5, .int .i64 q6, .int .i64 q7, .int .i64 q8, .int .i64 q9, .int .i64 q10, .int .i64 q11, .int .i64 now] 69 (0, 0))) (hr2 : Kd.C k56 w A2 l2.length l2) (hc2 : l2.length ≤ c2) (hr7 : Kd.C k58 w A7 l7.length l7) (hc7 : l7.length ≤ c7)
    (cur la : Int) (gr : Bool) (hI : limit_Into.f q0 q1 q2 q3 q4 q5 q6 q7 q8 q9 q10 q11 h0 h1 h2 = some (cur, la, gr)) (n0 n1 : Int) (n2 : Bool) (n : Int) (hN : policy_Next.f k p0 p1 l2 p3 p4 p5 p6 l7 s0 s1 s2 cur ut now = some (n0, n1, n2, n)) :
    Calls Try.prog 30 #[.pointer (some ⟨G, 0, none⟩)] w fun e w' => e = .returned (.int .i64 n) ∧ w'.heap[G]? = some (.cells #[.int .i64 p0, .int .i64 p1, .slice A2 l2.length c2, .int .i64 p3, .int .i64 p4, .int .i64 p5, .int .i64 p6, .slice A7 l7.length c7, .int .i64 n0, .int .i64 n1, .bool n2, .int .i64 h0, .int .i64 h1, .bool h2, .int .i64 R, .slice A15 l15.length c15, .int .i64 wt, .int .i64 ut, .slice A18 l18.length c18, .int .i64 q0, .int .i64 q1, .int .i64 q2, .int .i64 q3, .int .i64 q4, .int .i64 q5, .int .i64 q6, .int .i64 q7, .int .i64 q8, .int .i64 q9, .int .i64 q10, .int .i64 q11, .int .i64 now] 69 (0, 0)) ∧ Kept w w' (fun k => k = G) ∧ (w'.os = w.os ∧ w'.tape = w.tape ∧ w'.output = w.output) := by
  have hu0 := Try.underlying69
  have hu1 := Try.underlying37
  have hu2 := Try.underlying27
  have hu3 := Try.underlying29
  have hu4 := Try.underlying23
  have hu5 := Try.underlying31
  have hu6 := Try.underlying34
  have hu7 := Try.underlying52
  have hfl : ∀ (v0 v1 v2 : Value) (W : World), (Instr.field 31 (.agg #[v0, v1, v2]) 0).run Try.prog W = .ok v0 W := fun v0 v1 v2 _ => by rfl
  have HI := Aside0.mk hI
  have HN := Aside0.mk hN
  clear hI hN
  have hGl := blk_lt hG
  go_enter Try.func30, Try.ntmps30
  go_upto_region 1 with (fail)
  go_cut [3, 4] (fun x3 x4 wx => ∃ gs : Nat, x3 = .pointer (some ⟨gs, 0, none⟩) ∧ x4 = .int .i64 n ∧ wx.heap[G]? = some (.cells #[.int .i64 p0, .int .i64 p1, .slice A2 l2.length c2, .int .i64 p3, .int .i64 p4, .int .i64 p5, .int .i64 p6, .slice A7 l7.length c7, .int .i64 s0, .int .i64 s1, .bool s2, .int .i64 h0, .int .i64 h1, .bool h2, .int .i64 R, .slice A15 l15.length c15, .int .i64 wt, .int .i64 ut, .slice A18 l18.length c18, .int .i64 q0, .int .i64 q1, .int .i64 q2, .int .i64 q3, .int .i64 q4, .int .i64 q5, .int .i64 q6, .int .i64 q7, .int .i64 q8, .int .i64 q9, .int .i64 q10, .int .i64 q11, .int .i64 now] 69 (0, 0)) ∧ wx.heap[gs]? = some (.cells #[.int .i64 n0, .int .i64 n1, .bool n2] 29 (0, 0)) ∧ G < gs ∧ Below w.heap.size w wx)
  case first =>
    refine start_ (n := 38) (S := fun w' => w'.heap[G]? = some (.cells #[.int .i64 p0, .int .i64 p1, .slice A2 l2.length c2, .int .i64 p3, .int .i64 p4, .int .i64 p5, .int .i64 p6, .slice A7 l7.length c7, .int .i64 s0, .int .i64 s1, .bool s2, .int .i64 h0, .int .i64 h1, .bool h2, .int .i64 R, .slice A15 l15.length c15, .int .i64 wt, .int .i64 ut, .slice A18 l18.length c18, .int .i64 q0, .int .i64 q1, .int .i64 q2, .int .i64 q3, .int .i64 q4, .int .i64 q5, .int .i64 q6, .int .i64 q7, .int .i64 q8, .int .i64 q9, .int .i64 q10, .int .i64 q11, .int .i64 now] 69 (0, 0))) (ds := []) #[false, false, false, false, false, false, false, false, false, false, false, false, false, false, false, false, false, false, false, false, false, false, false, false, false, false, false, false, false, false, false, false, false, false, false, false, false, false] (by kernel_rfl) rfl rfl hG (fun hHeld => ?_)
    have FB := below_drew1 (Below.refl w.heap.size w)
    have FG := blk_below hG (below_drew1 (Below.refl _ _))
    have FC2 := Kd.C_below hr2 (below_drew1 (Below.refl _ _))
    have FC7 := Kd.C_below hr7 (below_drew1 (Below.refl _ _))
    generalize w.drew = w9 at FB FG FC2 FC7 hHeld ⊢
    clear hG hr2 hr7
    refine pure_ (i := 0) (N := some 6) (v := ?_) (a' := ?_) #[true, false, false, false, false, false, false, false, false, false, false, false, false, false, false, false, false, false, false, false, false, false, false, false, false, false, false, false, false, false, false, false, false, false, false, false, false, false] rfl rfl (by kernel_rfl) (fun _ _ _ h => h) (Or.inl ⟨by rfl, ?_⟩) ?_ ?_
    rotate_left
    · intro w'
      go_simp
      with_reducible rfl
    rotate_left
    · simp only [Act.put, List.setIfInBounds_toArray, List.set_cons_zero, List.set_cons_succ, i64_w, i32_w]
      rfl
    refine pure_ (i := 5) (N := some 11) (v := ?_) (a' := ?_) #[true, false, false, false, false, true, false, false, false, false, false, false, false, false, false, false, false, false, false, false, false, false, false, false, false, false, false, false, false, false, false, false, false, false, false, false, false, false] rfl rfl (by kernel_rfl) (fun _ _ _ h => h) (Or.inl ⟨by rfl, ?_⟩) ?_ ?_
    rotate_left
    · intro w'
      go_simp
      with_reducible rfl
    rotate_left
    · simp only [Act.put, List.setIfInBounds_toArray, List.set_cons_zero, List.set_cons_succ, i64_w, i32_w]
      rfl
    refine pure_ (i := 10) (N := some 16) (v := ?_) (a' := ?_) #[true, false, false, false, false, true, false, false, false, false, true, false, false, false, false, false, false, false, false, false, false, false, false, false, false, false, false, false, false, false, false, false, false, false, false, false, false, false] rfl rfl (by kernel_rfl) (fun _ _ _ h => h) (Or.inl ⟨by rfl, ?_⟩) ?_ ?_
    rotate_left
    · intro w'
      go_simp
      with_reducible rfl
    rotate_left
    · simp only [Act.put, List.setIfInBounds_toArray, List.set_cons_zero, List.set_cons_succ, i64_w, i32_w]
      rfl
    refine pure_ (i := 14) (N := some 20) (v := ?_) (a' := ?_) #[true, false, false, false, false, true, false, false, false, false, true, false, false, false, true, false, false, false, false, false, false, false, false, false, false, false, false, false, false, false, false, false, false, false, false, false, false, false] rfl rfl (by kernel_rfl) (fun _ _ _ h => h) (Or.inl ⟨by rfl, ?_⟩) ?_ ?_
    rotate_left
    · intro w'
      go_simp
      with_reducible rfl
    rotate_left
    · simp only [Act.put, List.setIfInBounds_toArray, List.set_cons_zero, List.set_cons_succ, i64_w, i32_w]
      rfl
    refine pure_ (i := 21) (N := some 27) (v := ?_) (a' := ?_) #[true, false, false, false, false, true, false, false, false, false, true, false, false, false, true, false, false, false, false, false, false, true, false, false, false, false, false, false, false, false, false, false, false, false, false, false, false, false] rfl rfl (by kernel_rfl) (fun _ _ _ h => h) (Or.inl ⟨by rfl, ?_⟩) ?_ ?_
    rotate_left
    · intro w'
      go_simp
      with_reducible rfl
    rotate_left
    · simp only [Act.put, List.setIfInBounds_toArray, List.set_cons_zero, List.set_cons_succ, i64_w, i32_w]
      rfl
    refine pure_ (i := 27) (N := some 33) (v := ?_) (a' := ?_) #[true, false, false, false, false, true, false, false, false, false, true, false, false, false, true, false, false, false, false, false, false, true, false, false, false, false, false, true, false, false, false, false, false, false, false, false, false, false] rfl rfl (by kernel_rfl) (fun _ _ _ h => h) (Or.inl ⟨by rfl, ?_⟩) ?_ ?_
    rotate_left
    · intro w'
      go_simp
      with_reducible rfl
    rotate_left
    · simp only [Act.put, List.setIfInBounds_toArray, List.set_cons_zero, List.set_cons_succ, i64_w, i32_w]
      rfl
    refine pure_ (i := 1) (N := some 7) (v := ?_) (a' := ?_) #[true, true, false, false, false, true, false, false, false, false, true, false, false, false, true, false, false, false, false, false, false, true, false, false, false, false, false, true, false, false, false, false, false, false, false, false, false, false] rfl rfl (by kernel_rfl) (fun _ _ _ h => h) (Or.inl ⟨by rfl, ?_⟩) ?_ ?_
    rotate_left
    · intro w'
      go_simp
      with_reducible rfl
    rotate_left
    · simp only [Act.put, List.setIfInBounds_toArray, List.set_cons_zero, List.set_cons_succ, i64_w, i32_w]
      rfl
    refine pure_ (i := 6) (N := some 12) (v := ?_) (a' := ?_) #[true, true, false, false, false, true, true, false, false, false, true, false, false, false, true, false, false, false, false, false, false, true, false, false, false, false, false, true, false, false, false, false, false, false, false, false, false, false] rfl rfl (by kernel_rfl) (fun _ _ _ h => h) (Or.inl ⟨by rfl, ?_⟩) ?_ ?_
    rotate_left
    · intro w'
      go_simp
      with_reducible rfl
    rotate_left
    · simp only [Act.put, List.setIfInBounds_toArray, List.set_cons_zero, List.set_cons_succ, i64_w, i32_w]
      rfl
    refine pure_ (i := 11) (N := some 17) (v := ?_) (a' := ?_) #[true, true, false, false, false, true, true, false, false, false, true, true, false, false, true, false, false, false, false, false, false, true, false, false, false, false, false, true, false, false, false, false, false, false, false, false, false, false] rfl rfl (by kernel_rfl) (fun _ _ _ h => h) (Or.inl ⟨by rfl, ?_⟩) ?_ ?_
    rotate_left
    · intro w'
      go_simp
      with_reducible rfl
    rotate_left
    · simp only [Act.put, List.setIfInBounds_toArray, List.set_cons_zero, List.set_cons_succ, i64_w, i32_w]
      rfl
    refine pure_ (i := 15) (N := some 21) (v := ?_) (a' := ?_) #[true, true, false, false, false, true, true, false, false, false, true, true, false, false, true, true, false, false, false, false, false, true, false, false, false, false, false, true, false, false, false, false, false, false, false, false, false, false] rfl rfl (by kernel_rfl) (fun _ _ _ h => h) (Or.inl ⟨by rfl, ?_⟩) ?_ ?_
    rotate_left
    · intro w'
      go_simp
      with_reducible rfl
    rotate_left
    · simp only [Act.put, List.setIfInBounds_toArray, List.set_cons_zero, List.set_cons_succ, i64_w, i32_w]
      rfl
    refine pure_ (i := 22) (N := some 28) (v := ?_) (a' := ?_) #[true, true, false, false, false, true, true, false, false, false, true, true, false, false, true, true, false, false, false, false, false, true, true, false, false, false, false, true, false, false, false, false, false, false, false, false, false, false] rfl rfl (by kernel_rfl) (fun _ _ _ h => h) (Or.inl ⟨by rfl, ?_⟩) ?_ ?_
    rotate_left
    · intro w'
      go_simp
      with_reducible rfl
    rotate_left
    · simp only [Act.put, List.setIfInBounds_toArray, List.set_cons_zero, List.set_cons_succ, i64_w, i32_w]
      rfl
    refine pure_ (i := 28) (N := some 34) (v := ?_) (a' := ?_) #[true, true, false, false, false, true, true, false, false, false, true, true, false, false, true, true, false, false, false, false, false, true, true, false, false, false, false, true, true, false, false, false, false, false, false, false, false, false] rfl rfl (by kernel_rfl) (fun _ _ _ h => h) (Or.inl ⟨by rfl, ?_⟩) ?_ ?_
    rotate_left
    · intro w'
      go_simp
      with_reducible rfl
    rotate_left
    · simp only [Act.put, List.setIfInBounds_toArray, List.set_cons_zero, List.set_cons_succ, i64_w, i32_w]
      rfl
    refine pure_ (i := 2) (N := some 8) (v := ?_) (a' := ?_) #[true, true, true, false, false, true, true, false, false, false, true, true, false, false, true, true, false, false, false, false, false, true, true, false, false, false, false, true, true, false, false, false, false, false, false, false, false, false] rfl rfl (by kernel_rfl) (fun _ _ _ h => h) (Or.inl ⟨by rfl, ?_⟩) ?_ ?_
    rotate_left
    · intro w'
      go_simp
      with_reducible rfl
    rotate_left
    · simp only [Act.put, List.setIfInBounds_toArray, List.set_cons_zero, List.set_cons_succ, i64_w, i32_w]
      rfl
    refine pure_ (i := 7) (N := some 13) (v := ?_) (a' := ?_) #[true, true, true, false, false, true, true, true, false, false, true, true, false, false, true, true, false, false, false, false, false, true, true, false, false, false, false, true, true, false, false, false, false, false, false, false, false, false] rfl rfl (by kernel_rfl) (fun _ _ _ h => h) (Or.inl ⟨by rfl, ?_⟩) ?_ ?_
    rotate_left
    · intro w'
      go_simp
      with_reducible rfl
    rotate_left
    · simp only [Act.put, List.setIfInBounds_toArray, List.set_cons_zero, List.set_cons_succ, i64_w, i32_w]
      rfl
    refine pure_ (i := 12) (N := some 18) (v := ?_) (a' := ?_) #[true, true, true, false, false, true, true, true, false, false, true, true, true, false, true, true, false, false, false, false, false, true, true, false, false, false, false, true, true, false, false, false, false, false, false, false, false, false] rfl rfl (by kernel_rfl) (fun _ _ _ h => h) (Or.inl ⟨by rfl, ?_⟩) ?_ ?_
    rotate_left
    · intro w'
      go_simp
      with_reducible rfl
    rotate_left
    · simp only [Act.put, List.setIfInBounds_toArray, List.set_cons_zero, List.set_cons_succ, i64_w, i32_w]
      rfl
    refine pure_ (i := 16) (N := some 22) (v := ?_) (a' := ?_) #[true, true, true, false, false, true, true, true, false, false, true, true, true, false, true, true, true, false, false, false, false, true, true, false, false, false, false, true, true, false, false, false, false, false, false, false, false, false] rfl rfl (by kernel_rfl) (fun _ _ _ h => h) (Or.inl ⟨by rfl, ?_⟩) ?_ ?_
    rotate_left
    · intro w'
      go_simp
      with_reducible rfl
    rotate_left
    · simp only [Act.put, List.setIfInBounds_toArray, List.set_cons_zero, List.set_cons_succ, i64_w, i32_w]
      rfl
    refine pure_ (i := 23) (N := some 29) (v := ?_) (a' := ?_) #[true, true, true, false, false, true, true, true, false, false, true, true, true, false, true, true, true, false, false, false, false, true, true, true, false, false, false, true, true, false, false, false, false, false, false, false, false, false] rfl rfl (by kernel_rfl) (fun _ _ _ h => h) (Or.inl ⟨by rfl, ?_⟩) ?_ ?_
    rotate_left
    · intro w'
      go_simp
      with_reducible rfl
    rotate_left
    · simp only [Act.put, List.setIfInBounds_toArray, List.set_cons_zero, List.set_cons_succ, i64_w, i32_w]
      rfl
    refine pure_ (i := 29) (N := some 35) (v := ?_) (a' := ?_) #[true, true, true, false, false, true, true, true, false, false, true, true, true, false, true, true, true, false, false, false, false, true, true, true, false, false, false, true, true, true, false, false, false, false, false, false, false, false] rfl rfl (by kernel_rfl) (fun _ _ _ h => h) (Or.inl ⟨by rfl, ?_⟩) ?_ ?_
    rotate_left
    · intro w'
      go_simp
      with_reducible rfl
    rotate_left
    · simp only [Act.put, List.setIfInBounds_toArray, List.set_cons_zero, List.set_cons_succ, i64_w, i32_w]
      rfl
    refine pure_ (i := 3) (N := some 9) (v := ?_) (a' := ?_) #[true, true, true, true, false, true, true, true, false, false, true, true, true, false, true, true, true, false, false, false, false, true, true, true, false, false, false, true, true, true, false, false, false, false, false, false, false, false] rfl rfl (by kernel_rfl) (fun _ _ _ h => h) (Or.inl ⟨by rfl, ?_⟩) ?_ ?_
    rotate_left
    · intro w'
      go_simp
      with_reducible rfl
    rotate_left
    · simp only [Act.put, List.setIfInBounds_toArray, List.set_cons_zero, List.set_cons_succ, i64_w, i32_w]
      rfl
    refine pure_ (i := 8) (N := some 14) (v := ?_) (a' := ?_) #[true, true, true, true, false, true, true, true, true, false, true, true, true, false, true, true, true, false, false, false, false, true, true, true, false, false, false, true, true, true, false, false, false, false, false, false, false, false] rfl rfl (by kernel_rfl) (fun _ _ _ h => h) (Or.inl ⟨by rfl, ?_⟩) ?_ ?_
    rotate_left
    · intro w'
      go_simp
      with_reducible rfl
    rotate_left
    · simp only [Act.put, List.setIfInBounds_toArray, List.set_cons_zero, List.set_cons_succ, i64_w, i32_w]
      rfl
    refine take_ (i := 13) (N := some 19) (v := ?_) (a' := ?_) #[true, true, true, true, false, true, true, true, true, false, true, true, true, true, true, true, true, false, false, false, false, true, true, true, false, false, false, true, true, true, false, false, false, false, false, false, false, false] rfl rfl (by kernel_rfl) (fun _ _ _ h => h) (Or.inl ⟨by rfl, ?_⟩) hHeld ?_ ?_
    rotate_left
    · intro w' hS
      have s19 := blk_cell hS 19
      have s20 := blk_cell hS 20
      have s21 := blk_cell hS 21
      have s22 := blk_cell hS 22
      have s23 := blk_cell hS 23
      have s24 := blk_cell hS 24
      have s25 := blk_cell hS 25
      have s26 := blk_cell hS 26
      have s27 := blk_cell hS 27
      have s28 := blk_cell hS 28
      have s29 := blk_cell hS 29
      have s30 := blk_cell hS 30
      simp only [List.getElem?_toArray, List.getElem?_cons_zero, List.getElem?_cons_succ] at s19 s20 s21 s22 s23 s24 s25 s26 s27 s28 s29 s30
      clear hS
      go_simp
      with_reducible rfl
    rotate_left
    · simp only [Act.put, List.setIfInBounds_toArray, List.set_cons_zero, List.set_cons_succ, i64_w, i32_w]
      rfl
    refine pure_ (i := 17) (N := some 23) (v := ?_) (a' := ?_) #[true, true, true, true, false, true, true, true, true, false, true, true, true, true, true, true, true, true, false, false, false, true, true, true, false, false, false, true, true, true, false, false, false, false, false, false, false, false] rfl rfl (by kernel_rfl) (fun _ _ _ h => h) (Or.inl ⟨by rfl, ?_⟩) ?_ ?_
    rotate_left
    · intro w'
      go_simp
      with_reducible rfl
    rotate_left
    · simp only [Act.put, List.setIfInBounds_toArray, List.set_cons_zero, List.set_cons_succ, i64_w, i32_w]
      rfl
    refine pure_ (i := 24) (N := some 30) (v := ?_) (a' := ?_) #[true, true, true, true, false, true, true, true, true, false, true, true, true, true, true, true, true, true, false, false, false, true, true, true, true, false, false, true, true, true, false, false, false, false, false, false, false, false] rfl rfl (by kernel_rfl) (fun _ _ _ h => h) (Or.inl ⟨by rfl, ?_⟩) ?_ ?_
    rotate_left
    · intro w'
      go_simp
      with_reducible rfl
    rotate_left
    · simp only [Act.put, List.setIfInBounds_toArray, List.set_cons_zero, List.set_cons_succ, i64_w, i32_w]
      rfl
    refine take_ (i := 30) (N := some 36) (v := ?_) (a' := ?_) #[true, true, true, true, false, true, true, true, true, false, true, true, true, true, true, true, true, true, false, false, false, true, true, true, true, false, false, true, true, true, true, false, false, false, false, false, false, false] rfl rfl (by kernel_rfl) (fun _ _ _ h => h) (Or.inl ⟨by rfl, ?_⟩) hHeld ?_ ?_
    rotate_left
    · intro w' hS
      have s31 := blk_cell hS 31
      simp only [List.getElem?_toArray, List.getElem?_cons_zero, List.getElem?_cons_succ] at s31
      clear hS
      go_simp
      with_reducible rfl
    rotate_left
    · simp only [Act.put, List.setIfInBounds_toArray, List.set_cons_zero, List.set_cons_succ, i64_w, i32_w]
      rfl
    refine take_ (i := 4) (N := some 10) (v := ?_) (a' := ?_) #[true, true, true, true, true, true, true, true, true, false, true, true, true, true, true, true, true, true, false, false, false, true, true, true, true, false, false, true, true, true, true, false, false, false, false, false, false, false] rfl rfl (by kernel_rfl) (fun _ _ _ h => h) (Or.inl ⟨by rfl, ?_⟩) hHeld ?_ ?_
    rotate_left
    · intro w' hS
      have s0 := blk_cell hS 0
      have s1 := blk_cell hS 1
      have s2 := blk_cell hS 2
      have s3 := blk_cell hS 3
      have s4 := blk_cell hS 4
      have s5 := blk_cell hS 5
      have s6 := blk_cell hS 6
      have s7 := blk_cell hS 7
      simp only [List.getElem?_toArray, List.getElem?_cons_zero, List.getElem?_cons_succ] at s0 s1 s2 s3 s4 s5 s6 s7
      clear hS
      go_simp
      with_reducible rfl
    rotate_left
    · simp only [Act.put, List.setIfInBounds_toArray, List.set_cons_zero, List.set_cons_succ, i64_w, i32_w]
      rfl
    refine take_ (i := 9) (N := some 15) (v := ?_) (a' := ?_) #[true, true, true, true, true, true, true, true, true, true, true, true, true, true, true, true, true, true, false, false, false, true, true, true, true, false, false, true, true, true, true, false, false, false, false, false, false, false] rfl rfl (by kernel_rfl) (fun _ _ _ h => h) (Or.inl ⟨by rfl, ?_⟩) hHeld ?_ ?_
    rotate_left
    · intro w' hS
      have s8 := blk_cell hS 8
      have s9 := blk_cell hS 9
      have s10 := blk_cell hS 10
      simp only [List.getElem?_toArray, List.getElem?_cons_zero, List.getElem?_cons_succ] at s8 s9 s10
      clear hS
      go_simp
      with_reducible rfl
    rotate_left
    · simp only [Act.put, List.setIfInBounds_toArray, List.set_cons_zero, List.set_cons_succ, i64_w, i32_w]
      rfl
    refine take_ (i := 18) (N := some 24) (v := ?_) (a' := ?_) #[true, true, true, true, true, true, true, true, true, true, true, true, true, true, true, true, true, true, true, false, false, true, true, true, true, false, false, true, true, true, true, false, false, false, false, false, false, false] rfl rfl (by kernel_rfl) (fun _ _ _ h => h) (Or.inl ⟨by rfl, ?_⟩) hHeld ?_ ?_
    rotate_left
    · intro w' hS
      have s11 := blk_cell hS 11
      have s12 := blk_cell hS 12
      have s13 := blk_cell hS 13
      simp only [List.getElem?_toArray, List.getElem?_cons_zero, List.getElem?_cons_succ] at s11 s12 s13
      clear hS
      go_simp
      with_reducible rfl
    rotate_left
    · simp only [Act.put, List.setIfInBounds_toArray, List.set_cons_zero, List.set_cons_succ, i64_w, i32_w]
      rfl
    refine pure_ (i := 25) (N := some 31) (v := ?_) (a' := ?_) #[true, true, true, true, true, true, true, true, true, true, true, true, true, true, true, true, true, true, true, false, false, true, true, true, true, true, false, true, true, true, true, false, false, false, false, false, false, false] rfl rfl (by kernel_rfl) (fun _ _ _ h => h) (Or.inl ⟨by rfl, ?_⟩) ?_ ?_
    rotate_left
    · intro w'
      go_simp
      with_reducible rfl
    rotate_left
    · simp only [Act.put, List.setIfInBounds_toArray, List.set_cons_zero, List.set_cons_succ, i64_w, i32_w]
      rfl
    refine take_ (i := 26) (N := some 32) (v := ?_) (a' := ?_) #[true, true, true, true, true, true, true, true, true, true, true, true, true, true, true, true, true, true, true, false, false, true, true, true, true, true, true, true, true, true, true, false, false, false, false, false, false, false] rfl rfl (by kernel_rfl) (fun _ _ _ h => h) (Or.inl ⟨by rfl, ?_⟩) hHeld ?_ ?_
    rotate_left
    · intro w' hS
      have s17 := blk_cell hS 17
      simp only [List.getElem?_toArray, List.getElem?_cons_zero, List.getElem?_cons_succ] at s17
      clear hS
      go_simp
      with_reducible rfl
    rotate_left
    · simp only [Act.put, List.setIfInBounds_toArray, List.set_cons_zero, List.set_cons_succ, i64_w, i32_w]
      rfl
    refine two_ (i := 19) (j := 35) (Ni := some 25) (Nj := some 3) #[true, true, true, true, true, true, true, true, true, true, true, true, true, true, true, true, true, true, true, true, false, true, true, true, true, true, true, true, true, true, true, false, false, false, false, false, false, false] #[true, true, true, true, true, true, true, true, true, true, true, true, true, true, true, true, true, true, true, false, false, true, true, true, true, true, true, true, true, true, true, false, false, false, false, true, false, false] rfl rfl rfl rfl (by kernel_rfl) (by decide) (by decide) (fun K hK => ?_) (fun K hK => ?_)
    · skip
      refine goes_ Try.func52 (by kernel_rfl) rfl #[.agg #[.int .i64 q0, .int .i64 q1, .int .i64 q2, .int .i64 q3, .int .i64 q4, .int .i64 q5, .int .i64 q6, .int .i64 q7, .int .i64 q8, .int .i64 q9, .int .i64 q10, .int .i64 q11], .agg #[.int .i64 h0, .int .i64 h1, .bool h2]] (by rfl) rfl rfl (by (try simp only [List.map_toArray, List.map_cons, List.map_nil]); first | done | rfl) ?_
      refine (limit_Into.calls _ _ _ _ _ _ _ _ _ _ _ _ _ _ _ _ _ _ _ HI.out).mono ?_
      rintro e_ w1 ⟨rfl, hb2⟩
      refine ⟨_, rfl, ?_⟩
      have f3 := blk_below FG hb2
      have f4 := Kd.C_below FC2 hb2
      have f5 := Kd.C_below FC7 hb2
      have b6 := below_step FB hb2
      refine hK.out _ _ f3 (fun hHeld => ?_)
      clear hK K
      refine norm_ (a' := ?_) ?_ ?_
      rotate_left
      · show Act.put _ (some 25) _ = _
        simp only [Act.put, List.setIfInBounds_toArray, List.set_cons_zero, List.set_cons_succ, i64_w, i32_w]
        rfl
      refine pure_ (i := 20) (N := some 26) (v := ?_) (a' := ?_) #[true, true, true, true, true, true, true, true, true, true, true, true, true, true, true, true, true, true, true, true, true, true, true, true, true, true, true, true, true, true, true, false, false, false, false, false, false, false] rfl rfl (by kernel_rfl) (fun _ _ _ h => h) (Or.inl ⟨by rfl, ?_⟩) ?_ ?_
      rotate_left
      · intro w'
        go_simp
        with_reducible rfl
      rotate_left
      · simp only [Act.put, List.setIfInBounds_toArray, List.set_cons_zero, List.set_cons_succ, i64_w, i32_w]
        rfl
      refine two_ (i := 31) (j := 35) (Ni := some 37) (Nj := some 3) #[true, true, true, true, true, true, true, true, true, true, true, true, true, true, true, true, true, true, true, true, true, true, true, true, true, true, true, true, true, true, true, true, false, false, false, false, false, false] #[true, true, true, true, true, true, true, true, true, true, true, true, true, true, true, true, true, true, true, true, true, true, true, true, true, true, true, true, true, true, true, false, false, false, false, true, false, false] rfl rfl rfl rfl (by kernel_rfl) (by decide) (by decide) (fun K hK => ?_) (fun K hK => ?_)
      · skip
        refine goes_ Try.func51 (by kernel_rfl) rfl #[.agg #[.int .i64 p0, .int .i64 p1, .slice A2 l2.length c2, .int .i64 p3, .int .i64 p4, .int .i64 p5, .int .i64 p6, .slice A7 l7.length c7], .agg #[.int .i64 s0, .int .i64 s1, .bool s2], .int .i64 cur, .int .i64 ut, .int .i64 now] (by rfl) rfl rfl (by (try simp only [List.map_toArray, List.map_cons, List.map_nil]); first | done | rfl) ?_
        refine (policy_Next.calls k _ _ _ _ _ _ _ _ _ _ _ _ _ _ _ _ _ _ _ _ _ _ _ f4 hc2 f5 hc7 HN.out).mono ?_
        rintro e_ w7 ⟨rfl, hb8⟩
        refine ⟨_, rfl, ?_⟩
        have f9 := blk_below f3 hb8
        have f10 := Kd.C_below f4 hb8
        have f11 := Kd.C_below f5 hb8
        have b12 := below_step b6 hb8
        refine hK.out _ _ f9 (fun hHeld => ?_)
        clear hK K
        refine norm_ (a' := ?_) ?_ ?_
        rotate_left
        · show Act.put _ (some 37) _ = _
          simp only [Act.put, List.setIfInBounds_toArray, List.set_cons_zero, List.set_cons_succ, i64_w, i32_w]
          rfl
        refine pure_ (i := 32) (N := some 5) (v := ?_) (a' := ?_) #[true, true, true, true, true, true, true, true, true, true, true, true, true, true, true, true, true, true, true, true, true, true, true, true, true, true, true, true, true, true, true, true, true, false, false, false, false, false] rfl rfl (by kernel_rfl) (fun _ _ _ h => h) (Or.inl ⟨by rfl, ?_⟩) ?_ ?_
        rotate_left
        · intro w'
          go_simp
          with_reducible rfl
        rotate_left
        · simp only [Act.put, List.setIfInBounds_toArray, List.set_cons_zero, List.set_cons_succ, i64_w, i32_w]
          rfl
        refine pure_ (i := 33) (N := some 38) (v := ?_) (a' := ?_) #[true, true, true, true, true, true, true, true, true, true, true, true, true, true, true, true, true, true, true, true, true, true, true, true, true, true, true, true, true, true, true, true, true, true, false, false, false, false] rfl rfl (by kernel_rfl) (fun _ _ _ h => h) (Or.inl ⟨by rfl, ?_⟩) ?_ ?_
        rotate_left
        · intro w'
          go_simp
          with_reducible rfl
        rotate_left
        · simp only [Act.put, List.setIfInBounds_toArray, List.set_cons_zero, List.set_cons_succ, i64_w, i32_w]
          rfl
        refine pure_ (i := 34) (N := some 39) (v := ?_) (a' := ?_) #[true, true, true, true, true, true, true, true, true, true, true, true, true, true, true, true, true, true, true, true, true, true, true, true, true, true, true, true, true, true, true, true, true, true, true, false, false, false] rfl rfl (by kernel_rfl) (fun _ _ _ h => h) (Or.inl ⟨by rfl, ?_⟩) ?_ ?_
        rotate_left
        · intro w'
          go_simp
          with_reducible rfl
        rotate_left
        · simp only [Act.put, List.setIfInBounds_toArray, List.set_cons_zero, List.set_cons_succ, i64_w, i32_w]
          rfl
        refine one_ (i := 35) (N := some 3) #[true, true, true, true, true, true, true, true, true, true, true, true, true, true, true, true, true, true, true, true, true, true, true, true, true, true, true, true, true, true, true, true, true, true, true, true, false, false] rfl rfl (by kernel_rfl) (by decide) (fun K hK => ?_)
        refine box_step ?hg (N := 3) ?hd (cs := #[.int .i64 0, .int .i64 0, .bool false]) (t := 29) ?hr ?_; (case hd => rfl); (case hg => rfl); (case hr => first | (go_simp; done) | (go_simp; rfl))
        intro gs e16 w13 h15 hb14
        have lt_G_gs : G < gs := by rw [e16]; exact blk_lt f9
        have ge_gs : w.heap.size ≤ gs := by rw [e16]; exact b12.size
        clear e16
        have f17 := blk_below f9 hb14
        have f18 := Kd.C_below f10 hb14
        have f19 := Kd.C_below f11 hb14
        have b20 := below_step b12 hb14
        refine hK.out _ _ f17 (fun hHeld => ?_)
        clear hK K
        refine norm_ (a' := ?_) ?_ ?_
        rotate_left
        · show Act.put _ (some 3) _ = _
          simp only [Act.put, List.setIfInBounds_toArray, List.set_cons_zero, List.set_cons_succ, i64_w, i32_w]
          rfl
        refine one_ (i := 36) (N := none) #[true, true, true, true, true, true, true, true, true, true, true, true, true, true, true, true, true, true, true, true, true, true, true, true, true, true, true, true, true, true, true, true, true, true, true, true, true, false] rfl rfl (by kernel_rfl) (by decide) (fun K hK => ?_)
        have z21 := blk_cell h15 0
        have z24 := blk_frozen h15 0
        have z22 := blk_cell h15 1
        have z25 := blk_frozen h15 1
        have z23 := blk_cell h15 2
        have z26 := blk_frozen h15 2
        simp only [List.getElem?_toArray, List.getElem?_cons_zero, List.getElem?_cons_succ] at z21 z22 z23
        refine skip_ (w1 := ?_) (by rfl) rfl ?_ ?_
        rotate_left
        · go_simp
          rfl
        clear z21 z22 z23 z24 z25 z26
        have f27 := blk_far (p := ⟨gs, 2, none⟩) (blk_far (p := ⟨gs, 1, none⟩) (blk_far (p := ⟨gs, 0, none⟩) (f17) (by show G ≠ gs; omega) (.int .i64 n0)) (by show G ≠ gs; omega) (.int .i64 n1)) (by show G ≠ gs; omega) (.bool n2)
        have f28 : (_ : World).heap[gs]? = some (.cells #[.int .i64 n0, .int .i64 n1, .bool n2] 29 (0, 0)) := blk_put (blk_put (blk_put (h15) 0 (.int .i64 n0) rfl) 1 (.int .i64 n1) rfl) 2 (.bool n2) rfl
        have b31 := below_set (g := gs) (j := 2) (v := .bool n2) (below_set (g := gs) (j := 1) (v := .int .i64 n1) (below_set (g := gs) (j := 0) (v := .int .i64 n0) (b20) ge_gs) ge_gs) ge_gs
        generalize (((w13.setCell _ _).setCell _ _).setCell _ _) = w32 at f27 f28 b31 ⊢
        refine hK.out _ _ f27 (fun hHeld => ?_)
        clear hK K
        refine pure_ (i := 37) (N := some 4) (v := ?_) (a' := ?_) #[true, true, true, true, true, true, true, true, true, true, true, true, true, true, true, true, true, true, true, true, true, true, true, true, true, true, true, true, true, true, true, true, true, true, true, true, true, true] rfl rfl (by kernel_rfl) (fun _ _ _ h => h) (Or.inl ⟨by rfl, ?_⟩) ?_ ?_
        rotate_left
        · intro w'
          go_simp
          with_reducible rfl
        rotate_left
        · simp only [Act.put, List.setIfInBounds_toArray, List.set_cons_zero, List.set_cons_succ, i64_w, i32_w]
          rfl
        refine done_ (by kernel_rfl) ?_
        (try go_wp2)
        go_meet
        exact ⟨gs, rfl, rfl, f27, f28, by omega, b31⟩
      · skip
        refine box_step ?hg (N := 3) ?hd (cs := #[.int .i64 0, .int .i64 0, .bool false]) (t := 29) ?hr ?_; (case hd => rfl); (case hg => rfl); (case hr => first | (go_simp; done) | (go_simp; rfl))
        intro gs e36 w33 h35 hb34
        have lt_G_gs : G < gs := by rw [e36]; exact blk_lt f3
        have ge_gs : w.heap.size ≤ gs := by rw [e36]; exact b6.size
        clear e36
        have f37 := blk_below f3 hb34
        have f38 := Kd.C_below f4 hb34
        have f39 := Kd.C_below f5 hb34
        have b40 := below_step b6 hb34
        refine hK.out _ _ f37 (fun hHeld => ?_)
        clear hK K
        refine norm_ (a' := ?_) ?_ ?_
        rotate_left
        · show Act.put _ (some 3) _ = _
          simp only [Act.put, List.setIfInBounds_toArray, List.set_cons_zero, List.set_cons_succ, i64_w, i32_w]
          rfl
        refine one_ (i := 31) (N := some 37) #[true, true, true, true, true, true, true, true, true, true, true, true, true, true, true, true, true, true, true, true, true, true, true, true, true, true, true, true, true, true, true, true, false, false, false, true, false, false] rfl rfl (by kernel_rfl) (by decide) (fun K hK => ?_)
        refine goes_ Try.func51 (by kernel_rfl) rfl #[.agg #[.int .i64 p0, .int .i64 p1, .slice A2 l2.length c2, .int .i64 p3, .int .i64 p4, .int .i64 p5, .int .i64 p6, .slice A7 l7.length c7], .agg #[.int .i64 s0, .int .i64 s1, .bool s2], .int .i64 cur, .int .i64 ut, .int .i64 now] (by rfl) rfl rfl (by (try simp only [List.map_toArray, List.map_cons, List.map_nil]); first | done | rfl) ?_
        refine (policy_Next.calls k _ _ _ _ _ _ _ _ _ _ _ _ _ _ _ _ _ _ _ _ _ _ _ f38 hc2 f39 hc7 HN.out).mono ?_
        rintro e_ w41 ⟨rfl, hb42⟩
        refine ⟨_, rfl, ?_⟩
        have f43 := blk_below f37 hb42
        have f44 := blk_below h35 hb42
        have f45 := Kd.C_below f38 hb42
        have f46 := Kd.C_below f39 hb42
        have b47 := below_step b40 hb42
        refine hK.out _ _ f43 (fun hHeld => ?_)
        clear hK K
        refine norm_ (a' := ?_) ?_ ?_
        rotate_left
        · show Act.put _ (some 37) _ = _
          simp only [Act.put, List.setIfInBounds_toArray, List.set_cons_zero, List.set_cons_succ, i64_w, i32_w]
          rfl
        refine pure_ (i := 32) (N := some 5) (v := ?_) (a' := ?_) #[true, true, true, true, true, true, true, true, true, true, true, true, true, true, true, true, true, true, true, true, true, true, true, true, true, true, true, true, true, true, true, true, true, false, false, true, false, false] rfl rfl (by kernel_rfl) (fun _ _ _ h => h) (Or.inl ⟨by rfl, ?_⟩) ?_ ?_
        rotate_left
        · intro w'
          go_simp
          with_reducible rfl
        rotate_left
        · simp only [Act.put, List.setIfInBounds_toArray, List.set_cons_zero, List.set_cons_succ, i64_w, i32_w]
          rfl
        refine pure_ (i := 33) (N := some 38) (v := ?_) (a' := ?_) #[true, true, true, true, true, true, true, true, true, true, true, true, true, true, true, true, true, true, true, true, true, true, true, true, true, true, true, true, true, true, true, true, true, true, false, true, false, false] rfl rfl (by kernel_rfl) (fun _ _ _ h => h) (Or.inl ⟨by rfl, ?_⟩) ?_ ?_
        rotate_left
        · intro w'
          go_simp
          with_reducible rfl
        rotate_left
        · simp only [Act.put, List.setIfInBounds_toArray, List.set_cons_zero, List.set_cons_succ, i64_w, i32_w]
          rfl
        refine pure_ (i := 34) (N := some 39) (v := ?_) (a' := ?_) #[true, true, true, true, true, true, true, true, true, true, true, true, true, true, true, true, true, true, true, true, true, true, true, true, true, true, true, true, true, true, true, true, true, true, true, true, false, false] rfl rfl (by kernel_rfl) (fun _ _ _ h => h) (Or.inl ⟨by rfl, ?_⟩) ?_ ?_
        rotate_left
        · intro w'
          go_simp
          with_reducible rfl
        rotate_left
        · simp only [Act.put, List.setIfInBounds_toArray, List.set_cons_zero, List.set_cons_succ, i64_w, i32_w]
          rfl
        refine one_ (i := 36) (N := none) #[true, true, true, true, true, true, true, true, true, true, true, true, true, true, true, true, true, true, true, true, true, true, true, true, true, true, true, true, true, true, true, true, true, true, true, true, true, false] rfl rfl (by kernel_rfl) (by decide) (fun K hK => ?_)
        have z48 := blk_cell f44 0
        have z51 := blk_frozen f44 0
        have z49 := blk_cell f44 1
        have z52 := blk_frozen f44 1
        have z50 := blk_cell f44 2
        have z53 := blk_frozen f44 2
        simp only [List.getElem?_toArray, List.getElem?_cons_zero, List.getElem?_cons_succ] at z48 z49 z50
        refine skip_ (w1 := ?_) (by rfl) rfl ?_ ?_
        rotate_left
        · go_simp
          rfl
        clear z48 z49 z50 z51 z52 z53
        have f54 := blk_far (p := ⟨gs, 2, none⟩) (blk_far (p := ⟨gs, 1, none⟩) (blk_far (p := ⟨gs, 0, none⟩) (f43) (by show G ≠ gs; omega) (.int .i64 n0)) (by show G ≠ gs; omega) (.int .i64 n1)) (by show G ≠ gs; omega) (.bool n2)
        have f55 : (_ : World).heap[gs]? = some (.cells #[.int .i64 n0, .int .i64 n1, .bool n2] 29 (0, 0)) := blk_put (blk_put (blk_put (f44) 0 (.int .i64 n0) rfl) 1 (.int .i64 n1) rfl) 2 (.bool n2) rfl
        have b58 := below_set (g := gs) (j := 2) (v := .bool n2) (below_set (g := gs) (j := 1) (v := .int .i64 n1) (below_set (g := gs) (j := 0) (v := .int .i64 n0) (b47) ge_gs) ge_gs) ge_gs
        generalize (((w41.setCell _ _).setCell _ _).setCell _ _) = w59 at f54 f55 b58 ⊢
        refine hK.out _ _ f54 (fun hHeld => ?_)
        clear hK K
        refine pure_ (i := 37) (N := some 4) (v := ?_) (a' := ?_) #[true, true, true, true, true, true, true, true, true, true, true, true, true, true, true, true, true, true, true, true, true, true, true, true, true, true, true, true, true, true, true, true, true, true, true, true, true, true] rfl rfl (by kernel_rfl) (fun _ _ _ h => h) (Or.inl ⟨by rfl, ?_⟩) ?_ ?_
        rotate_left
        · intro w'
          go_simp
          with_reducible rfl
        rotate_left
        · simp only [Act.put, List.setIfInBounds_toArray, List.set_cons_zero, List.set_cons_succ, i64_w, i32_w]
          rfl
        refine done_ (by kernel_rfl) ?_
        (try go_wp2)
        go_meet
        exact ⟨gs, rfl, rfl, f54, f55, by omega, b58⟩
    · skip
      refine box_step ?hg (N := 3) ?hd (cs := #[.int .i64 0, .int .i64 0, .bool false]) (t := 29) ?hr ?_; (case hd => rfl); (case hg => rfl); (case hr => first | (go_simp; done) | (go_simp; rfl))
      intro gs e63 w60 h62 hb61
      have lt_G_gs : G < gs := by rw [e63]; exact blk_lt FG
      have ge_gs : w.heap.size ≤ gs := by rw [e63]; exact FB.size
      clear e63
      have f64 := blk_below FG hb61
      have f65 := Kd.C_below FC2 hb61
      have f66 := Kd.C_below FC7 hb61
      have b67 := below_step FB hb61
      refine hK.out _ _ f64 (fun hHeld => ?_)
      clear hK K
      refine norm_ (a' := ?_) ?_ ?_
      rotate_left
      · show Act.put _ (some 3) _ = _
        simp only [Act.put, List.setIfInBounds_toArray, List.set_cons_zero, List.set_cons_succ, i64_w, i32_w]
        rfl
      refine one_ (i := 19) (N := some 25) #[true, true, true, true, true, true, true, true, true, true, true, true, true, true, true, true, true, true, true, true, false, true, true, true, true, true, true, true, true, true, true, false, false, false, false, true, false, false] rfl rfl (by kernel_rfl) (by decide) (fun K hK => ?_)
      refine goes_ Try.func52 (by kernel_rfl) rfl #[.agg #[.int .i64 q0, .int .i64 q1, .int .i64 q2, .int .i64 q3, .int .i64 q4, .int .i64 q5, .int .i64 q6, .int .i64 q7, .int .i64 q8, .int .i64 q9, .int .i64 q10, .int .i64 q11], .agg #[.int .i64 h0, .int .i64 h1, .bool h2]] (by rfl) rfl rfl (by (try simp only [List.map_toArray, List.map_cons, List.map_nil]); first | done | rfl) ?_
      refine (limit_Into.calls _ _ _ _ _ _ _ _ _ _ _ _ _ _ _ _ _ _ _ HI.out).mono ?_
      rintro e_ w68 ⟨rfl, hb69⟩
      refine ⟨_, rfl, ?_⟩
      have f70 := blk_below f64 hb69
      have f71 := blk_below h62 hb69
      have f72 := Kd.C_below f65 hb69
      have f73 := Kd.C_below f66 hb69
      have b74 := below_step b67 hb69
      refine hK.out _ _ f70 (fun hHeld => ?_)
      clear hK K
      refine norm_ (a' := ?_) ?_ ?_
      rotate_left
      · show Act.put _ (some 25) _ = _
        simp only [Act.put, List.setIfInBounds_toArray, List.set_cons_zero, List.set_cons_succ, i64_w, i32_w]
        rfl
      refine pure_ (i := 20) (N := some 26) (v := ?_) (a' := ?_) #[true, true, true, true, true, true, true, true, true, true, true, true, true, true, true, true, true, true, true, true, true, true, true, true, true, true, true, true, true, true, true, false, false, false, false, true, false, false] rfl rfl (by kernel_rfl) (fun _ _ _ h => h) (Or.inl ⟨by rfl, ?_⟩) ?_ ?_
      rotate_left
      · intro w'
        go_simp
        with_reducible rfl
      rotate_left
      · simp only [Act.put, List.setIfInBounds_toArray, List.set_cons_zero, List.set_cons_succ, i64_w, i32_w]
        rfl
      refine one_ (i := 31) (N := some 37) #[true, true, true, true, true, true, true, true, true, true, true, true, true, true, true, true, true, true, true, true, true, true, true, true, true, true, true, true, true, true, true, true, false, false, false, true, false, false] rfl rfl (by kernel_rfl) (by decide) (fun K hK => ?_)
      refine goes_ Try.func51 (by kernel_rfl) rfl #[.agg #[.int .i64 p0, .int .i64 p1, .slice A2 l2.length c2, .int .i64 p3, .int .i64 p4, .int .i64 p5, .int .i64 p6, .slice A7 l7.length c7], .agg #[.int .i64 s0, .int .i64 s1, .bool s2], .int .i64 cur, .int .i64 ut, .int .i64 now] (by rfl) rfl rfl (by (try simp only [List.map_toArray, List.map_cons, List.map_nil]); first | done | rfl) ?_
      refine (policy_Next.calls k _ _ _ _ _ _ _ _ _ _ _ _ _ _ _ _ _ _ _ _ _ _ _ f72 hc2 f73 hc7 HN.out).mono ?_
      rintro e_ w75 ⟨rfl, hb76⟩
      refine ⟨_, rfl, ?_⟩
      have f77 := blk_below f70 hb76
      have f78 := blk_below f71 hb76
      have f79 := Kd.C_below f72 hb76
      have f80 := Kd.C_below f73 hb76
      have b81 := below_step b74 hb76
      refine hK.out _ _ f77 (fun hHeld => ?_)
      clear hK K
      refine norm_ (a' := ?_) ?_ ?_
      rotate_left
      · show Act.put _ (some 37) _ = _
        simp only [Act.put, List.setIfInBounds_toArray, List.set_cons_zero, List.set_cons_succ, i64_w, i32_w]
        rfl
      refine pure_ (i := 32) (N := some 5) (v := ?_) (a' := ?_) #[true, true, true, true, true, true, true, true, true, true, true, true, true, true, true, true, true, true, true, true, true, true, true, true, true, true, true, true, true, true, true, true, true, false, false, true, false, false] rfl rfl (by kernel_rfl) (fun _ _ _ h => h) (Or.inl ⟨by rfl, ?_⟩) ?_ ?_
      rotate_left
      · intro w'
        go_simp
        with_reducible rfl
      rotate_left
      · simp only [Act.put, List.setIfInBounds_toArray, List.set_cons_zero, List.set_cons_succ, i64_w, i32_w]
        rfl
      refine pure_ (i := 33) (N := some 38) (v := ?_) (a' := ?_) #[true, true, true, true, true, true, true, true, true, true, true, true, true, true, true, true, true, true, true, true, true, true, true, true, true, true, true, true, true, true, true, true, true, true, false, true, false, false] rfl rfl (by kernel_rfl) (fun _ _ _ h => h) (Or.inl ⟨by rfl, ?_⟩) ?_ ?_
      rotate_left
      · intro w'
        go_simp
        with_reducible rfl
      rotate_left
      · simp only [Act.put, List.setIfInBounds_toArray, List.set_cons_zero, List.set_cons_succ, i64_w, i32_w]
        rfl
      refine pure_ (i := 34) (N := some 39) (v := ?_) (a' := ?_) #[true, true, true, true, true, true, true, true, true, true, true, true, true, true, true, true, true, true, true, true, true, true, true, true, true, true, true, true, true, true, true, true, true, true, true, true, false, false] rfl rfl (by kernel_rfl) (fun _ _ _ h => h) (Or.inl ⟨by rfl, ?_⟩) ?_ ?_
      rotate_left
      · intro w'
        go_simp
        with_reducible rfl
      rotate_left
      · simp only [Act.put, List.setIfInBounds_toArray, List.set_cons_zero, List.set_cons_succ, i64_w, i32_w]
        rfl
      refine one_ (i := 36) (N := none) #[true, true, true, true, true, true, true, true, true, true, true, true, true, true, true, true, true, true, true, true, true, true, true, true, true, true, true, true, true, true, true, true, true, true, true, true, true, false] rfl rfl (by kernel_rfl) (by decide) (fun K hK => ?_)
      have z82 := blk_cell f78 0
      have z85 := blk_frozen f78 0
      have z83 := blk_cell f78 1
      have z86 := blk_frozen f78 1
      have z84 := blk_cell f78 2
      have z87 := blk_frozen f78 2
      simp only [List.getElem?_toArray, List.getElem?_cons_zero, List.getElem?_cons_succ] at z82 z83 z84
      refine skip_ (w1 := ?_) (by rfl) rfl ?_ ?_
      rotate_left
      · go_simp
        rfl
      clear z82 z83 z84 z85 z86 z87
      have f88 := blk_far (p := ⟨gs, 2, none⟩) (blk_far (p := ⟨gs, 1, none⟩) (blk_far (p := ⟨gs, 0, none⟩) (f77) (by show G ≠ gs; omega) (.int .i64 n0)) (by show G ≠ gs; omega) (.int .i64 n1)) (by show G ≠ gs; omega) (.bool n2)
      have f89 : (_ : World).heap[gs]? = some (.cells #[.int .i64 n0, .int .i64 n1, .bool n2] 29 (0, 0)) := blk_put (blk_put (blk_put (f78) 0 (.int .i64 n0) rfl) 1 (.int .i64 n1) rfl) 2 (.bool n2) rfl
      have b92 := below_set (g := gs) (j := 2) (v := .bool n2) (below_set (g := gs) (j := 1) (v := .int .i64 n1) (below_set (g := gs) (j := 0) (v := .int .i64 n0) (b81) ge_gs) ge_gs) ge_gs
      generalize (((w75.setCell _ _).setCell _ _).setCell _ _) = w93 at f88 f89 b92 ⊢
      refine hK.out _ _ f88 (fun hHeld => ?_)
      clear hK K
      refine pure_ (i := 37) (N := some 4) (v := ?_) (a' := ?_) #[true, true, true, true, true, true, true, true, true, true, true, true, true, true, true, true, true, true, true, true, true, true, true, true, true, true, true, true, true, true, true, true, true, true, true, true, true, true] rfl rfl (by kernel_rfl) (fun _ _ _ h => h) (Or.inl ⟨by rfl, ?_⟩) ?_ ?_
      rotate_left
      · intro w'
        go_simp
        with_reducible rfl
      rotate_left
      · simp only [Act.put, List.setIfInBounds_toArray, List.set_cons_zero, List.set_cons_succ, i64_w, i32_w]
        rfl
      refine done_ (by kernel_rfl) ?_
      (try go_wp2)
      go_meet
      exact ⟨gs, rfl, rfl, f88, f89, by omega, b92⟩
  case rest =>
    obtain ⟨gs, rfl, rfl, FG, FS, hlt, FB⟩ := hcut
    clear hG hr2 hr7 HI HN
    have g8 := blk_cell FG 8
    have e8 := blk_frozen FG 8
    have g9 := blk_cell FG 9
    have e9 := blk_frozen FG 9
    have g10 := blk_cell FG 10
    have e10 := blk_frozen FG 10
    have z0 := blk_cell FS 0
    have z1 := blk_cell FS 1
    have z2 := blk_cell FS 2
    simp only [List.getElem?_toArray, List.getElem?_cons_zero, List.getElem?_cons_succ] at g8 g9 g10 z0 z1 z2
    have hne : gs ≠ G := by omega
    have HG := Aside0.mk FG
    have HB := Aside0.mk FB
    clear FG FS FB
    go_upto_region 3 with (fail)
    have HG3 := Aside0.mk (blk_put (blk_put (blk_put HG.out 8 (.int .i64 n0) rfl) 9 (.int .i64 n1) rfl) 10 (.bool n2) rfl)
    have HK3 := Aside0.mk (Kept.setCell (p := ⟨G, 10, none⟩) (Kept.setCell (p := ⟨G, 9, none⟩) (Kept.setCell (p := ⟨G, 8, none⟩) (Kept.of_below HB.out (fun k => k = G)) (.inl rfl) (.int .i64 n0)) (.inl rfl) (.int .i64 n1)) (.inl rfl) (.bool n2))
    have HO3 := Aside0.mk (show ((((wc.setCell ⟨G, 8, none⟩ (.int .i64 n0)).setCell ⟨G, 9, none⟩ (.int .i64 n1)).setCell ⟨G, 10, none⟩ (.bool n2)).os = w.os ∧ (((wc.setCell ⟨G, 8, none⟩ (.int .i64 n0)).setCell ⟨G, 9, none⟩ (.int .i64 n1)).setCell ⟨G, 10, none⟩ (.bool n2)).tape = w.tape ∧ (((wc.setCell ⟨G, 8, none⟩ (.int .i64 n0)).setCell ⟨G, 9, none⟩ (.int .i64 n1)).setCell ⟨G, 10, none⟩ (.bool n2)).output = w.output) from ⟨HB.out.os, HB.out.tape, HB.out.output⟩)
    generalize ((wc.setCell _ _).setCell _ _).setCell _ _ = w3 at HG3 HK3 HO3 ⊢
    clear HG HB
    go_wp2
    go_ret
    exact ⟨rfl, HG3.out, HK3.out, HO3.out⟩

end Go.Proofs.Ytefgoffaidjiaaa.PAll
namespace Go.Proofs.Ytefgoffaidjiaaa.PAll
open Go.RowKit Go.Proofs.YtefgoffaidjiaaaW.PrintWords Go.Proofs.YtefgoffaidjiaaaW.PrintLast Go.Proofs.YtefgoffaidjiaaaW.PrintMore
attribute [local go_sem] max2_int min2_int max_two min_two max_three min_three max_four min_four   -- for this text's walks alone
set_option linter.unusedVariables false
set_option linter.unusedSimpArgs false

/-! ### fleet_Step: function 14 -/
def fleet_Step.f (k : Nat) (q0 q1 q2 q3 q4 q5 q6 q7 q8 q9 q10 q11 : Int) (p0 p1 : Int) (l2 : List (S56)) (p3 p4 p5 p6 : Int) (l7 : List (S58)) (s0 s1 : Int) (s2 : Bool) (h0 h1 : Int) (h2 : Bool) (R : Int) (l15 : List Int) (wt ut : Int) (l18 : List (S52)) (demand now : Int) : Option (Int × Int × (List (S56)) × Int × Int × Int × Int × (List (S58)) × Int × Int × Bool × Int × Int × Bool × Int × List Int × Int × Int × (List (S52))) :=
  if l2.length < 8796093022208 ∧ l7.length < 8796093022208 ∧ l15.length < 17592186044416 ∧ l18.length < 8796093022208 then (if (p0 == 0) = true then some (p0, p1, l2, p3, p4, p5, p6, l7, s0, s1, s2, h0, h1, h2, R, l15, wt, ut, l18) else
    (limit_Into.f q0 q1 q2 q3 q4 q5 q6 q7 q8 q9 q10 q11 h0 h1 h2).bind fun b1 => (policy_Next.f k p0 p1 l2 p3 p4 p5 p6 l7 s0 s1 s2 b1.1 ut now).bind fun b2 => (limit_Next.f q0 q1 q2 q3 q4 q5 q6 q7 q8 q9 q10 q11 h0 h1 h2 b2.2.2.2 now).bind fun b3 =>
    (plant_Step.f q0 q1 q2 q3 q4 q5 q6 q7 q8 q9 q10 q11 R l15 wt ut b3.1 demand).bind fun b4 => (score_Add.f q7 l18 b4.2.2.2.2.1 b4.2.2.2.2.2).bind fun b5 =>
      some (p0, p1, l2, p3, p4, p5, p6, l7, b2.1, b2.2.1, b2.2.2.1, b3.1, b3.2.1, b3.2.2, b4.1, b4.2.1, b4.2.2.1, b4.2.2.2.1, b5)) else none
theorem fleet_Step.mono : ∀ a0 a1 a2 a3 a4 a5 a6 a7 a8 a9 a10 a11 a12 a13 a14 a15 a16 a17 a18 a19 a20 a21 a22 a23 a24 a25 a26 a27 a28 a29 a30 a31 a32 k, LeO (fleet_Step.f k a0 a1 a2 a3 a4 a5 a6 a7 a8 a9 a10 a11 a12 a13 a14 a15 a16 a17 a18 a19 a20 a21 a22 a23 a24 a25 a26 a27 a28 a29 a30 a31 a32) (fleet_Step.f (k + 1) a0 a1 a2 a3 a4 a5 a6 a7 a8 a9 a10 a11 a12 a13 a14 a15 a16 a17 a18 a19 a20 a21 a22 a23 a24 a25 a26 a27 a28 a29 a30 a31 a32) := by
  intro a0 a1 a2 a3 a4 a5 a6 a7 a8 a9 a10 a11 a12 a13 a14 a15 a16 a17 a18 a19 a20 a21 a22 a23 a24 a25 a26 a27 a28 a29 a30 a31 a32 k
  unfold fleet_Step.f
  repeat' first
      | (with_reducible exact policy_Next.mono _ _ _ _ _ _ _ _ _ _ _ _ _ _ _)
      | (with_reducible exact LeO.refl _)
      | (with_reducible exact LeO.none _)
      | (with_reducible refine LeO.ite ?_ ?_)
      | (with_reducible refine LeO.bind ?_ (fun _ => ?_))
theorem range_pre {w : World} {g t : Nat} {cs : Array Value} {more : List Value} (h : w.heap[g]? = some (.cells (cs.toList ++ more).toArray t (0, 0))) : w.rangeAt g 0 cs.toList := by
  intro j v hv
  rw [Nat.zero_add, cell_of_row w g j _ t (0, 0) h, List.getElem?_toArray]
  have hj : j < cs.toList.length := by
    by_cases hj : j < cs.toList.length
    · exact hj
    · rw [List.getElem?_eq_none (by omega)] at hv; cases hv
  rw [List.getElem?_append_left hj]; exact hv
theorem load_pre {P : Program} {ops : Array Oper} {rest : List Oper} {op : Oper} {a : Act} {w : World} {Q : Exit → Act → World → Prop} (hgd : op.guard = none) (ty : TypeId) (x : Operand) (ho : op.op = .load ty x)
    (b : Nat) (hx : a.eval x = .pointer (some ⟨b, 0, none⟩)) (cs : Array Value) (d : TypeDesc) (hc : w.rangeAt b 0 cs.toList)
    (hu : P.underlying ty = some d) (hd : d.isRow = true) (hi : (P.info? ty).map (·.size) = some cs.size)
    (h : wpList P ops Q rest (a.put op.dst (.agg cs)) w) : wpList P ops Q (op :: rest) a w :=
  wpList_load_mid hgd ty x ho b 0 hx cs.toList d hc hu hd (by rw [hi, Array.length_toList]) (by have e : cs.toList.toArray = cs := (by simp); rw [e]; exact h)
theorem range_row {w : World} {g t : Nat} {cs : Array Value} (h : w.heap[g]? = some (.cells cs t (0, 0))) : w.rangeAt g 0 cs.toList := range_pre (t := t) (more := []) (by simpa using h)
theorem yields_row {P : Program} {ops : Array Oper} {S : World → Prop} {op : Oper} {a : Act} (hw : Region.wanted op (yielded ops a.tmps) = true) (ty : TypeId) (x : Operand) (ho : op.op = .load ty x)
    (b : Nat) (hx : a.eval x = .pointer (some ⟨b, 0, none⟩)) (cs : Array Value) (d : TypeDesc) (hS : ∀ w, S w → w.rangeAt b 0 cs.toList)
    (hu : P.underlying ty = some d) (hd : d.isRow = true) (hi : (P.info? ty).map (·.size) = some cs.size) : YieldsIf P ops S op (.agg cs) a := by
  have e : cs.toList.toArray = cs := (by simp)
  have z := yieldsIf_load_mid (P := P) (ops := ops) hw ty x ho b 0 hx cs.toList d hS hu hd (by rw [hi, Array.length_toList])
  rwa [e] at z
theorem below_kept {w W W2 : World} {G : Nat} (h : Below w.heap.size w W) (k : Kept W W2 (fun k => k = G)) (hG : w.heap.size ≤ G) (ho : W2.os = W.os ∧ W2.tape = W.tape ∧ W2.output = W.output) : Below w.heap.size w W2 :=
  ⟨ho.1.trans h.os, ho.2.1.trans h.tape, ho.2.2.trans h.output, Nat.le_trans h.size k.1, fun i hi => (k.2 i (Nat.lt_of_lt_of_le hi h.size) (by omega)).trans (h.block i hi)⟩
set_option maxHeartbeats 8000000 in
set_option maxRecDepth 100000 in
theorem fleet_Step.calls (k : Nat) (q0 q1 q2 q3 q4 q5 q6 q7 q8 q9 q10 q11 : Int) (p0 p1 : Int) (E2 : Option Addr) (e2 : Nat) (l2 : List (S56)) (p3 p4 p5 p6 : Int) (E7 : Option Addr) (e7 : Nat) (l7 : List (S58)) (s0 s1 : Int) (s2 : Bool) (h0 h1 : Int) (h2 : Bool) (R : Int) (E15 : Option Addr) (e15 : Nat) (l15 : List Int) (wt ut : Int) (E18 : Option Addr) (e18 : Nat) (l18 : List (S52)) (demand now : Int) (r1 : Int) (r2 : Int) (r3 : List (S56)) (r4 : Int) (r5 : Int) (r6 : Int) (r7 : Int) (r8 : List (S58)) (r9 : Int) (r10 : Int) (r11 : Bool) (r12 : Int) (r13 : Int) (r14 : Bool) (r15 : Int) (r16 : List Int) (r17 : Int) (r18 : Int) (r19 : List (S52)) (w : World) (hr2 : Kd.C k56 w E2 l2.length l2) (hc2 : l2.length ≤ e2) (hr7 : Kd.C k58 w E7 l7.length l7) (hc7 : l7.length ≤ e7) (hr15 : Kd.C (Kd.int .i64) w E15 l15.length l15) (hc15 : l15.length ≤ e15) (hr18 : Kd.C k52 w E18 l18.length l18) (hc18 : l18.length ≤ e18) (h : fleet_Step.f k q0 q1 q2 q3 q4 q5 q6 q7 q8 q9 q10 q11 p0 p1 l2 p3 p4 p5 p6 l7 s0 s1 s2 h0 h1 h2 R l15 wt ut l18 demand now = some (r1, r2, r3, r4, r5, r6, r7, r8, r9, r10, r11, r12, r13, r14, r15, r16, r17, r18, r19)) :
    Calls Try.prog 14 #[.agg #[.int .i64 q0, .int .i64 q1, .int .i64 q2, .int .i64 q3, .int .i64 q4, .int .i64 q5, .int .i64 q6, .int .i64 q7, .int .i64 q8, .int .i64 q9, .int .i64 q10, .int .i64 q11], .agg #[.int .i64 p0, .int .i64 p1, .slice E2 l2.length e2, .int .i64 p3, .int .i64 p4, .int .i64 p5, .int .i64 p6, .slice E7 l7.length e7, .int .i64 s0, .int .i64 s1, .bool s2, .int .i64 h0, .int .i64 h1, .bool h2, .int .i64 R, .slice E15 l15.length e15, .int .i64 wt, .int .i64 ut, .slice E18 l18.length e18], .int .i64 demand, .int .i64 now] w fun e w' => ∃ v2_ v7_ v15_ v18_ : Value, e = .returned (.agg #[.int .i64 r1, .int .i64 r2, v2_, .int .i64 r4, .int .i64 r5, .int .i64 r6, .int .i64 r7, v7_, .int .i64 r9, .int .i64 r10, .bool r11, .int .i64 r12, .int .i64 r13, .bool r14, .int .i64 r15, v15_, .int .i64 r17, .int .i64 r18, v18_]) ∧ Kd.R k56 56 w' w.heap.size (fun _ => True) v2_ r3 ∧ Kd.R k58 58 w' w.heap.size (fun _ => True) v7_ r8 ∧ Kd.Q (Kd.int .i64) 3 w' w.heap.size (fun _ => True) v15_ r16 ∧ Kd.Q k52 52 w' w.heap.size (fun _ => True) v18_ r19 ∧ Below w.heap.size w w' := by
  have hu0 := Try.underlying69
  have hu1 := Try.underlying37
  have hu2 := Try.underlying27
  have hu3 := Try.underlying29
  have hu4 := Try.underlying23
  have hu5 := Try.underlying31
  have hu6 := Try.underlying34
  have hu7 := Try.underlying52
  unfold fleet_Step.f at h
  by_cases hD : l2.length < 8796093022208 ∧ l7.length < 8796093022208 ∧ l15.length < 17592186044416 ∧ l18.length < 8796093022208
  rotate_left
  · rw [if_neg hD] at h; cases h
  rw [if_pos hD] at h
  have HO := Aside0.mk (show fleet_Own.f p0 p1 l2 p3 p4 p5 p6 l7 s0 s1 s2 h0 h1 h2 R l15 wt ut l18 = some (p0, p1, l2, p3, p4, p5, p6, l7, s0, s1, s2, h0, h1, h2, R, l15, wt, ut, l18) by unfold fleet_Own.f; rw [if_pos hD])
  have HH := Aside0.mk h
  clear h hD
  have HC2 := Aside0.mk hc2
  clear hc2
  have HC7 := Aside0.mk hc7
  clear hc7
  have HC15 := Aside0.mk hc15
  clear hc15
  have HC18 := Aside0.mk hc18
  clear hc18
  go_enter Try.func14, Try.ntmps14
  go_upto_region 1 with (fail)
  obtain ⟨FB, FC, FX, FR⟩ : Below w.heap.size w (((w.alloc (.cells #[.int .i64 q0, .int .i64 q1, .int .i64 q2, .int .i64 q3, .int .i64 q4, .int .i64 q5, .int .i64 q6, .int .i64 q7, .int .i64 q8, .int .i64 q9, .int .i64 q10, .int .i64 q11] 23)).alloc (.cells #[.int .i64 p0, .int .i64 p1, .slice E2 l2.length e2, .int .i64 p3, .int .i64 p4, .int .i64 p5, .int .i64 p6, .slice E7 l7.length e7, .int .i64 s0, .int .i64 s1, .bool s2, .int .i64 h0, .int .i64 h1, .bool h2, .int .i64 R, .slice E15 l15.length e15, .int .i64 wt, .int .i64 ut, .slice E18 l18.length e18] 37)).alloc (.cells #[.int .i64 0, .int .i64 0, .slice none 0 0, .int .i64 0, .int .i64 0, .int .i64 0, .int .i64 0, .slice none 0 0, .int .i64 0, .int .i64 0, .bool false, .int .i64 0, .int .i64 0, .bool false, .int .i64 0, .slice none 0 0, .int .i64 0, .int .i64 0, .slice none 0 0] 37)) ∧ (((w.alloc (.cells #[.int .i64 q0, .int .i64 q1, .int .i64 q2, .int .i64 q3, .int .i64 q4, .int .i64 q5, .int .i64 q6, .int .i64 q7, .int .i64 q8, .int .i64 q9, .int .i64 q10, .int .i64 q11] 23)).alloc (.cells #[.int .i64 p0, .int .i64 p1, .slice E2 l2.length e2, .int .i64 p3, .int .i64 p4, .int .i64 p5, .int .i64 p6, .slice E7 l7.length e7, .int .i64 s0, .int .i64 s1, .bool s2, .int .i64 h0, .int .i64 h1, .bool h2, .int .i64 R, .slice E15 l15.length e15, .int .i64 wt, .int .i64 ut, .slice E18 l18.length e18] 37)).alloc (.cells #[.int .i64 0, .int .i64 0, .slice none 0 0, .int .i64 0, .int .i64 0, .int .i64 0, .int .i64 0, .slice none 0 0, .int .i64 0, .int .i64 0, .bool false, .int .i64 0, .int .i64 0, .bool false, .int .i64 0, .slice none 0 0, .int .i64 0, .int .i64 0, .slice none 0 0] 37)).heap[w.heap.size]? = some (.cells #[.int .i64 q0, .int .i64 q1, .int .i64 q2, .int .i64 q3, .int .i64 q4, .int .i64 q5, .int .i64 q6, .int .i64 q7, .int .i64 q8, .int .i64 q9, .int .i64 q10, .int .i64 q11] 23 (0, 0)) ∧ (((w.alloc (.cells #[.int .i64 q0, .int .i64 q1, .int .i64 q2, .int .i64 q3, .int .i64 q4, .int .i64 q5, .int .i64 q6, .int .i64 q7, .int .i64 q8, .int .i64 q9, .int .i64 q10, .int .i64 q11] 23)).alloc (.cells #[.int .i64 p0, .int .i64 p1, .slice E2 l2.length e2, .int .i64 p3, .int .i64 p4, .int .i64 p5, .int .i64 p6, .slice E7 l7.length e7, .int .i64 s0, .int .i64 s1, .bool s2, .int .i64 h0, .int .i64 h1, .bool h2, .int .i64 R, .slice E15 l15.length e15, .int .i64 wt, .int .i64 ut, .slice E18 l18.length e18] 37)).alloc (.cells #[.int .i64 0, .int .i64 0, .slice none 0 0, .int .i64 0, .int .i64 0, .int .i64 0, .int .i64 0, .slice none 0 0, .int .i64 0, .int .i64 0, .bool false, .int .i64 0, .int .i64 0, .bool false, .int .i64 0, .slice none 0 0, .int .i64 0, .int .i64 0, .slice none 0 0] 37)).heap[(w.heap.size + 1)]? = some (.cells #[.int .i64 p0, .int .i64 p1, .slice E2 l2.length e2, .int .i64 p3, .int .i64 p4, .int .i64 p5, .int .i64 p6, .slice E7 l7.length e7, .int .i64 s0, .int .i64 s1, .bool s2, .int .i64 h0, .int .i64 h1, .bool h2, .int .i64 R, .slice E15 l15.length e15, .int .i64 wt, .int .i64 ut, .slice E18 l18.length e18] 37 (0, 0)) ∧ (((w.alloc (.cells #[.int .i64 q0, .int .i64 q1, .int .i64 q2, .int .i64 q3, .int .i64 q4, .int .i64 q5, .int .i64 q6, .int .i64 q7, .int .i64 q8, .int .i64 q9, .int .i64 q10, .int .i64 q11] 23)).alloc (.cells #[.int .i64 p0, .int .i64 p1, .slice E2 l2.length e2, .int .i64 p3, .int .i64 p4, .int .i64 p5, .int .i64 p6, .slice E7 l7.length e7, .int .i64 s0, .int .i64 s1, .bool s2, .int .i64 h0, .int .i64 h1, .bool h2, .int .i64 R, .slice E15 l15.length e15, .int .i64 wt, .int .i64 ut, .slice E18 l18.length e18] 37)).alloc (.cells #[.int .i64 0, .int .i64 0, .slice none 0 0, .int .i64 0, .int .i64 0, .int .i64 0, .int .i64 0, .slice none 0 0, .int .i64 0, .int .i64 0, .bool false, .int .i64 0, .int .i64 0, .bool false, .int .i64 0, .slice none 0 0, .int .i64 0, .int .i64 0, .slice none 0 0] 37)).heap[(w.heap.size + 2)]? = some (.cells #[.int .i64 0, .int .i64 0, .slice none 0 0, .int .i64 0, .int .i64 0, .int .i64 0, .int .i64 0, .slice none 0 0, .int .i64 0, .int .i64 0, .bool false, .int .i64 0, .int .i64 0, .bool false, .int .i64 0, .slice none 0 0, .int .i64 0, .int .i64 0, .slice none 0 0] 37 (0, 0)) := by
    have z1 := blk_new (w.alloc (.cells #[.int .i64 q0, .int .i64 q1, .int .i64 q2, .int .i64 q3, .int .i64 q4, .int .i64 q5, .int .i64 q6, .int .i64 q7, .int .i64 q8, .int .i64 q9, .int .i64 q10, .int .i64 q11] 23)) (.cells #[.int .i64 p0, .int .i64 p1, .slice E2 l2.length e2, .int .i64 p3, .int .i64 p4, .int .i64 p5, .int .i64 p6, .slice E7 l7.length e7, .int .i64 s0, .int .i64 s1, .bool s2, .int .i64 h0, .int .i64 h1, .bool h2, .int .i64 R, .slice E15 l15.length e15, .int .i64 wt, .int .i64 ut, .slice E18 l18.length e18] 37)
    rw [World.size_alloc] at z1
    have z2 := blk_new ((w.alloc (.cells #[.int .i64 q0, .int .i64 q1, .int .i64 q2, .int .i64 q3, .int .i64 q4, .int .i64 q5, .int .i64 q6, .int .i64 q7, .int .i64 q8, .int .i64 q9, .int .i64 q10, .int .i64 q11] 23)).alloc (.cells #[.int .i64 p0, .int .i64 p1, .slice E2 l2.length e2, .int .i64 p3, .int .i64 p4, .int .i64 p5, .int .i64 p6, .slice E7 l7.length e7, .int .i64 s0, .int .i64 s1, .bool s2, .int .i64 h0, .int .i64 h1, .bool h2, .int .i64 R, .slice E15 l15.length e15, .int .i64 wt, .int .i64 ut, .slice E18 l18.length e18] 37)) (.cells #[.int .i64 0, .int .i64 0, .slice none 0 0, .int .i64 0, .int .i64 0, .int .i64 0, .int .i64 0, .slice none 0 0, .int .i64 0, .int .i64 0, .bool false, .int .i64 0, .int .i64 0, .bool false, .int .i64 0, .slice none 0 0, .int .i64 0, .int .i64 0, .slice none 0 0] 37)
    rw [World.size_alloc, World.size_alloc] at z2
    exact ⟨below_alloc (below_alloc (below_alloc (Below.refl _ _) _) _) _, blk_alloc (blk_alloc (blk_new w _) _) _, blk_alloc z1 _, z2⟩
  replace hr2 := Kd.C_below hr2 (below_alloc (below_alloc (below_alloc (Below.refl _ _) (.cells #[.int .i64 q0, .int .i64 q1, .int .i64 q2, .int .i64 q3, .int .i64 q4, .int .i64 q5, .int .i64 q6, .int .i64 q7, .int .i64 q8, .int .i64 q9, .int .i64 q10, .int .i64 q11] 23)) (.cells #[.int .i64 p0, .int .i64 p1, .slice E2 l2.length e2, .int .i64 p3, .int .i64 p4, .int .i64 p5, .int .i64 p6, .slice E7 l7.length e7, .int .i64 s0, .int .i64 s1, .bool s2, .int .i64 h0, .int .i64 h1, .bool h2, .int .i64 R, .slice E15 l15.length e15, .int .i64 wt, .int .i64 ut, .slice E18 l18.length e18] 37)) (.cells #[.int .i64 0, .int .i64 0, .slice none 0 0, .int .i64 0, .int .i64 0, .int .i64 0, .int .i64 0, .slice none 0 0, .int .i64 0, .int .i64 0, .bool false, .int .i64 0, .int .i64 0, .bool false, .int .i64 0, .slice none 0 0, .int .i64 0, .int .i64 0, .slice none 0 0] 37))
  replace hr7 := Kd.C_below hr7 (below_alloc (below_alloc (below_alloc (Below.refl _ _) (.cells #[.int .i64 q0, .int .i64 q1, .int .i64 q2, .int .i64 q3, .int .i64 q4, .int .i64 q5, .int .i64 q6, .int .i64 q7, .int .i64 q8, .int .i64 q9, .int .i64 q10, .int .i64 q11] 23)) (.cells #[.int .i64 p0, .int .i64 p1, .slice E2 l2.length e2, .int .i64 p3, .int .i64 p4, .int .i64 p5, .int .i64 p6, .slice E7 l7.length e7, .int .i64 s0, .int .i64 s1, .bool s2, .int .i64 h0, .int .i64 h1, .bool h2, .int .i64 R, .slice E15 l15.length e15, .int .i64 wt, .int .i64 ut, .slice E18 l18.length e18] 37)) (.cells #[.int .i64 0, .int .i64 0, .slice none 0 0, .int .i64 0, .int .i64 0, .int .i64 0, .int .i64 0, .slice none 0 0, .int .i64 0, .int .i64 0, .bool false, .int .i64 0, .int .i64 0, .bool false, .int .i64 0, .slice none 0 0, .int .i64 0, .int .i64 0, .slice none 0 0] 37))
  replace hr15 := Kd.C_below hr15 (below_alloc (below_alloc (below_alloc (Below.refl _ _) (.cells #[.int .i64 q0, .int .i64 q1, .int .i64 q2, .int .i64 q3, .int .i64 q4, .int .i64 q5, .int .i64 q6, .int .i64 q7, .int .i64 q8, .int .i64 q9, .int .i64 q10, .int .i64 q11] 23)) (.cells #[.int .i64 p0, .int .i64 p1, .slice E2 l2.length e2, .int .i64 p3, .int .i64 p4, .int .i64 p5, .int .i64 p6, .slice E7 l7.length e7, .int .i64 s0, .int .i64 s1, .bool s2, .int .i64 h0, .int .i64 h1, .bool h2, .int .i64 R, .slice E15 l15.length e15, .int .i64 wt, .int .i64 ut, .slice E18 l18.length e18] 37)) (.cells #[.int .i64 0, .int .i64 0, .slice none 0 0, .int .i64 0, .int .i64 0, .int .i64 0, .int .i64 0, .slice none 0 0, .int .i64 0, .int .i64 0, .bool false, .int .i64 0, .int .i64 0, .bool false, .int .i64 0, .slice none 0 0, .int .i64 0, .int .i64 0, .slice none 0 0] 37))
  replace hr18 := Kd.C_below hr18 (below_alloc (below_alloc (below_alloc (Below.refl _ _) (.cells #[.int .i64 q0, .int .i64 q1, .int .i64 q2, .int .i64 q3, .int .i64 q4, .int .i64 q5, .int .i64 q6, .int .i64 q7, .int .i64 q8, .int .i64 q9, .int .i64 q10, .int .i64 q11] 23)) (.cells #[.int .i64 p0, .int .i64 p1, .slice E2 l2.length e2, .int .i64 p3, .int .i64 p4, .int .i64 p5, .int .i64 p6, .slice E7 l7.length e7, .int .i64 s0, .int .i64 s1, .bool s2, .int .i64 h0, .int .i64 h1, .bool h2, .int .i64 R, .slice E15 l15.length e15, .int .i64 wt, .int .i64 ut, .slice E18 l18.length e18] 37)) (.cells #[.int .i64 0, .int .i64 0, .slice none 0 0, .int .i64 0, .int .i64 0, .int .i64 0, .int .i64 0, .slice none 0 0, .int .i64 0, .int .i64 0, .bool false, .int .i64 0, .int .i64 0, .bool false, .int .i64 0, .slice none 0 0, .int .i64 0, .int .i64 0, .slice none 0 0] 37))
  generalize ((w.alloc _).alloc _).alloc _ = W0 at FB FC FX FR hr2 hr7 hr15 hr18 ⊢
  obtain ⟨ca, hca⟩ : ∃ ca : Array Value, ca = #[.int .i64 p0, .int .i64 p1, .slice E2 l2.length e2, .int .i64 p3, .int .i64 p4, .int .i64 p5, .int .i64 p6, .slice E7 l7.length e7, .int .i64 s0, .int .i64 s1, .bool s2, .int .i64 h0, .int .i64 h1, .bool h2, .int .i64 R, .slice E15 l15.length e15, .int .i64 wt, .int .i64 ut, .slice E18 l18.length e18] := ⟨_, rfl⟩
  rw [← hca] at FX
  have hcz : ca.size = 19 := by rw [hca]; rfl
  have hci : (Try.prog.info? 37).map (·.size) = some ca.size := by rw [hcz]; kernel_rfl
  have HCA := Aside0.mk hca
  have HCI := Aside0.mk hci
  clear hca hcz hci
  go_cut [9] (fun x9 wx => ∃ (G : Nat) (A2 : Option Addr) (c2 : Nat) (A7 : Option Addr) (c7 : Nat) (A15 : Option Addr) (c15 : Nat) (A18 : Option Addr) (c18 : Nat), x9 = .pointer (some ⟨G, 0, none⟩) ∧ wx.heap[G]? = some (.cells #[.int .i64 p0, .int .i64 p1, .slice A2 l2.length c2, .int .i64 p3, .int .i64 p4, .int .i64 p5, .int .i64 p6, .slice A7 l7.length c7, .int .i64 s0, .int .i64 s1, .bool s2, .int .i64 h0, .int .i64 h1, .bool h2, .int .i64 R, .slice A15 l15.length c15, .int .i64 wt, .int .i64 ut, .slice A18 l18.length c18, .int .i64 q0, .int .i64 q1, .int .i64 q2, .int .i64 q3, .int .i64 q4, .int .i64 q5, .int .i64 q6, .int .i64 q7, .int .i64 q8, .int .i64 q9, .int .i64 q10, .int .i64 q11, .int .i64 now] 69 (0, 0)) ∧ wx.heap[(w.heap.size + 1)]? = some (.cells #[.int .i64 p0, .int .i64 p1, .slice E2 l2.length e2, .int .i64 p3, .int .i64 p4, .int .i64 p5, .int .i64 p6, .slice E7 l7.length e7, .int .i64 s0, .int .i64 s1, .bool s2, .int .i64 h0, .int .i64 h1, .bool h2, .int .i64 R, .slice E15 l15.length e15, .int .i64 wt, .int .i64 ut, .slice E18 l18.length e18] 37 (0, 0)) ∧ wx.heap[(w.heap.size + 2)]? = some (.cells #[.int .i64 0, .int .i64 0, .slice none 0 0, .int .i64 0, .int .i64 0, .int .i64 0, .int .i64 0, .slice none 0 0, .int .i64 0, .int .i64 0, .bool false, .int .i64 0, .int .i64 0, .bool false, .int .i64 0, .slice none 0 0, .int .i64 0, .int .i64 0, .slice none 0 0] 37 (0, 0)) ∧ Kd.R k56 56 wx w.heap.size (fun _ => True) (.slice A2 l2.length c2) l2 ∧ Kd.R k58 58 wx w.heap.size (fun _ => True) (.slice A7 l7.length c7) l7 ∧ Kd.R (Kd.int .i64) 3 wx w.heap.size (fun _ => True) (.slice A15 l15.length c15) l15 ∧ Kd.R k52 52 wx w.heap.size (fun _ => True) (.slice A18 l18.length c18) l18 ∧ Kd.C k56 wx E2 l2.length l2 ∧ Kd.C k58 wx E7 l7.length l7 ∧ w.heap.size + 2 < G ∧ Below w.heap.size w wx)
  case first =>
    refine start_ (n := 7) (S := fun w' => w'.heap[(w.heap.size + 1)]? = some (.cells ca 37 (0, 0)) ∧ w'.heap[w.heap.size]? = some (.cells #[.int .i64 q0, .int .i64 q1, .int .i64 q2, .int .i64 q3, .int .i64 q4, .int .i64 q5, .int .i64 q6, .int .i64 q7, .int .i64 q8, .int .i64 q9, .int .i64 q10, .int .i64 q11] 23 (0, 0))) (ds := []) #[false, false, false, false, false, false, false] (by kernel_rfl) rfl rfl ⟨FX, FC⟩ (fun hHeld => ?_)
    replace FB := below_step FB (below_drew1 (Below.refl _ _))
    replace FC := blk_below FC (below_drew1 (Below.refl _ _))
    replace FX := blk_below FX (below_drew1 (Below.refl _ _))
    replace FR := blk_below FR (below_drew1 (Below.refl _ _))
    replace hr2 := Kd.C_below hr2 (below_drew1 (Below.refl _ _))
    replace hr7 := Kd.C_below hr7 (below_drew1 (Below.refl _ _))
    replace hr15 := Kd.C_below hr15 (below_drew1 (Below.refl _ _))
    replace hr18 := Kd.C_below hr18 (below_drew1 (Below.refl _ _))
    generalize W0.drew = w9 at FB FC FX FR hr2 hr7 hr15 hr18 hHeld ⊢
    refine take_ (i := 0) (N := some 10) (v := .agg ca) (a' := ?_) #[true, false, false, false, false, false, false] rfl rfl (by kernel_rfl) (fun _ _ _ h => h) (yields_row (by rfl) 37 (.tmp 5) rfl (w.heap.size + 1) rfl ca _ (fun w' hS => range_row hS.1) hu1 rfl HCI.out) hHeld ?_ ?_
    rotate_left
    · simp only [Act.put, List.setIfInBounds_toArray, List.set_cons_zero, List.set_cons_succ, i64_w, i32_w]
      rfl
    refine take_ (i := 2) (N := some 12) (v := ?_) (a' := ?_) #[true, false, true, false, false, false, false] rfl rfl (by kernel_rfl) (fun _ _ _ h => h) (Or.inl ⟨by rfl, ?_⟩) hHeld ?_ ?_
    rotate_left
    · intro w' hS
      have s0 := blk_cell hS.2 0
      have s1 := blk_cell hS.2 1
      have s2 := blk_cell hS.2 2
      have s3 := blk_cell hS.2 3
      have s4 := blk_cell hS.2 4
      have s5 := blk_cell hS.2 5
      have s6 := blk_cell hS.2 6
      have s7 := blk_cell hS.2 7
      have s8 := blk_cell hS.2 8
      have s9 := blk_cell hS.2 9
      have s10 := blk_cell hS.2 10
      have s11 := blk_cell hS.2 11
      simp only [List.getElem?_toArray, List.getElem?_cons_zero, List.getElem?_cons_succ] at s0 s1 s2 s3 s4 s5 s6 s7 s8 s9 s10 s11
      clear hS
      go_simp
      with_reducible rfl
    rotate_left
    · simp only [Act.put, List.setIfInBounds_toArray, List.set_cons_zero, List.set_cons_succ, i64_w, i32_w]
      rfl
    refine pure_ (i := 3) (N := some 13) (v := ?_) (a' := ?_) #[true, false, true, true, false, false, false] rfl rfl (by kernel_rfl) (fun _ _ _ h => h) (Or.inl ⟨by rfl, ?_⟩) ?_ ?_
    rotate_left
    · intro w'
      go_simp
      with_reducible rfl
    rotate_left
    · simp only [Act.put, List.setIfInBounds_toArray, List.set_cons_zero, List.set_cons_succ, i64_w, i32_w]
      rfl
    refine one_ (i := 1) (N := some 11) #[true, true, true, true, false, false, false] rfl rfl (by kernel_rfl) (by decide) (fun K hK => ?_)
    rw [HCA.out]
    refine goes_ Try.func18 (by kernel_rfl) rfl #[.agg #[.int .i64 p0, .int .i64 p1, .slice E2 l2.length e2, .int .i64 p3, .int .i64 p4, .int .i64 p5, .int .i64 p6, .slice E7 l7.length e7, .int .i64 s0, .int .i64 s1, .bool s2, .int .i64 h0, .int .i64 h1, .bool h2, .int .i64 R, .slice E15 l15.length e15, .int .i64 wt, .int .i64 ut, .slice E18 l18.length e18]] (by rfl) rfl rfl (by (try simp only [List.map_toArray, List.map_cons, List.map_nil]); first | done | rfl) ?_
    refine (fleet_Own.calls _ _ _ _ _ _ _ _ _ _ _ _ _ _ _ _ _ _ _ _ _ _ _ _ _ _ _ _ _ _ _ _ _ _ _ _ _ _ _ _ _ _ _ _ _ _ _ hr2 HC2.out hr7 HC7.out hr15 HC15.out hr18 HC18.out HO.out).mono ?_
    rintro e_ w1 ⟨v2, v7, v15, v18, rfl, r2, r3, r4, r5, hb6⟩
    refine ⟨_, rfl, ?_⟩
    have f7 := blk_below FX hb6
    have f8 := blk_below FC hb6
    have f9 := blk_below FR hb6
    have f10 := Kd.C_below hr2 hb6
    have f11 := Kd.C_below hr7 hb6
    have f12 := Kd.C_below hr15 hb6
    have f13 := Kd.C_below hr18 hb6
    have b14 := below_step FB hb6
    replace r2 := Kd.R_lower r2 FB.size
    obtain ⟨A2, c2, rfl⟩ := Kd.R_slice r2
    replace r3 := Kd.R_lower r3 FB.size
    obtain ⟨A7, c7, rfl⟩ := Kd.R_slice r3
    replace r4 := Kd.R_lower r4 FB.size
    obtain ⟨A15, c15, rfl⟩ := Kd.R_slice r4
    replace r5 := Kd.R_lower r5 FB.size
    obtain ⟨A18, c18, rfl⟩ := Kd.R_slice r5
    refine hK.out _ _ ⟨f7, f8⟩ (fun hHeld => ?_)
    clear hK K
    refine norm_ (a' := ?_) ?_ ?_
    rotate_left
    · show Act.put _ (some 11) _ = _
      simp only [Act.put, List.setIfInBounds_toArray, List.set_cons_zero, List.set_cons_succ, i64_w, i32_w]
      rfl
    refine pure_ (i := 4) (N := some 14) (v := ?_) (a' := ?_) #[true, true, true, true, true, false, false] rfl rfl (by kernel_rfl) (fun _ _ _ h => h) (Or.inl ⟨by rfl, ?_⟩) ?_ ?_
    rotate_left
    · intro w'
      go_simp
      with_reducible rfl
    rotate_left
    · simp only [Act.put, List.setIfInBounds_toArray, List.set_cons_zero, List.set_cons_succ, i64_w, i32_w]
      rfl
    refine one_ (i := 5) (N := some 15) #[true, true, true, true, true, true, false] rfl rfl (by kernel_rfl) (by decide) (fun K hK => ?_)
    refine box_step ?hg (N := 15) ?hd (cs := #[.int .i64 p0, .int .i64 p1, .slice A2 l2.length c2, .int .i64 p3, .int .i64 p4, .int .i64 p5, .int .i64 p6, .slice A7 l7.length c7, .int .i64 s0, .int .i64 s1, .bool s2, .int .i64 h0, .int .i64 h1, .bool h2, .int .i64 R, .slice A15 l15.length c15, .int .i64 wt, .int .i64 ut, .slice A18 l18.length c18, .int .i64 q0, .int .i64 q1, .int .i64 q2, .int .i64 q3, .int .i64 q4, .int .i64 q5, .int .i64 q6, .int .i64 q7, .int .i64 q8, .int .i64 q9, .int .i64 q10, .int .i64 q11, .int .i64 now]) (t := 69) ?hr ?_; (case hd => rfl); (case hg => rfl); (case hr => first | (go_simp; done) | (go_simp; rfl))
    intro gG e18 w15 h17 hb16
    have lt_wheapsize1_gG : (w.heap.size + 1) < gG := by rw [e18]; exact blk_lt f7
    have lt_wheapsize_gG : w.heap.size < gG := by rw [e18]; exact blk_lt f8
    have lt_wheapsize2_gG : (w.heap.size + 2) < gG := by rw [e18]; exact blk_lt f9
    have ge_gG : w.heap.size ≤ gG := by rw [e18]; exact b14.size
    clear e18
    have f19 := blk_below f7 hb16
    have f20 := blk_below f8 hb16
    have f21 := blk_below f9 hb16
    have f22 := Kd.C_below f10 hb16
    have f23 := Kd.C_below f11 hb16
    have f24 := Kd.C_below f12 hb16
    have f25 := Kd.C_below f13 hb16
    have f26 := Kd.R_below r2 hb16
    have f27 := Kd.R_below r3 hb16
    have f28 := Kd.R_below r4 hb16
    have f29 := Kd.R_below r5 hb16
    have b30 := below_step b14 hb16
    refine hK.out _ _ ⟨f19, f20⟩ (fun hHeld => ?_)
    clear hK K
    refine norm_ (a' := ?_) ?_ ?_
    rotate_left
    · show Act.put _ (some 15) _ = _
      simp only [Act.put, List.setIfInBounds_toArray, List.set_cons_zero, List.set_cons_succ, i64_w, i32_w]
      rfl
    refine pure_ (i := 6) (N := some 9) (v := ?_) (a' := ?_) #[true, true, true, true, true, true, true] rfl rfl (by kernel_rfl) (fun _ _ _ h => h) (Or.inl ⟨by rfl, ?_⟩) ?_ ?_
    rotate_left
    · intro w'
      go_simp
      with_reducible rfl
    rotate_left
    · simp only [Act.put, List.setIfInBounds_toArray, List.set_cons_zero, List.set_cons_succ, i64_w, i32_w]
      rfl
    refine done_ (by kernel_rfl) ?_
    rw [HCA.out] at f19
    (try go_wp2)
    go_meet
    exact ⟨gG, _, _, _, _, _, _, _, _, rfl, h17, f19, f21, f26, f27, f28, f29, f22, f23, by omega, b30⟩
  case rest =>
    obtain ⟨G, A2, c2, A7, c7, A15, c15, A18, c18, rfl, FG, FX, FR, U2, U7, U15, U18, T2, T7, hlt, FB⟩ := hcut
    try clear FC hr2 hr7 hr15 hr18 HCA HCI
    clear HO
    have z0 := blk_cell FX 0
    have z1 := blk_cell FX 1
    have z2 := blk_cell FX 2
    have z3 := blk_cell FX 3
    have z4 := blk_cell FX 4
    have z5 := blk_cell FX 5
    have z6 := blk_cell FX 6
    have z7 := blk_cell FX 7
    simp only [List.getElem?_toArray, List.getElem?_cons_zero, List.getElem?_cons_succ] at z0 z1 z2 z3 z4 z5 z6 z7
    have HFG := Aside0.mk FG
    clear FG
    have HFR := Aside0.mk FR
    clear FR
    have HU2 := Aside0.mk U2
    clear U2
    have HU7 := Aside0.mk U7
    clear U7
    have HU15 := Aside0.mk U15
    clear U15
    have HU18 := Aside0.mk U18
    clear U18
    have HT2 := Aside0.mk T2
    clear T2
    have HT7 := Aside0.mk T7
    clear T7
    have HFB := Aside0.mk FB
    clear FB
    clear FX
    by_cases hz : (p0 == 0) = true
    · have h := HH.out
      rw [if_pos hz] at h
      simp only [Option.some.injEq, Prod.mk.injEq] at h
      obtain ⟨rfl, rfl, rfl, rfl, rfl, rfl, rfl, rfl, rfl, rfl, rfl, rfl, rfl, rfl, rfl, rfl, rfl, rfl, rfl⟩ := h
      have HZ := Aside0.mk hz
      clear hz HH
      go_upto_region 4 with ((go_at_call 28; refine (policy_Zero.calls p0 p1 E2 e2 l2 p3 p4 p5 p6 E7 e7 l7 true _ HT2.out HC2.out HT7.out HC7.out (by unfold policy_Zero.f; rw [HZ.out])).mono ?_; rintro e_ w1 ⟨rfl, hb⟩; have HB1 := Aside0.mk hb; clear hb))
      have HG1 := Aside0.mk (blk_below HFG.out HB1.out)
      have HR1 := Aside0.mk (blk_below HFR.out HB1.out)
      have HD1 := Aside0.mk (below_step HFB.out HB1.out)
      have HV2 := Aside0.mk (Kd.R_below HU2.out HB1.out)
      have HV7 := Aside0.mk (Kd.R_below HU7.out HB1.out)
      have HV15 := Aside0.mk (Kd.R_below HU15.out HB1.out)
      have HV18 := Aside0.mk (Kd.R_below HU18.out HB1.out)
      clear HFG HFR HFB HU2 HU7 HU15 HU18 HT2 HT7 HB1 z0 z1 z2 z3 z4 z5 z6 z7
      obtain ⟨cs, hcs⟩ : ∃ cs : Array Value, cs = #[.int .i64 p0, .int .i64 p1, .slice A2 l2.length c2, .int .i64 p3, .int .i64 p4, .int .i64 p5, .int .i64 p6, .slice A7 l7.length c7, .int .i64 s0, .int .i64 s1, .bool s2, .int .i64 h0, .int .i64 h1, .bool h2, .int .i64 R, .slice A15 l15.length c15, .int .i64 wt, .int .i64 ut, .slice A18 l18.length c18] := ⟨_, rfl⟩
      have hsz : cs.size = 19 := by rw [hcs]; rfl
      have hinfo : (Try.prog.info? 37).map (·.size) = some cs.size := by rw [hsz]; kernel_rfl
      have h1c : ∀ v ∈ cs.toList, v.oneCell' = true := by rw [hcs]; intro v hv; simp only [List.mem_cons, List.not_mem_nil, or_false] at hv; rcases hv with rfl | rfl | rfl | rfl | rfl | rfl | rfl | rfl | rfl | rfl | rfl | rfl | rfl | rfl | rfl | rfl | rfl | rfl | rfl <;> rfl
      have hrg : w1.rangeAt G 0 cs.toList := range_pre (t := 69) (more := [.int .i64 q0, .int .i64 q1, .int .i64 q2, .int .i64 q3, .int .i64 q4, .int .i64 q5, .int .i64 q6, .int .i64 q7, .int .i64 q8, .int .i64 q9, .int .i64 q10, .int .i64 q11, .int .i64 now]) (by rw [hcs]; exact HG1.out)
      have cp := cp_row (P := Try.prog) HR1.out (by rw [hsz]; rfl) h1c
      have hst := cp.1
      have HCP := Aside0.mk cp.2.1
      have HI := Aside0.mk hinfo
      have HCS := Aside0.mk hcs
      have HRG := Aside0.mk hrg
      clear cp hinfo hcs h1c hrg
      have hne : G ≠ w.heap.size + 2 := by omega
      go_wp2_with ((with_reducible refine gate_dst (N := 28) rfl ?_); refine load_pre rfl 37 (.tmp 27) rfl G rfl cs _ HRG.out hu1 rfl HI.out ?_)
      have hB := Aside0.mk (below_cells (g := w.heap.size + 2) (vs := cs.toList) HD1.out (by omega))
      have V2 := Aside0.mk (Kd.R_cells (vs := cs.toList) HV2.out HR1.out (by decide))
      have V7 := Aside0.mk (Kd.R_cells (vs := cs.toList) HV7.out HR1.out (by decide))
      have V15 := Aside0.mk (Kd.R_cells (vs := cs.toList) HV15.out HR1.out (by decide))
      have V18 := Aside0.mk (Kd.R_cells (vs := cs.toList) HV18.out HR1.out (by decide))
      generalize w1.setCells _ _ _ = W5 at HCP hB V2 V7 V15 V18 ⊢
      refine bodyPost_ret (results_cell_row rfl _ _ (w.heap.size + 2) 37 cs (0, 0) _ rfl HCP.out hu1 rfl HI.out) rfl ?_
      exact ⟨_, _, _, _, by rw [HCS.out], V2.out, V7.out, Kd.Q_of_R V15.out, Kd.Q_of_R V18.out, hB.out⟩
    · have h := HH.out
      rw [if_neg hz] at h
      obtain ⟨⟨cur, la, gr⟩, hI, h⟩ := Option.bind_eq_some_iff.1 h
      obtain ⟨⟨n0, n1, n2, n⟩, hN, h⟩ := Option.bind_eq_some_iff.1 h
      obtain ⟨⟨k0, k1, k2⟩, hL, h⟩ := Option.bind_eq_some_iff.1 h
      obtain ⟨⟨R', l15', wt', ut', cost, bad⟩, hP, h⟩ := Option.bind_eq_some_iff.1 h
      obtain ⟨l18', hA, h⟩ := Option.bind_eq_some_iff.1 h
      simp only [Option.some.injEq, Prod.mk.injEq] at h
      obtain ⟨rfl, rfl, rfl, rfl, rfl, rfl, rfl, rfl, rfl, rfl, rfl, rfl, rfl, rfl, rfl, rfl, rfl, rfl, rfl⟩ := h
      have HZ := Aside0.mk (Bool.eq_false_iff.2 hz)
      clear hz HH
      have FI := Aside0.mk hI
      clear hI
      have FN := Aside0.mk hN
      clear hN
      have FL := Aside0.mk hL
      clear hL
      have FP := Aside0.mk hP
      clear hP
      have FA := Aside0.mk hA
      clear hA
      go_upto_region 3 with ((go_at_call 28; refine (policy_Zero.calls p0 p1 E2 e2 l2 p3 p4 p5 p6 E7 e7 l7 false _ HT2.out HC2.out HT7.out HC7.out (by unfold policy_Zero.f; rw [HZ.out])).mono ?_; rintro e_ w1 ⟨rfl, hb⟩; have HB1 := Aside0.mk hb; clear hb))
      have HG1 := Aside0.mk (blk_below HFG.out HB1.out)
      have HR1 := Aside0.mk (blk_below HFR.out HB1.out)
      have HD1 := Aside0.mk (below_step HFB.out HB1.out)
      have HV2 := Aside0.mk (Kd.R_below HU2.out HB1.out)
      have HV7 := Aside0.mk (Kd.R_below HU7.out HB1.out)
      have HV15 := Aside0.mk (Kd.R_below HU15.out HB1.out)
      have HV18 := Aside0.mk (Kd.R_below HU18.out HB1.out)
      clear HFG HFR HFB HU2 HU7 HU15 HU18 HT2 HT7 HB1 z0 z1 z2 z3 z4 z5 z6 z7
      go_upto_region 4 with (first
        | (go_at_call 30; go_loud (refine (fleet_want k _ _ _ _ _ _ _ _ _ _ _ _ _ _ _ _ _ _ _ _ _ _ _ _ _ _ _ _ _ _ _ _ _ _ _ _ _ _ _ _ _ _ HG1.out (Kd.R_reads' HV2.out).2.2 (Kd.R_reads' HV2.out).2.1 (Kd.R_reads' HV7.out).2.2 (Kd.R_reads' HV7.out).2.1 _ _ _ FI.out _ _ _ _ FN.out).mono ?_; rintro e_ w2 ⟨rfl, hg2, hk2, ho2⟩; have HG2 := Aside0.mk hg2; have HR2 := Aside0.mk (blk_kept HR1.out hk2 (by show ¬ (w.heap.size + 2 = G); omega)); have HD2 := Aside0.mk (below_kept HD1.out hk2 (by omega) ho2); have HY2 := Aside0.mk (Kd.R_mono (ok' := fun _ => True) (Kd.R_kept (Kd.R_types HV2.out HG1.out (by decide)) hk2 (fun k hk => hk.2)) (fun _ _ => trivial)); have HY7 := Aside0.mk (Kd.R_mono (ok' := fun _ => True) (Kd.R_kept (Kd.R_types HV7.out HG1.out (by decide)) hk2 (fun k hk => hk.2)) (fun _ _ => trivial)); have HY15 := Aside0.mk (Kd.R_mono (ok' := fun _ => True) (Kd.R_kept (Kd.R_types HV15.out HG1.out (by decide)) hk2 (fun k hk => hk.2)) (fun _ _ => trivial)); have HY18 := Aside0.mk (Kd.R_mono (ok' := fun _ => True) (Kd.R_kept (Kd.R_types HV18.out HG1.out (by decide)) hk2 (fun k hk => hk.2)) (fun _ _ => trivial)); clear hg2 hk2 ho2))
        | (go_at_call 29; refine (fleet_run _ _ _ _ _ _ _ _ _ _ _ _ _ _ _ _ _ _ _ _ _ _ _ _ _ _ _ _ _ _ _ _ _ _ _ _ _ _ _ _ _ w.heap.size _ _ _ HG2.out (Kd.Q_of_R HY15.out) (Kd.Q_of_R HY18.out) HD2.out.size _ _ _ FL.out _ _ _ _ _ _ FP.out _ FA.out).mono ?_; rintro e_ w3 ⟨B15, d15, B18, d18, rfl, hg3, hq15, hq18, hk3, ho3⟩; have HG3 := Aside0.mk hg3; have HR3 := Aside0.mk (blk_kept HR2.out hk3 (by show ¬ (w.heap.size + 2 = G); omega)); have HD3 := Aside0.mk (below_kept HD2.out hk3 (by omega) ho3); have HX2 := Aside0.mk (Kd.R_mono (ok' := fun _ => True) (Kd.R_kept (Kd.R_types HY2.out HG2.out (by decide)) hk3 (fun k hk => hk.2)) (fun _ _ => trivial)); have HX7 := Aside0.mk (Kd.R_mono (ok' := fun _ => True) (Kd.R_kept (Kd.R_types HY7.out HG2.out (by decide)) hk3 (fun k hk => hk.2)) (fun _ _ => trivial)); have HX15 := Aside0.mk hq15; have HX18 := Aside0.mk hq18; clear hg3 hq15 hq18 hk3 ho3))
      clear HG1 HR1 HD1 HV2 HV7 HV15 HV18 HG2 HR2 HD2 HY2 HY7 HY15 HY18 FI FN FL FP FA
      obtain ⟨cs, hcs⟩ : ∃ cs : Array Value, cs = #[.int .i64 p0, .int .i64 p1, .slice A2 l2.length c2, .int .i64 p3, .int .i64 p4, .int .i64 p5, .int .i64 p6, .slice A7 l7.length c7, .int .i64 n0, .int .i64 n1, .bool n2, .int .i64 k0, .int .i64 k1, .bool k2, .int .i64 R', .slice B15 l15'.length d15, .int .i64 wt', .int .i64 ut', .slice B18 l18'.length d18] := ⟨_, rfl⟩
      have hsz : cs.size = 19 := by rw [hcs]; rfl
      have hinfo : (Try.prog.info? 37).map (·.size) = some cs.size := by rw [hsz]; kernel_rfl
      have h1c : ∀ v ∈ cs.toList, v.oneCell' = true := by rw [hcs]; intro v hv; simp only [List.mem_cons, List.not_mem_nil, or_false] at hv; rcases hv with rfl | rfl | rfl | rfl | rfl | rfl | rfl | rfl | rfl | rfl | rfl | rfl | rfl | rfl | rfl | rfl | rfl | rfl | rfl <;> rfl
      have hrg : w3.rangeAt G 0 cs.toList := range_pre (t := 69) (more := [.int .i64 q0, .int .i64 q1, .int .i64 q2, .int .i64 q3, .int .i64 q4, .int .i64 q5, .int .i64 q6, .int .i64 q7, .int .i64 q8, .int .i64 q9, .int .i64 q10, .int .i64 q11, .int .i64 now]) (by rw [hcs]; exact HG3.out)
      have cp := cp_row (P := Try.prog) HR3.out (by rw [hsz]; rfl) h1c
      have hst := cp.1
      have HCP := Aside0.mk cp.2.1
      have HI := Aside0.mk hinfo
      have HCS := Aside0.mk hcs
      have HRG := Aside0.mk hrg
      clear cp hinfo hcs h1c hrg
      have hne : G ≠ w.heap.size + 2 := by omega
      go_wp2_with ((with_reducible refine gate_dst (N := 28) rfl ?_); refine load_pre rfl 37 (.tmp 27) rfl G rfl cs _ HRG.out hu1 rfl HI.out ?_)
      have hB := Aside0.mk (below_cells (g := w.heap.size + 2) (vs := cs.toList) HD3.out (by omega))
      have V2 := Aside0.mk (Kd.R_cells (vs := cs.toList) HX2.out HR3.out (by decide))
      have V7 := Aside0.mk (Kd.R_cells (vs := cs.toList) HX7.out HR3.out (by decide))
      have V15 := Aside0.mk (Kd.Q_cells (vs := cs.toList) HX15.out HR3.out (by decide))
      have V18 := Aside0.mk (Kd.Q_cells (vs := cs.toList) HX18.out HR3.out (by decide))
      generalize w3.setCells _ _ _ = W5 at HCP hB V2 V7 V15 V18 ⊢
      refine bodyPost_ret (results_cell_row rfl _ _ (w.heap.size + 2) 37 cs (0, 0) _ rfl HCP.out hu1 rfl HI.out) rfl ?_
      exact ⟨_, _, _, _, by rw [HCS.out], V2.out, V7.out, V15.out, V18.out, hB.out⟩

end Go.Proofs.Ytefgoffaidjiaaa.PAll
namespace Go.Proofs.Ytefgoffaidjiaaa.PAll
open Go.RowKit Go.Proofs.YtefgoffaidjiaaaW.PrintWords Go.Proofs.YtefgoffaidjiaaaW.PrintLast Go.Proofs.YtefgoffaidjiaaaW.PrintMore
attribute [local go_sem] max2_int min2_int max_two min_two max_three min_three max_four min_four   -- for this text's walks alone
set_option linter.unusedVariables false
set_option linter.unusedSimpArgs false

/-! ### plant_New: function 37 -/
def plant_New.f (a0 : Int) : Option (Int × List Int × Int × Int) := some (mx 0 (mn a0 1000), ([] : List Int), 0, 0)
set_option maxHeartbeats 8000000 in
set_option maxRecDepth 100000 in
theorem plant_New.calls (a0 : Int) (r1 : Int) (r2 : List Int) (r3 : Int) (r4 : Int) (w : World) (h : plant_New.f a0 = some (r1, r2, r3, r4)) :
    Calls Try.prog 37 #[.int .i64 a0] w fun e w' => ∃ v1_ : Value, e = .returned (.agg #[.int .i64 r1, v1_, .int .i64 r3, .int .i64 r4]) ∧ Kd.R (Kd.int .i64) 3 w' w.heap.size (fun _ => True) v1_ r2 ∧ Below w.heap.size w w' := by
  have hu34 := Try.underlying34
  have HB := Aside0.mk (Below.refl w.heap.size w)
  have H : (some (mx 0 (mn a0 1000), ([] : List Int), 0, 0)) = some (r1, r2, r3, r4) := h
  clear h
  obtain ⟨ji2, hji2⟩ : ∃ j_ : Int, (mn a0 1000) = j_ := ⟨_, rfl⟩
  replace H : (some (mx 0 (ji2), ([] : List Int), 0, 0)) = some (r1, r2, r3, r4) := by first | (rw [hji2] at H; exact H) | (simp only [hji2] at H ⊢; exact H)
  (try (have hji2h : ji2 ≤ 1000 := by (rw [← hji2]; unfold mn; (repeat' split) <;> omega)))
  (try (have hji2g : ji2 ≤ 64 := by omega))
  have hji2_ : (if 1000 < a0 then 1000 else a0) = ji2 := hji2
  obtain ⟨ji3, hji3⟩ : ∃ j_ : Int, (mx 0 (ji2)) = j_ := ⟨_, rfl⟩
  replace H : (some (ji3, ([] : List Int), 0, 0)) = some (r1, r2, r3, r4) := by first | (rw [hji3] at H; exact H) | (simp only [hji3] at H ⊢; exact H)
  have hji3_ : (if 0 < (ji2) then (ji2) else 0) = ji3 := hji3
  simp only [Option.some.injEq, Prod.mk.injEq] at H
  obtain ⟨rfl, rfl, rfl, rfl⟩ := H
  go_enter Try.func37, Try.ntmps37
  go_wp2_with (first | ((with_reducible refine gate_dst (N := 2) rfl ?_); refine box_event ?hg (N := 2) ?hd (cs := #[.int .i64 0, .slice none 0 0, .int .i64 0, .int .i64 0]) (t := 34) ?hr ?_; (case hd => rfl); (case hg => rfl); (case hr => first | (go_simp; done) | (go_simp; rfl)); intro gb165 hg w4 hbox hb; have n0_ := Aside0.mk (below_step (by repeat (first | (with_reducible first | exact HB.out | apply below_alloc | apply pw_below_drewN | apply below_drew1) | exact HB.out)) hb); have n1_ := Aside0.mk (hbox); have n2_ := Aside0.mk ((by rw [hg]; exact (below_size (by repeat (first | (with_reducible first | exact HB.out | apply below_alloc | apply pw_below_drewN | apply below_drew1) | exact HB.out))) : w.heap.size ≤ gb165)); have n3_ := Aside0.mk ((by rw [hg]; exact (below_size (by repeat (first | (with_reducible first | exact HB.out | apply below_alloc | apply pw_below_drewN | apply below_drew1) | exact HB.out))) : w.heap.size ≤ gb165)); clear HB; have HB := n0_; have BK165 := n1_; have GW165 := n2_; have GE165 := n3_; clear n0_ n1_ n2_ n3_; clear hb hbox hg; have hcz5_0 : w4.cell? ⟨gb165, 0, none⟩ = some (.int .i64 0) := (blk_cell BK165.out 0).trans rfl; have hcz5_1 : w4.cell? ⟨gb165, 1, none⟩ = some (.slice none 0 0) := (blk_cell BK165.out 1).trans rfl; have hcz5_2 : w4.cell? ⟨gb165, 2, none⟩ = some (.int .i64 0) := (blk_cell BK165.out 2).trans rfl; have hcz5_3 : w4.cell? ⟨gb165, 3, none⟩ = some (.int .i64 0) := (blk_cell BK165.out 3).trans rfl; have hfz5_0 := blk_frozen BK165.out 0; have hfz5_1 := blk_frozen BK165.out 1; have hfz5_2 := blk_frozen BK165.out 2; have hfz5_3 := blk_frozen BK165.out 3))
  refine bodyPost_ret (results_cell_row rfl _ _ gb165 34 #[.int .i64 ji3, .slice none 0 0, .int .i64 0, .int .i64 0] (0, 0) _ rfl (by (with_reducible repeat (first | refine blk_drewN ?_ _ | refine blk_drew ?_ | refine blk_alloc ?_ _)); refine blk_put (cs := #[.int .i64 ji3, .slice none 0 0, .int .i64 0, .int .i64 0]) ?_ 3 _ rfl; (with_reducible repeat (first | refine blk_drewN ?_ _ | refine blk_drew ?_ | refine blk_alloc ?_ _)); refine blk_put (cs := #[.int .i64 ji3, .slice none 0 0, .int .i64 0, .int .i64 0]) ?_ 2 _ rfl; (with_reducible repeat (first | refine blk_drewN ?_ _ | refine blk_drew ?_ | refine blk_alloc ?_ _)); refine blk_put (cs := #[.int .i64 ji3, .slice none 0 0, .int .i64 0, .int .i64 0]) ?_ 1 _ rfl; (with_reducible repeat (first | refine blk_drewN ?_ _ | refine blk_drew ?_ | refine blk_alloc ?_ _)); refine blk_put (cs := #[.int .i64 0, .slice none 0 0, .int .i64 0, .int .i64 0]) ?_ 0 _ rfl; (with_reducible repeat (first | refine blk_drewN ?_ _ | refine blk_drew ?_ | refine blk_alloc ?_ _)); exact BK165.out) Try.underlying34 rfl (by kernel_rfl)) rfl ?_
  exact ⟨_, by first | rfl | (simp [errW_none, errW_some] <;> rfl) | (simp only [← hji2, ← hji3]; first | rfl | (simp [errW_none, errW_some] <;> rfl)) | (simp [*, errW_none, errW_some] <;> rfl) | (have e_ : ji2 = ji3 := (by omega); subst e_; rfl), by first | exact Kd.R_nil _ _ _ _ _ | exact Kd.N_nil _ _ _ _ _ | exact Kd.V_nil _ _ _ _ _ | exact Kd.Q_nil _ _ _ _ _ | exact Kd.S_nil _ _ _ _ _, by repeat (first | (with_reducible first | exact HB.out | apply below_alloc | apply pw_below_drewN | apply below_drew1 | refine below_set ?_ GE165.out) | exact HB.out)⟩

end Go.Proofs.Ytefgoffaidjiaaa.PAll
namespace Go.Proofs.Ytefgoffaidjiaaa.PAll
open Go.RowKit Go.Proofs.YtefgoffaidjiaaaW.PrintWords Go.Proofs.YtefgoffaidjiaaaW.PrintLast Go.Proofs.YtefgoffaidjiaaaW.PrintMore
attribute [local go_sem] max2_int min2_int max_two min_two max_three min_three max_four min_four   -- for this text's walks alone
set_option linter.unusedVariables false
set_option linter.unusedSimpArgs false

/-! ### fleet_New: function 16 -/
def fleet_New.f (p0 p1 : Int) (l2 : List (S56)) (p3 p4 p5 p6 : Int) (l7 : List (S58)) (s0 s1 : Int) (s2 : Bool) (h0 h1 : Int) (h2 : Bool) : Option (Int × Int × (List (S56)) × Int × Int × Int × Int × (List (S58)) × Int × Int × Bool × Int × Int × Bool × Int × List Int × Int × Int × (List (S52))) := (plant_New.f h0).bind fun b => fleet_Own.f p0 p1 l2 p3 p4 p5 p6 l7 s0 s1 s2 h0 h1 h2 b.1 b.2.1 b.2.2.1 b.2.2.2 ([] : List (S52))
set_option maxHeartbeats 8000000 in
set_option maxRecDepth 100000 in
theorem fleet_New.calls (p0 p1 : Int) (E2 : Option Addr) (e2 : Nat) (l2 : List (S56)) (p3 p4 p5 p6 : Int) (E7 : Option Addr) (e7 : Nat) (l7 : List (S58)) (s0 s1 : Int) (s2 : Bool) (h0 h1 : Int) (h2 : Bool) (r1 : Int) (r2 : Int) (r3 : List (S56)) (r4 : Int) (r5 : Int) (r6 : Int) (r7 : Int) (r8 : List (S58)) (r9 : Int) (r10 : Int) (r11 : Bool) (r12 : Int) (r13 : Int) (r14 : Bool) (r15 : Int) (r16 : List Int) (r17 : Int) (r18 : Int) (r19 : List (S52)) (w : World) (hr2 : Kd.C k56 w E2 l2.length l2) (hc2 : l2.length ≤ e2) (hr7 : Kd.C k58 w E7 l7.length l7) (hc7 : l7.length ≤ e7) (h : fleet_New.f p0 p1 l2 p3 p4 p5 p6 l7 s0 s1 s2 h0 h1 h2 = some (r1, r2, r3, r4, r5, r6, r7, r8, r9, r10, r11, r12, r13, r14, r15, r16, r17, r18, r19)) :
    Calls Try.prog 16 #[.agg #[.int .i64 p0, .int .i64 p1, .slice E2 l2.length e2, .int .i64 p3, .int .i64 p4, .int .i64 p5, .int .i64 p6, .slice E7 l7.length e7], .agg #[.int .i64 s0, .int .i64 s1, .bool s2], .agg #[.int .i64 h0, .int .i64 h1, .bool h2]] w fun e w' => ∃ v2_ v7_ v15_ v18_ : Value, e = .returned (.agg #[.int .i64 r1, .int .i64 r2, v2_, .int .i64 r4, .int .i64 r5, .int .i64 r6, .int .i64 r7, v7_, .int .i64 r9, .int .i64 r10, .bool r11, .int .i64 r12, .int .i64 r13, .bool r14, .int .i64 r15, v15_, .int .i64 r17, .int .i64 r18, v18_]) ∧ Kd.R k56 56 w' w.heap.size (fun _ => True) v2_ r3 ∧ Kd.R k58 58 w' w.heap.size (fun _ => True) v7_ r8 ∧ Kd.R (Kd.int .i64) 3 w' w.heap.size (fun _ => True) v15_ r16 ∧ Kd.R k52 52 w' w.heap.size (fun _ => True) v18_ r19 ∧ Below w.heap.size w w' := by
  have hu0 := Try.underlying69
  have hu1 := Try.underlying37
  have hu2 := Try.underlying27
  have hu3 := Try.underlying29
  have hu4 := Try.underlying23
  have hu5 := Try.underlying31
  have hu6 := Try.underlying34
  have hu7 := Try.underlying52
  unfold fleet_New.f at h
  obtain ⟨⟨R, l15, wt, ut⟩, hN, h⟩ := Option.bind_eq_some_iff.1 h
  have HN := Aside0.mk hN
  have HO : Aside0 (fleet_Own.f p0 p1 l2 p3 p4 p5 p6 l7 s0 s1 s2 h0 h1 h2 R l15 wt ut ([] : List (S52)) = some (r1, r2, r3, r4, r5, r6, r7, r8, r9, r10, r11, r12, r13, r14, r15, r16, r17, r18, r19)) := Aside0.mk h
  clear h hN
  have HC2 := Aside0.mk hc2
  have HC7 := Aside0.mk hc7
  clear hc2 hc7
  go_enter Try.func16, Try.ntmps16
  go_upto_region 1 with (fail)
  obtain ⟨FB, F0, F1, F2, F3⟩ : Below w.heap.size w ((((w.alloc (.cells #[.int .i64 p0, .int .i64 p1, .slice E2 l2.length e2, .int .i64 p3, .int .i64 p4, .int .i64 p5, .int .i64 p6, .slice E7 l7.length e7] 27)).alloc (.cells #[.int .i64 s0, .int .i64 s1, .bool s2] 29)).alloc (.cells #[.int .i64 h0, .int .i64 h1, .bool h2] 31)).alloc (.cells #[.int .i64 0, .int .i64 0, .slice none 0 0, .int .i64 0, .int .i64 0, .int .i64 0, .int .i64 0, .slice none 0 0, .int .i64 0, .int .i64 0, .bool false, .int .i64 0, .int .i64 0, .bool false, .int .i64 0, .slice none 0 0, .int .i64 0, .int .i64 0, .slice none 0 0] 37)) ∧ ((((w.alloc (.cells #[.int .i64 p0, .int .i64 p1, .slice E2 l2.length e2, .int .i64 p3, .int .i64 p4, .int .i64 p5, .int .i64 p6, .slice E7 l7.length e7] 27)).alloc (.cells #[.int .i64 s0, .int .i64 s1, .bool s2] 29)).alloc (.cells #[.int .i64 h0, .int .i64 h1, .bool h2] 31)).alloc (.cells #[.int .i64 0, .int .i64 0, .slice none 0 0, .int .i64 0, .int .i64 0, .int .i64 0, .int .i64 0, .slice none 0 0, .int .i64 0, .int .i64 0, .bool false, .int .i64 0, .int .i64 0, .bool false, .int .i64 0, .slice none 0 0, .int .i64 0, .int .i64 0, .slice none 0 0] 37)).heap[w.heap.size]? = some (.cells #[.int .i64 p0, .int .i64 p1, .slice E2 l2.length e2, .int .i64 p3, .int .i64 p4, .int .i64 p5, .int .i64 p6, .slice E7 l7.length e7] 27 (0, 0)) ∧ ((((w.alloc (.cells #[.int .i64 p0, .int .i64 p1, .slice E2 l2.length e2, .int .i64 p3, .int .i64 p4, .int .i64 p5, .int .i64 p6, .slice E7 l7.length e7] 27)).alloc (.cells #[.int .i64 s0, .int .i64 s1, .bool s2] 29)).alloc (.cells #[.int .i64 h0, .int .i64 h1, .bool h2] 31)).alloc (.cells #[.int .i64 0, .int .i64 0, .slice none 0 0, .int .i64 0, .int .i64 0, .int .i64 0, .int .i64 0, .slice none 0 0, .int .i64 0, .int .i64 0, .bool false, .int .i64 0, .int .i64 0, .bool false, .int .i64 0, .slice none 0 0, .int .i64 0, .int .i64 0, .slice none 0 0] 37)).heap[(w.heap.size + 1)]? = some (.cells #[.int .i64 s0, .int .i64 s1, .bool s2] 29 (0, 0)) ∧ ((((w.alloc (.cells #[.int .i64 p0, .int .i64 p1, .slice E2 l2.length e2, .int .i64 p3, .int .i64 p4, .int .i64 p5, .int .i64 p6, .slice E7 l7.length e7] 27)).alloc (.cells #[.int .i64 s0, .int .i64 s1, .bool s2] 29)).alloc (.cells #[.int .i64 h0, .int .i64 h1, .bool h2] 31)).alloc (.cells #[.int .i64 0, .int .i64 0, .slice none 0 0, .int .i64 0, .int .i64 0, .int .i64 0, .int .i64 0, .slice none 0 0, .int .i64 0, .int .i64 0, .bool false, .int .i64 0, .int .i64 0, .bool false, .int .i64 0, .slice none 0 0, .int .i64 0, .int .i64 0, .slice none 0 0] 37)).heap[(w.heap.size + 2)]? = some (.cells #[.int .i64 h0, .int .i64 h1, .bool h2] 31 (0, 0)) ∧ ((((w.alloc (.cells #[.int .i64 p0, .int .i64 p1, .slice E2 l2.length e2, .int .i64 p3, .int .i64 p4, .int .i64 p5, .int .i64 p6, .slice E7 l7.length e7] 27)).alloc (.cells #[.int .i64 s0, .int .i64 s1, .bool s2] 29)).alloc (.cells #[.int .i64 h0, .int .i64 h1, .bool h2] 31)).alloc (.cells #[.int .i64 0, .int .i64 0, .slice none 0 0, .int .i64 0, .int .i64 0, .int .i64 0, .int .i64 0, .slice none 0 0, .int .i64 0, .int .i64 0, .bool false, .int .i64 0, .int .i64 0, .bool false, .int .i64 0, .slice none 0 0, .int .i64 0, .int .i64 0, .slice none 0 0] 37)).heap[(w.heap.size + 3)]? = some (.cells #[.int .i64 0, .int .i64 0, .slice none 0 0, .int .i64 0, .int .i64 0, .int .i64 0, .int .i64 0, .slice none 0 0, .int .i64 0, .int .i64 0, .bool false, .int .i64 0, .int .i64 0, .bool false, .int .i64 0, .slice none 0 0, .int .i64 0, .int .i64 0, .slice none 0 0] 37 (0, 0)) := by
    have z1 := blk_new (w.alloc (.cells #[.int .i64 p0, .int .i64 p1, .slice E2 l2.length e2, .int .i64 p3, .int .i64 p4, .int .i64 p5, .int .i64 p6, .slice E7 l7.length e7] 27)) (.cells #[.int .i64 s0, .int .i64 s1, .bool s2] 29)
    rw [World.size_alloc] at z1
    have z2 := blk_new ((w.alloc (.cells #[.int .i64 p0, .int .i64 p1, .slice E2 l2.length e2, .int .i64 p3, .int .i64 p4, .int .i64 p5, .int .i64 p6, .slice E7 l7.length e7] 27)).alloc (.cells #[.int .i64 s0, .int .i64 s1, .bool s2] 29)) (.cells #[.int .i64 h0, .int .i64 h1, .bool h2] 31)
    rw [World.size_alloc, World.size_alloc] at z2
    have z3 := blk_new (((w.alloc (.cells #[.int .i64 p0, .int .i64 p1, .slice E2 l2.length e2, .int .i64 p3, .int .i64 p4, .int .i64 p5, .int .i64 p6, .slice E7 l7.length e7] 27)).alloc (.cells #[.int .i64 s0, .int .i64 s1, .bool s2] 29)).alloc (.cells #[.int .i64 h0, .int .i64 h1, .bool h2] 31)) (.cells #[.int .i64 0, .int .i64 0, .slice none 0 0, .int .i64 0, .int .i64 0, .int .i64 0, .int .i64 0, .slice none 0 0, .int .i64 0, .int .i64 0, .bool false, .int .i64 0, .int .i64 0, .bool false, .int .i64 0, .slice none 0 0, .int .i64 0, .int .i64 0, .slice none 0 0] 37)
    rw [World.size_alloc, World.size_alloc, World.size_alloc] at z3
    exact ⟨below_alloc (below_alloc (below_alloc (below_alloc (Below.refl _ _) _) _) _) _, blk_alloc (blk_alloc (blk_alloc (blk_new w _) _) _) _, blk_alloc (blk_alloc z1 _) _, blk_alloc z2 _, z3⟩
  replace hr2 := Kd.C_below hr2 FB
  replace hr7 := Kd.C_below hr7 FB
  generalize (((w.alloc _).alloc _).alloc _).alloc _ = W0 at FB F0 F1 F2 F3 hr2 hr7 ⊢
  refine start_ (n := 9) (S := fun w' => w'.heap[w.heap.size]? = some (.cells #[.int .i64 p0, .int .i64 p1, .slice E2 l2.length e2, .int .i64 p3, .int .i64 p4, .int .i64 p5, .int .i64 p6, .slice E7 l7.length e7] 27 (0, 0)) ∧ w'.heap[(w.heap.size + 1)]? = some (.cells #[.int .i64 s0, .int .i64 s1, .bool s2] 29 (0, 0)) ∧ w'.heap[(w.heap.size + 2)]? = some (.cells #[.int .i64 h0, .int .i64 h1, .bool h2] 31 (0, 0))) (ds := [8]) #[false, false, false, false, false, false, false, false, false] (by kernel_rfl) rfl rfl ⟨F0, F1, F2⟩ (fun hHeld => ?_)
  replace FB := below_step FB (below_drew1 (Below.refl _ _))
  replace F0 := blk_below F0 (below_drew1 (Below.refl _ _))
  replace F1 := blk_below F1 (below_drew1 (Below.refl _ _))
  replace F2 := blk_below F2 (below_drew1 (Below.refl _ _))
  replace F3 := blk_below F3 (below_drew1 (Below.refl _ _))
  replace hr2 := Kd.C_below hr2 (below_drew1 (Below.refl _ _))
  replace hr7 := Kd.C_below hr7 (below_drew1 (Below.refl _ _))
  generalize W0.drew = w9 at FB F0 F1 F2 F3 hr2 hr7 hHeld ⊢
  refine take_ (i := 0) (N := some 7) (v := ?_) (a' := ?_) #[true, false, false, false, false, false, false, false, false] rfl rfl (by kernel_rfl) (fun _ _ _ h => h) (Or.inl ⟨by rfl, ?_⟩) hHeld ?_ ?_
  rotate_left
  · intro w' hS
    have s0 := blk_cell hS.1 0
    have s1 := blk_cell hS.1 1
    have s2 := blk_cell hS.1 2
    have s3 := blk_cell hS.1 3
    have s4 := blk_cell hS.1 4
    have s5 := blk_cell hS.1 5
    have s6 := blk_cell hS.1 6
    have s7 := blk_cell hS.1 7
    simp only [List.getElem?_toArray, List.getElem?_cons_zero, List.getElem?_cons_succ] at s0 s1 s2 s3 s4 s5 s6 s7
    clear hS
    go_simp
    with_reducible rfl
  rotate_left
  · simp only [Act.put, List.setIfInBounds_toArray, List.set_cons_zero, List.set_cons_succ, i64_w, i32_w]
    rfl
  refine take_ (i := 1) (N := some 8) (v := ?_) (a' := ?_) #[true, true, false, false, false, false, false, false, false] rfl rfl (by kernel_rfl) (fun _ _ _ h => h) (Or.inl ⟨by rfl, ?_⟩) hHeld ?_ ?_
  rotate_left
  · intro w' hS
    have s0 := blk_cell hS.2.1 0
    have s1 := blk_cell hS.2.1 1
    have s2 := blk_cell hS.2.1 2
    simp only [List.getElem?_toArray, List.getElem?_cons_zero, List.getElem?_cons_succ] at s0 s1 s2
    clear hS
    go_simp
    with_reducible rfl
  rotate_left
  · simp only [Act.put, List.setIfInBounds_toArray, List.set_cons_zero, List.set_cons_succ, i64_w, i32_w]
    rfl
  refine take_ (i := 2) (N := some 9) (v := ?_) (a' := ?_) #[true, true, true, false, false, false, false, false, false] rfl rfl (by kernel_rfl) (fun _ _ _ h => h) (Or.inl ⟨by rfl, ?_⟩) hHeld ?_ ?_
  rotate_left
  · intro w' hS
    have s0 := blk_cell hS.2.2 0
    have s1 := blk_cell hS.2.2 1
    have s2 := blk_cell hS.2.2 2
    simp only [List.getElem?_toArray, List.getElem?_cons_zero, List.getElem?_cons_succ] at s0 s1 s2
    clear hS
    go_simp
    with_reducible rfl
  rotate_left
  · simp only [Act.put, List.setIfInBounds_toArray, List.set_cons_zero, List.set_cons_succ, i64_w, i32_w]
    rfl
  refine pure_ (i := 3) (N := some 10) (v := ?_) (a' := ?_) #[true, true, true, true, false, false, false, false, false] rfl rfl (by kernel_rfl) (fun _ _ _ h => h) (Or.inl ⟨by rfl, ?_⟩) ?_ ?_
  rotate_left
  · intro w'
    go_simp
    with_reducible rfl
  rotate_left
  · simp only [Act.put, List.setIfInBounds_toArray, List.set_cons_zero, List.set_cons_succ, i64_w, i32_w]
    rfl
  refine take_ (i := 4) (N := some 11) (v := ?_) (a' := ?_) #[true, true, true, true, true, false, false, false, false] rfl rfl (by kernel_rfl) (fun _ _ _ h => h) (Or.inl ⟨by rfl, ?_⟩) hHeld ?_ ?_
  rotate_left
  · intro w' hS
    have s0 := blk_cell hS.2.2 0
    simp only [List.getElem?_toArray, List.getElem?_cons_zero, List.getElem?_cons_succ] at s0
    clear hS
    go_simp
    with_reducible rfl
  rotate_left
  · simp only [Act.put, List.setIfInBounds_toArray, List.set_cons_zero, List.set_cons_succ, i64_w, i32_w]
    rfl
  refine one_ (i := 5) (N := some 12) #[true, true, true, true, true, true, false, false, false] rfl rfl (by kernel_rfl) (by decide) (fun K hK => ?_)
  refine goes_ Try.func37 (by kernel_rfl) rfl #[.int .i64 h0] (by rfl) rfl rfl (by (try simp only [List.map_toArray, List.map_cons, List.map_nil]); first | done | rfl) ?_
  refine (plant_New.calls _ _ _ _ _ _ HN.out).mono ?_
  rintro e_ wn1 ⟨v15, rfl, rn2, hbn3⟩
  refine ⟨_, rfl, ?_⟩
  have fn4 := blk_below F0 hbn3
  have fn5 := blk_below F1 hbn3
  have fn6 := blk_below F2 hbn3
  have fn7 := blk_below F3 hbn3
  have fn8 := Kd.C_below hr2 hbn3
  have fn9 := Kd.C_below hr7 hbn3
  have bn10 := below_step FB hbn3
  replace rn2 := Kd.R_lower rn2 FB.size
  obtain ⟨A15, c15, rfl⟩ := Kd.R_slice rn2
  refine hK.out _ _ ⟨fn4, fn5, fn6⟩ (fun hHeld => ?_)
  clear hK K
  refine norm_ (a' := ?_) ?_ ?_
  rotate_left
  · show Act.put _ (some 12) _ = _
    simp only [Act.put, List.setIfInBounds_toArray, List.set_cons_zero, List.set_cons_succ, i64_w, i32_w]
    rfl
  refine pure_ (i := 6) (N := some 13) (v := ?_) (a' := ?_) #[true, true, true, true, true, true, true, false, false] rfl rfl (by kernel_rfl) (fun _ _ _ h => h) (Or.inl ⟨by rfl, ?_⟩) ?_ ?_
  rotate_left
  · intro w'
    go_simp
    with_reducible rfl
  rotate_left
  · simp only [Act.put, List.setIfInBounds_toArray, List.set_cons_zero, List.set_cons_succ, i64_w, i32_w]
    rfl
  refine one_ (i := 7) (N := some 14) #[true, true, true, true, true, true, true, true, false] rfl rfl (by kernel_rfl) (by decide) (fun K hK => ?_)
  refine goes_ Try.func18 (by kernel_rfl) rfl #[.agg #[.int .i64 p0, .int .i64 p1, .slice E2 l2.length e2, .int .i64 p3, .int .i64 p4, .int .i64 p5, .int .i64 p6, .slice E7 l7.length e7, .int .i64 s0, .int .i64 s1, .bool s2, .int .i64 h0, .int .i64 h1, .bool h2, .int .i64 R, .slice A15 l15.length c15, .int .i64 wt, .int .i64 ut, .slice none 0 0]] (by rfl) rfl rfl (by (try simp only [List.map_toArray, List.map_cons, List.map_nil]); first | done | rfl) ?_
  refine (fleet_Own.calls _ _ _ _ _ _ _ _ _ _ _ _ _ _ _ _ _ _ _ _ _ _ _ _ _ _ ([] : List (S52)) _ _ _ _ _ _ _ _ _ _ _ _ _ _ _ _ _ _ _ _ fn8 HC2.out fn9 HC7.out (Kd.R_reads' rn2).2.2 (Kd.R_reads' rn2).2.1 (Kd.C_nil _ _) (Nat.zero_le 0) HO.out).mono ?_
  rintro e_ wn11 ⟨v2, v7, v15, v18, rfl, rn12, rn13, rn14, rn15, hbn16⟩
  refine ⟨_, rfl, ?_⟩
  have fn17 := blk_below fn4 hbn16
  have fn18 := blk_below fn5 hbn16
  have fn19 := blk_below fn6 hbn16
  have fn20 := blk_below fn7 hbn16
  have fn21 := Kd.C_below fn8 hbn16
  have fn22 := Kd.C_below fn9 hbn16
  have fn23 := Kd.R_below rn2 hbn16
  have bn24 := below_step bn10 hbn16
  replace rn12 := Kd.R_lower rn12 bn10.size
  obtain ⟨B2, d2, rfl⟩ := Kd.R_slice rn12
  replace rn13 := Kd.R_lower rn13 bn10.size
  obtain ⟨B7, d7, rfl⟩ := Kd.R_slice rn13
  replace rn14 := Kd.R_lower rn14 bn10.size
  obtain ⟨B15, d15, rfl⟩ := Kd.R_slice rn14
  replace rn15 := Kd.R_lower rn15 bn10.size
  obtain ⟨B18, d18, rfl⟩ := Kd.R_slice rn15
  refine hK.out _ _ ⟨fn17, fn18, fn19⟩ (fun hHeld => ?_)
  clear hK K
  refine norm_ (a' := ?_) ?_ ?_
  rotate_left
  · show Act.put _ (some 14) _ = _
    simp only [Act.put, List.setIfInBounds_toArray, List.set_cons_zero, List.set_cons_succ, i64_w, i32_w]
    rfl
  refine last_ (i := 8) (N := none) #[true, true, true, true, true, true, true, true, true] rfl rfl (by kernel_rfl) (by decide) (fun K hK => ?_)
  obtain ⟨cs, hcs⟩ : ∃ cs : Array Value, cs = #[.int .i64 r1, .int .i64 r2, .slice B2 r3.length d2, .int .i64 r4, .int .i64 r5, .int .i64 r6, .int .i64 r7, .slice B7 r8.length d7, .int .i64 r9, .int .i64 r10, .bool r11, .int .i64 r12, .int .i64 r13, .bool r14, .int .i64 r15, .slice B15 r16.length d15, .int .i64 r17, .int .i64 r18, .slice B18 r19.length d18] := ⟨_, rfl⟩
  rw [← hcs]
  have hsz : cs.size = 19 := by rw [hcs]; rfl
  have h1c : ∀ v ∈ cs.toList, v.oneCell' = true := by rw [hcs]; intro v hv; simp only [List.mem_cons, List.not_mem_nil, or_false] at hv; rcases hv with rfl | rfl | rfl | rfl | rfl | rfl | rfl | rfl | rfl | rfl | rfl | rfl | rfl | rfl | rfl | rfl | rfl | rfl | rfl <;> rfl
  have cp := cp_row (P := Try.prog) fn20 (by rw [hsz]; rfl) h1c
  have hst := cp.1
  have HCP := Aside0.mk cp.2.1
  have HCS := Aside0.mk hcs
  clear hcs h1c cp
  have hB := Aside0.mk (below_cells (g := (w.heap.size + 3)) (vs := cs.toList) bn24 (by omega))
  have V2 := Aside0.mk (Kd.R_cells (vs := cs.toList) rn12 fn20 (by decide))
  have V7 := Aside0.mk (Kd.R_cells (vs := cs.toList) rn13 fn20 (by decide))
  have V15 := Aside0.mk (Kd.R_cells (vs := cs.toList) rn14 fn20 (by decide))
  have V18 := Aside0.mk (Kd.R_cells (vs := cs.toList) rn15 fn20 (by decide))
  clear fn17 fn18 fn19 fn20 fn21 fn22 fn23 rn12 rn13 rn14 rn15 bn24
  refine skip_ (w1 := ?_) (by rfl) rfl ?_ ?_
  rotate_left
  · go_simp
    rfl
  clear hst
  generalize World.setCells _ _ _ _ = W5 at HCP hB V2 V7 V15 V18 ⊢
  refine hK.out _ _ ?_
  clear hK K
  refine done_ (by kernel_rfl) ?_
  have hinfo : (Try.prog.info? 37).map (·.size) = some cs.size := by rw [hsz]; kernel_rfl
  have HI := Aside0.mk hinfo
  clear hinfo
  go_wp2
  refine bodyPost_ret (results_cell_row rfl _ _ (w.heap.size + 3) 37 cs (0, 0) _ rfl HCP.out hu1 rfl HI.out) rfl ?_
  exact ⟨_, _, _, _, by rw [HCS.out], V2.out, V7.out, V15.out, V18.out, hB.out⟩

end Go.Proofs.Ytefgoffaidjiaaa.PAll
namespace Go.Proofs.Ytefgoffaidjiaaa.PAll
open Go.RowKit Go.Proofs.YtefgoffaidjiaaaW.PrintWords Go.Proofs.YtefgoffaidjiaaaW.PrintLast Go.Proofs.YtefgoffaidjiaaaW.PrintMore
attribute [local go_sem] max2_int min2_int max_two min_two max_three min_three max_four min_four   -- for this text's walks alone
set_option linter.unusedVariables false
set_option linter.unusedSimpArgs false

/-! ### governorref09_SamePolicy: function 19 -/
def eqS56 (x y : S56) : Bool := x.f0 == y.f0 && (x.f1 == y.f1)
def eqS58 (x y : S58) : Bool := x.f0 == y.f0 && (x.f1 == y.f1)
def governorref09_SamePolicy.b (a0_0 : Int) (a0_1 : Int) (l0_2 : List (S56)) (a0_3 : Int) (a0_4 : Int) (a0_5 : Int) (a0_6 : Int) (l0_7 : List (S58)) (a1_0 : Int) (a1_1 : Int) (l1_2 : List (S56)) (a1_3 : Int) (a1_4 : Int) (a1_5 : Int) (a1_6 : Int) (l1_7 : List (S58)) : Bool := !(a0_0 != a1_0 || (a0_1 != a1_1 || (a0_3 != a1_3 || (a0_4 != a1_4 || (a0_5 != a1_5 || (a0_6 != a1_6 || ((l0_2.length : Int) != (l1_2.length : Int) || ((l0_7.length : Int) != (l1_7.length : Int))))))))) && (eqAt eqS56 l0_2 l1_2 0 && eqAt eqS58 l0_7 l1_7 0)
def governorref09_SamePolicy.f (a0_0 : Int) (a0_1 : Int) (l0_2 : List (S56)) (a0_3 : Int) (a0_4 : Int) (a0_5 : Int) (a0_6 : Int) (l0_7 : List (S58)) (a1_0 : Int) (a1_1 : Int) (l1_2 : List (S56)) (a1_3 : Int) (a1_4 : Int) (a1_5 : Int) (a1_6 : Int) (l1_7 : List (S58)) : Option Bool := if l0_2.length < 140737488355328 ∧ l0_7.length < 140737488355328 then some (governorref09_SamePolicy.b a0_0 a0_1 l0_2 a0_3 a0_4 a0_5 a0_6 l0_7 a1_0 a1_1 l1_2 a1_3 a1_4 a1_5 a1_6 l1_7) else none
theorem eqH56 (d : Nat) (w : World) (x0 y0 : Int) (x1 y1 : Int) :
    (Op.equalIn (d + 2) 56 (.agg #[.int .i64 x0, .int .i64 x1]) (.agg #[.int .i64 y0, .int .i64 y1])).run Try.prog w = .ok (x0 == y0 && (x1 == y1)) w := by
  refine eqA_of Try.underlying56 (by kernel_rfl) ?_
  refine eqf_cons (by rfl) (by go_simp; rfl) (by go_simp; rfl) (by go_simp) ?_
  exact eqf_last (by rfl) (by go_simp; rfl) (by go_simp; rfl) (by go_simp)
theorem eqH58 (d : Nat) (w : World) (x0 y0 : Int) (x1 y1 : Int) :
    (Op.equalIn (d + 2) 58 (.agg #[.int .i64 x0, .int .i64 x1]) (.agg #[.int .i64 y0, .int .i64 y1])).run Try.prog w = .ok (x0 == y0 && (x1 == y1)) w := by
  refine eqA_of Try.underlying58 (by kernel_rfl) ?_
  refine eqf_cons (by rfl) (by go_simp; rfl) (by go_simp; rfl) (by go_simp) ?_
  exact eqf_last (by rfl) (by go_simp; rfl) (by go_simp; rfl) (by go_simp)
attribute [local go_sem high] eqH56 eqH58
set_option maxHeartbeats 8000000 in
set_option maxRecDepth 100000 in
theorem governorref09_SamePolicy.calls (a0_0 : Int) (a0_1 : Int) (A0_2 : Option Addr) (c0_2 : Nat) (l0_2 : List (S56)) (a0_3 : Int) (a0_4 : Int) (a0_5 : Int) (a0_6 : Int) (A0_7 : Option Addr) (c0_7 : Nat) (l0_7 : List (S58)) (a1_0 : Int) (a1_1 : Int) (A1_2 : Option Addr) (c1_2 : Nat) (l1_2 : List (S56)) (a1_3 : Int) (a1_4 : Int) (a1_5 : Int) (a1_6 : Int) (A1_7 : Option Addr) (c1_7 : Nat) (l1_7 : List (S58)) (r : Bool) (w : World) (hr0_2 : Kd.C k56 w A0_2 l0_2.length l0_2) (hc0_2 : l0_2.length ≤ c0_2) (hr0_7 : Kd.C k58 w A0_7 l0_7.length l0_7) (hc0_7 : l0_7.length ≤ c0_7) (hr1_2 : Kd.C k56 w A1_2 l1_2.length l1_2) (hc1_2 : l1_2.length ≤ c1_2) (hr1_7 : Kd.C k58 w A1_7 l1_7.length l1_7) (hc1_7 : l1_7.length ≤ c1_7) (h : governorref09_SamePolicy.f a0_0 a0_1 l0_2 a0_3 a0_4 a0_5 a0_6 l0_7 a1_0 a1_1 l1_2 a1_3 a1_4 a1_5 a1_6 l1_7 = some r) :
    Calls Try.prog 19 #[.agg #[.int .i64 a0_0, .int .i64 a0_1, .slice A0_2 l0_2.length c0_2, .int .i64 a0_3, .int .i64 a0_4, .int .i64 a0_5, .int .i64 a0_6, .slice A0_7 l0_7.length c0_7], .agg #[.int .i64 a1_0, .int .i64 a1_1, .slice A1_2 l1_2.length c1_2, .int .i64 a1_3, .int .i64 a1_4, .int .i64 a1_5, .int .i64 a1_6, .slice A1_7 l1_7.length c1_7]] w fun e w' => e = .returned (.bool r) ∧ Below w.heap.size w w' := by
  have hu27 := Try.underlying27
  have hu56 := Try.underlying56
  have hu58 := Try.underlying58
  unfold governorref09_SamePolicy.f at h
  by_cases hN : l0_2.length < 140737488355328 ∧ l0_7.length < 140737488355328
  rotate_left
  · rw [if_neg hN] at h; cases h
  rw [if_pos hN] at h
  have hr := Option.some.inj h
  unfold governorref09_SamePolicy.b at hr
  have HN2 := Aside0.mk hN.1
  have HN7 := Aside0.mk hN.2
  clear h hN
  have HR0_2 := Aside0.mk hr0_2
  clear hr0_2 hc0_2
  have HR0_7 := Aside0.mk hr0_7
  clear hr0_7 hc0_7
  have HR1_2 := Aside0.mk hr1_2
  clear hr1_2 hc1_2
  have HR1_7 := Aside0.mk hr1_7
  clear hr1_7 hc1_7
  go_enter Try.func19, Try.ntmps19
  go_upto_region 1 with (fail)
  have ht := two_mk w #[.int .i64 a0_0, .int .i64 a0_1, .slice A0_2 l0_2.length c0_2, .int .i64 a0_3, .int .i64 a0_4, .int .i64 a0_5, .int .i64 a0_6, .slice A0_7 l0_7.length c0_7] #[.int .i64 a1_0, .int .i64 a1_1, .slice A1_2 l1_2.length c1_2, .int .i64 a1_3, .int .i64 a1_4, .int .i64 a1_5, .int .i64 a1_6, .slice A1_7 l1_7.length c1_7] 27
  generalize ((w.alloc _).alloc _) = W at ht ⊢
  have xa := blk_cell ht.hA
  have xb := blk_cell ht.hB
  have HT := Aside0.mk ht
  clear ht
  go_cut [64] (fun v wc => v = .bool (a0_0 != a1_0 || (a0_1 != a1_1 || (a0_3 != a1_3 || (a0_4 != a1_4 || (a0_5 != a1_5 || (a0_6 != a1_6 || ((l0_2.length : Int) != (l1_2.length : Int) || ((l0_7.length : Int) != (l1_7.length : Int))))))))) ∧ W = wc)
  case first =>
    rcases (ch (a0_0 != a1_0) (ch (a0_1 != a1_1) (ch (a0_3 != a1_3) (ch (a0_4 != a1_4) (ch (a0_5 != a1_5) (ch (a0_6 != a1_6) (ch ((l0_2.length : Int) != (l1_2.length : Int)) (Bool.eq_false_or_eq_true ((l0_7.length : Int) != (l1_7.length : Int)))))))))) with h0 | ⟨h0, h1 | ⟨h1, h2 | ⟨h2, h3 | ⟨h3, h4 | ⟨h4, h5 | ⟨h5, h6 | ⟨h6, h7 | h7⟩⟩⟩⟩⟩⟩⟩ <;> (go_wp2; go_meet; exact ⟨by simp [*], rfl⟩)
  case rest =>
    obtain ⟨rfl, rfl⟩ := hcut
    cases hX : (a0_0 != a1_0 || (a0_1 != a1_1 || (a0_3 != a1_3 || (a0_4 != a1_4 || (a0_5 != a1_5 || (a0_6 != a1_6 || ((l0_2.length : Int) != (l1_2.length : Int) || ((l0_7.length : Int) != (l1_7.length : Int)))))))))
    case true => (rw [hX] at hr; replace hr := Aside0.mk hr; go_wp2; go_ret; exact ⟨by rw [← hr.out]; rfl, HT.out.hW⟩)
    case false =>
      rw [hX] at hr
      simp only [Bool.or_eq_false_iff, bne_eq_false_iff_eq] at hX
      obtain ⟨h0, h1, h2, h3, h4, h5, h6, h7⟩ := hX
      clear h0 h1 h2 h3 h4 h5
      replace hr := Aside0.mk hr
      have HL2 := Aside0.mk (show l0_2.length = l1_2.length by omega)
      have HL7 := Aside0.mk (show l0_7.length = l1_7.length by omega)
      clear h6 h7
      go_wp2
      go_loopw [5] (fun v wr => ∃ i : Int, 0 ≤ i ∧ i ≤ (l0_2.length : Int) ∧ v = .int .i64 i ∧ Aside0 ((eqAt eqS56 l0_2 l1_2 i && eqAt eqS58 l0_7 l1_7 0) = r) ∧ Aside0 (Two w wr #[.int .i64 a0_0, .int .i64 a0_1, .slice A0_2 l0_2.length c0_2, .int .i64 a0_3, .int .i64 a0_4, .int .i64 a0_5, .int .i64 a0_6, .slice A0_7 l0_7.length c0_7] #[.int .i64 a1_0, .int .i64 a1_1, .slice A1_2 l1_2.length c1_2, .int .i64 a1_3, .int .i64 a1_4, .int .i64 a1_5, .int .i64 a1_6, .slice A1_7 l1_7.length c1_7] 27)) (fun v _ => ((l0_2.length : Int) - intOf v).toNat)
      case atStart => exact ⟨0, Int.le_refl _, by omega, rfl, hr, HT⟩
      case round =>
        obtain ⟨i, h0, hi, rfl, hr, HT⟩ := hrel
        have xa := blk_cell HT.out.hA
        have xb := blk_cell HT.out.hB
        by_cases hlt : i < (l0_2.length : Int)
        · have hlt' : i < (l1_2.length : Int) := by have := HL2.out; omega
          obtain ⟨ad0, e0, u0, u1⟩ := at_T56 (Kd.C_below HR0_2.out HT.out.hW) i h0 hlt
          obtain ⟨ad1, e1, v0, v1⟩ := at_T56 (Kd.C_below HR1_2.out HT.out.hW) i h0 hlt'
          cases e0; cases e1
          have hs := eqAt_lt eqS56 z56 l0_2 l1_2 i h0 hlt hlt'
          change _ = (eqS56 (rd_T56 l0_2 i) (rd_T56 l1_2 i) && _) at hs
          cases hc : eqS56 (rd_T56 l0_2 i) (rd_T56 l1_2 i)
          case true =>
            rw [hc, Bool.true_and] at hs
            replace hr := Aside0.mk ((congrArg (fun b => b && eqAt eqS58 l0_7 l1_7 0) hs.symm).trans hr.out)
            simp only [eqS56, Bool.and_eq_true, Bool.and_eq_false_iff] at hc; try obtain ⟨hc, hc'⟩ := hc
            clear hs
            go_wp2
            repeat (go_quiet (fail); try go_wp2)
            go_roundw
            case measure => have hn := HN2.out; have h_ : wrap64 (i + 1) = i + 1 := (by unfold wrap64; omega); simp [intOf, h_]; omega
            case rel => exact ⟨i + 1, by omega, by omega, by first | rfl | (have h_ : wrap64 (i + 1) = i + 1 := (by have := HN2.out; unfold wrap64; omega); simp [h_]), hr, ⟨HT.out.drewN _⟩⟩
          case false =>
            rw [hc, Bool.false_and] at hs
            replace hr := Aside0.mk ((congrArg (fun b => b && eqAt eqS58 l0_7 l1_7 0) hs.symm).trans hr.out)
            replace hc : (!((rd_T56 l0_2 i).f0 == (rd_T56 l1_2 i).f0) || (!((rd_T56 l0_2 i).f1 == (rd_T56 l1_2 i).f1))) = true := by unfold eqS56 at hc; rw [← Bool.not_and, hc]; rfl
            clear hs
            go_wp2
            repeat (go_quiet (fail); try go_wp2)
            go_ret
            exact ⟨by rw [← hr.out]; rfl, pw_below_drewN HT.out.hW _⟩
        · have hs := eqAt_end eqS56 l0_2 l1_2 i HL2.out (by omega)
          replace hr := Aside0.mk ((congrArg (fun b => b && eqAt eqS58 l0_7 l1_7 0) hs.symm).trans hr.out)
          clear hs
          go_wp2
          go_loopw [6] (fun v wr => ∃ i : Int, 0 ≤ i ∧ i ≤ (l0_7.length : Int) ∧ v = .int .i64 i ∧ Aside0 ((eqAt eqS58 l0_7 l1_7 i) = r) ∧ Aside0 (Two w wr #[.int .i64 a0_0, .int .i64 a0_1, .slice A0_2 l0_2.length c0_2, .int .i64 a0_3, .int .i64 a0_4, .int .i64 a0_5, .int .i64 a0_6, .slice A0_7 l0_7.length c0_7] #[.int .i64 a1_0, .int .i64 a1_1, .slice A1_2 l1_2.length c1_2, .int .i64 a1_3, .int .i64 a1_4, .int .i64 a1_5, .int .i64 a1_6, .slice A1_7 l1_7.length c1_7] 27)) (fun v _ => ((l0_7.length : Int) - intOf v).toNat)
          case atStart => exact ⟨0, Int.le_refl _, by omega, rfl, hr, HT⟩
          case round =>
            obtain ⟨i, h0, hi, rfl, hr, HT⟩ := hrel
            have xa := blk_cell HT.out.hA
            have xb := blk_cell HT.out.hB
            by_cases hlt : i < (l0_7.length : Int)
            · have hlt' : i < (l1_7.length : Int) := by have := HL7.out; omega
              obtain ⟨ad0, e0, u0, u1⟩ := at_T58 (Kd.C_below HR0_7.out HT.out.hW) i h0 hlt
              obtain ⟨ad1, e1, v0, v1⟩ := at_T58 (Kd.C_below HR1_7.out HT.out.hW) i h0 hlt'
              cases e0; cases e1
              have hs := eqAt_lt eqS58 z58 l0_7 l1_7 i h0 hlt hlt'
              change _ = (eqS58 (rd_T58 l0_7 i) (rd_T58 l1_7 i) && _) at hs
              cases hc : eqS58 (rd_T58 l0_7 i) (rd_T58 l1_7 i)
              case true =>
                rw [hc, Bool.true_and] at hs
                replace hr := Aside0.mk ((congrArg (fun b => b) hs.symm).trans hr.out)
                simp only [eqS58, Bool.and_eq_true, Bool.and_eq_false_iff] at hc; try obtain ⟨hc, hc'⟩ := hc
                clear hs
                go_wp2
                repeat (go_quiet (fail); try go_wp2)
                go_roundw
                case measure => have hn := HN7.out; have h_ : wrap64 (i + 1) = i + 1 := (by unfold wrap64; omega); simp [intOf, h_]; omega
                case rel => exact ⟨i + 1, by omega, by omega, by first | rfl | (have h_ : wrap64 (i + 1) = i + 1 := (by have := HN7.out; unfold wrap64; omega); simp [h_]), hr, ⟨HT.out.drewN _⟩⟩
              case false =>
                rw [hc, Bool.false_and] at hs
                replace hr := Aside0.mk ((congrArg (fun b => b) hs.symm).trans hr.out)
                replace hc : (!((rd_T58 l0_7 i).f0 == (rd_T58 l1_7 i).f0) || (!((rd_T58 l0_7 i).f1 == (rd_T58 l1_7 i).f1))) = true := by unfold eqS58 at hc; rw [← Bool.not_and, hc]; rfl
                clear hs
                go_wp2
                repeat (go_quiet (fail); try go_wp2)
                go_ret
                exact ⟨by rw [← hr.out]; rfl, pw_below_drewN HT.out.hW _⟩
            · have hs := eqAt_end eqS58 l0_7 l1_7 i HL7.out (by omega)
              replace hr := Aside0.mk ((congrArg (fun b => b) hs.symm).trans hr.out)
              clear hs
              go_wp2
              go_ret
              exact ⟨by rw [← hr.out]; rfl, HT.out.hW⟩

end Go.Proofs.Ytefgoffaidjiaaa.PAll
namespace Go.Proofs.Ytefgoffaidjiaaa.PAll
open Go.RowKit Go.Proofs.YtefgoffaidjiaaaW.PrintWords Go.Proofs.YtefgoffaidjiaaaW.PrintLast Go.Proofs.YtefgoffaidjiaaaW.PrintMore
attribute [local go_sem] max2_int min2_int max_two min_two max_three min_three max_four min_four   -- for this text's walks alone
set_option linter.unusedVariables false
set_option linter.unusedSimpArgs false

/-! ### governorref17_Same: function 27 -/
def eqS52 (x y : S52) : Bool := x.f0 == y.f0 && (x.f1 == y.f1)
def governorref17_Same.b (l0 : List (S52)) (l1 : List (S52)) : Bool := !((l0.length : Int) != (l1.length : Int)) && eqAt eqS52 l0 l1 0
def governorref17_Same.f (l0 : List (S52)) (l1 : List (S52)) : Option Bool := if l0.length < 140737488355328 then some (governorref17_Same.b l0 l1) else none
theorem eqH52 (d : Nat) (w : World) (x0 y0 : Int) (x1 y1 : Bool) :
    (Op.equalIn (d + 2) 52 (.agg #[.int .i64 x0, .bool x1]) (.agg #[.int .i64 y0, .bool y1])).run Try.prog w = .ok (x0 == y0 && (x1 == y1)) w := by
  refine eqA_of Try.underlying52 (by kernel_rfl) ?_
  refine eqf_cons (by rfl) (by go_simp; rfl) (by go_simp; rfl) (by go_simp) ?_
  exact eqf_last (by rfl) (by go_simp; rfl) (by go_simp; rfl) (by go_simp)
attribute [local go_sem high] eqH52
set_option maxHeartbeats 8000000 in
set_option maxRecDepth 100000 in
theorem governorref17_Same.calls (A0 : Option Addr) (c0 : Nat) (l0 : List (S52)) (A1 : Option Addr) (c1 : Nat) (l1 : List (S52)) (r : Bool) (w : World) (hr0 : Kd.C k52 w A0 l0.length l0) (hc0 : l0.length ≤ c0) (hr1 : Kd.C k52 w A1 l1.length l1) (hc1 : l1.length ≤ c1) (h : governorref17_Same.f l0 l1 = some r) :
    Calls Try.prog 27 #[.slice A0 l0.length c0, .slice A1 l1.length c1] w fun e w' => e = .returned (.bool r) ∧ Drawn0 w w' := by
  have hu52 := Try.underlying52
  unfold governorref17_Same.f at h
  by_cases hN : l0.length < 140737488355328
  rotate_left
  · rw [if_neg hN] at h; cases h
  rw [if_pos hN] at h
  have hr := Option.some.inj h
  unfold governorref17_Same.b at hr
  have HN := Aside0.mk hN
  clear h hN
  have HR0 := Aside0.mk hr0
  clear hr0 hc0
  have HR1 := Aside0.mk hr1
  clear hr1 hc1
  go_enter Try.func27, Try.ntmps27
  cases hX : ((l0.length : Int) != (l1.length : Int))
  case true => (rw [hX] at hr; replace hr := Aside0.mk hr; go_wp2; go_ret; exact ⟨by rw [← hr.out]; rfl, Drawn0.refl _⟩)
  case false =>
    have HL := Aside0.mk (show l0.length = l1.length by simp only [bne_eq_false_iff_eq] at hX; omega)
    rw [hX] at hr
    replace hr := Aside0.mk hr
    go_wp2
    go_loopw [5] (fun v wr => ∃ i : Int, 0 ≤ i ∧ i ≤ (l0.length : Int) ∧ v = .int .i64 i ∧ Aside0 (eqAt eqS52 l0 l1 i = r) ∧ Aside0 (Drawn0 w wr)) (fun v _ => ((l0.length : Int) - intOf v).toNat)
    case atStart => exact ⟨0, Int.le_refl _, by omega, rfl, hr, ⟨Drawn0.refl _⟩⟩
    case round =>
      obtain ⟨i, h0, hi, rfl, hr, HD⟩ := hrel
      by_cases hlt : i < (l0.length : Int)
      · have hlt' : i < (l1.length : Int) := by have := HL.out; omega
        obtain ⟨ad0, e0, u0, u1⟩ := at_T52 (Kd.C_below HR0.out HD.out.below) i h0 hlt
        obtain ⟨ad1, e1, v0, v1⟩ := at_T52 (Kd.C_below HR1.out HD.out.below) i h0 hlt'
        cases e0; cases e1
        have hs := eqAt_lt eqS52 z52 l0 l1 i h0 hlt hlt'
        change _ = (eqS52 (rd_T52 l0 i) (rd_T52 l1 i) && _) at hs
        cases hc : eqS52 (rd_T52 l0 i) (rd_T52 l1 i)
        case true =>
          rw [hc, Bool.true_and] at hs
          replace hr := Aside0.mk (hs.symm.trans hr.out)
          simp only [eqS52, Bool.and_eq_true] at hc
          obtain ⟨hc, hc'⟩ := hc
          clear hs hX
          go_wp2
          repeat (go_quiet (fail); try go_wp2)
          go_roundw
          case measure => have hn := HN.out; have h_ : wrap64 (i + 1) = i + 1 := (by unfold wrap64; omega); simp [intOf, h_]; omega
          case rel => exact ⟨i + 1, by omega, by omega, by first | rfl | (have h_ : wrap64 (i + 1) = i + 1 := (by have := HN.out; unfold wrap64; omega); simp [h_]), hr, ⟨HD.out.step _⟩⟩
        case false =>
          rw [hc, Bool.false_and] at hs
          replace hr := Aside0.mk (hs.symm.trans hr.out)
          replace hc : (!((rd_T52 l0 i).f0 == (rd_T52 l1 i).f0) || (!((rd_T52 l0 i).f1 == (rd_T52 l1 i).f1))) = true := by unfold eqS52 at hc; rw [← Bool.not_and, hc]; rfl
          clear hs hX
          go_wp2
          repeat (go_quiet (fail); try go_wp2)
          go_ret
          exact ⟨by rw [← hr.out]; rfl, HD.out.step _⟩
      · have hs := eqAt_end eqS52 l0 l1 i HL.out (by omega)
        replace hr := Aside0.mk (hs.symm.trans hr.out)
        clear hs hX
        go_wp2
        go_ret
        exact ⟨by rw [← hr.out]; rfl, HD.out⟩

end Go.Proofs.Ytefgoffaidjiaaa.PAll
