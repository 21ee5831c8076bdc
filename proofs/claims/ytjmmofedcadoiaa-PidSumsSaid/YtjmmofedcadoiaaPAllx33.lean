-- laid by a program of this session (tprint.py) out of the translation and of texts typed by hand; Lean checks it
import Derived.Test.YtjmmofedcadoiaaPAllx0
import Derived.Test.YtjmmofedcadoiaaPAllx24
import Derived.Test.YtjmmofedcadoiaaPAllx25
import Derived.Test.YtjmmofedcadoiaaPAllx26
namespace Go.Proofs.Ytjmmofedcadoiaa.PAll
open Go.RowKit Go.Proofs.YtjmmofedcadoiaaW.PrintWords Go.Proofs.YtjmmofedcadoiaaW.PrintLast Go.Proofs.YtjmmofedcadoiaaW.PrintMore
attribute [local go_sem] max2_int min2_int max_two min_two max_three min_three max_four min_four   -- for this text's walks alone
set_option linter.unusedVariables false
set_option linter.unusedSimpArgs false

/-! ### governorlaw12_PidSums: function 14 -/
def governorlaw12_PidSums.l0 : Nat → Int → List Int → Bool → Int → Int → Int → Int → Bool → Option (Bool)
  | 0, _, _, _, _, _, _, _, _ => none
  | k + 1, x0, x1, x5, x7, x8, x527000, x527001, x527002 => if x8 < (x1.length : Int) then ((governorlaw12_Of.f x0 0 0 0).bind fun bt527 => (if 0 ≤ x8 then ((pid_Next.f k bt527.1 bt527.2.1 bt527.2.2.1 bt527.2.2.2.1 bt527.2.2.2.2.1 bt527.2.2.2.2.2.1 bt527.2.2.2.2.2.2.1 bt527.2.2.2.2.2.2.2 x527000 x527001 x527002 (rd x1 x8)).bind fun bt540 => ((governorref08_Sub.f (rd x1 x8) x0).bind fun t546 => ((governorref08_Add.f x7 t546).bind fun t547 => (if bt540.2.2.2 = 0 then (if bt540.1 = t547 then (if bt540.2.1 = t546 then (if bt540.2.2.1 = true then (governorlaw12_PidSums.l0 k x0 x1 x5 t547 (wrap64 (x8 + 1)) bt540.1 bt540.2.1 bt540.2.2.1) else (some false)) else (some false)) else (some false)) else (some false))))) else (none))) else (some x5)
def governorlaw12_PidSums.f (k : Nat) (a0 : Int) (l1 : List Int) : Option (Bool) := (governorlaw12_head.f k).bind fun t525 => (if (l1.length : Int) > 900 then (some t525) else (governorlaw12_PidSums.l0 k a0 l1 t525 0 0 0 0 false))
theorem governorlaw12_PidSums.mono_l : ∀ k, (∀ y0 y1 y2 y3 y4 y5 y6 y7, LeO (governorlaw12_PidSums.l0 k y0 y1 y2 y3 y4 y5 y6 y7) (governorlaw12_PidSums.l0 (k + 1) y0 y1 y2 y3 y4 y5 y6 y7))
  | 0 => fun _ _ _ _ _ _ _ _ r h => by simp [governorlaw12_PidSums.l0] at h
  | k + 1 => by
    have ih0 := governorlaw12_PidSums.mono_l k
    · intro y0 y1 y2 y3 y4 y5 y6 y7
      unfold governorlaw12_PidSums.l0
      repeat' first
      | (with_reducible exact ih0 _ _ _ _ _ _ _ _)
      | (with_reducible exact governorlaw12_head.mono _)
      | (with_reducible exact pid_Next.mono _ _ _ _ _ _ _ _ _ _ _ _ _)
      | (with_reducible exact LeO.refl _)
      | (with_reducible exact LeO.none _)
      | (with_reducible refine LeO.ite ?_ ?_)
      | (with_reducible refine LeO.bind ?_ (fun _ => ?_))
      | exact ih0 _ _ _ _ _ _ _ _
      | exact governorlaw12_head.mono _
      | exact pid_Next.mono _ _ _ _ _ _ _ _ _ _ _ _ _
      | exact LeO.none _
      | refine LeO.ite ?_ ?_
      | refine LeO.bind ?_ (fun _ => ?_)
theorem governorlaw12_PidSums.mono : ∀ a0 a1 k, LeO (governorlaw12_PidSums.f k a0 a1) (governorlaw12_PidSums.f (k + 1) a0 a1) := by
  intro a0 a1 k
  have ih0 := governorlaw12_PidSums.mono_l k
  unfold governorlaw12_PidSums.f
  repeat' first
      | (with_reducible exact ih0 _ _ _ _ _ _ _ _)
      | (with_reducible exact governorlaw12_head.mono _)
      | (with_reducible exact pid_Next.mono _ _ _ _ _ _ _ _ _ _ _ _ _)
      | (with_reducible exact LeO.refl _)
      | (with_reducible exact LeO.none _)
      | (with_reducible refine LeO.ite ?_ ?_)
      | (with_reducible refine LeO.bind ?_ (fun _ => ?_))
      | exact ih0 _ _ _ _ _ _ _ _
      | exact governorlaw12_head.mono _
      | exact pid_Next.mono _ _ _ _ _ _ _ _ _ _ _ _ _
      | exact LeO.none _
      | refine LeO.ite ?_ ?_
      | refine LeO.bind ?_ (fun _ => ?_)
def governorlaw12_PidSums.T9 : Bool × List (List Nat × List Nat) := (true, [([], []), ([0], [0]), ([], []), ([], []), ([], []), ([3, 4], [3, 4]), ([5], [5]), ([1, 2, 6, 1], [1, 2, 6]), ([7], [7]), ([8], [8]), ([8], [8]), ([], []), ([11, 9, 7, 0, 1, 2, 3, 4, 5, 6, 7, 8, 9, 11], [9, 11]), ([10, 12, 0, 1, 2, 3, 4, 5, 6, 7, 8, 9, 10, 11, 12], [10])])
def governorlaw12_PidSums.B9 : List Nat := [0, 1, 0, 0, 0, 24, 56, 127, 255, 511, 511, 0, 3071, 8191]
theorem governorlaw12_PidSums.tab9 : rtab .any (opsOf Try.f14 9) = governorlaw12_PidSums.T9 := by kernel_rfl
theorem governorlaw12_PidSums.bits9 : waitsOk governorlaw12_PidSums.T9.2 governorlaw12_PidSums.B9 = true := by kernel_rfl
set_option maxHeartbeats 8000000 in
set_option maxRecDepth 100000 in
theorem governorlaw12_PidSums.calls (k : Nat) (a0 : Int) (A1 : Option Addr) (c1 : Nat) (l1 : List Int) (r : Bool) (w : World) (hr1 : Kd.C (Kd.int .i64) w A1 l1.length l1) (hc1 : l1.length ≤ c1) (hrT : r = true) (h : governorlaw12_PidSums.f k a0 l1 = some r) :
    Calls Try.prog 14 #[.int .i64 a0, .slice A1 l1.length c1] w fun e w' => e = .returned (.bool r) ∧ Below w.heap.size w w' := by
  have hu37 := Try.underlying37
  have HR1 := Aside0.mk hr1
  have HC1 := Aside0.mk hc1
  clear hr1 hc1
  have HB := Aside0.mk (Below.refl w.heap.size w)
  have HRT := Aside0.mk hrT
  clear hrT
  have H : ((governorlaw12_head.f k).bind fun t525 => (if (l1.length : Int) > 900 then (some t525) else (governorlaw12_PidSums.l0 k a0 l1 t525 0 0 0 0 false))) = some r := h
  clear h
  replace H := Option.bind_eq_some_iff.mp H
  obtain ⟨t525, A30, H⟩ := H
  replace H : (if (l1.length : Int) > 900 then (some t525) else (governorlaw12_PidSums.l0 k a0 l1 t525 0 0 0 0 false)) = some r := H
  have A3 := Aside0.mk A30
  clear A30
  by_cases c4 : (l1.length : Int) > 900
  · rw [if_pos c4] at H
    have c4b0 : decide (900 < (l1.length : Int)) = true := decide_eq_true c4
    have c4b1 : decide (900 < l1.length) = true := decide_eq_true (by omega)
    clear c4
    obtain rfl := Option.some.inj H
    go_enter Try.func14, Try.ntmps14
    go_wp2_with (first | ((with_reducible refine gate_callee (f := 21) rfl ?_); refine goesL_ (some 12) rfl rfl Try.func21 (by kernel_rfl) rfl #[] rfl (by (try simp only [List.map_toArray, List.map_cons, List.map_nil]); first | done | rfl | (simp only [List.length_drop, List.length_take]; rfl)) ?_; (with_reducible refine (governorlaw12_head.calls k  t525 _ A3.out).mono ?_); rintro e w5 ⟨rfl, hb⟩; refine ⟨_, rfl, ?_⟩; have n0_ := Aside0.mk (below_step (by repeat (first | (with_reducible first | exact HB.out | apply below_alloc | apply pw_below_drewN | apply below_drew1) | exact HB.out)) hb); clear HB; have HB := n0_; clear n0_; (try clear hb); (try clear hb2); (try clear hk); (try clear hi)))
    go_ret
    exact ⟨by first | rfl | (simp [errW_none, errW_some] <;> rfl) | (simp [*, errW_none, errW_some] <;> rfl), by repeat (first | (with_reducible first | exact HB.out | apply below_alloc | apply pw_below_drewN | apply below_drew1) | exact HB.out)⟩
  · rw [if_neg c4] at H
    have c4b0 : decide (900 < (l1.length : Int)) = false := decide_eq_false c4
    have c4b1 : decide (900 < l1.length) = false := decide_eq_false (by omega)
    clear c4
    have H' := Aside0.mk H
    clear H
    go_enter Try.func14, Try.ntmps14
    go_wp2_with (first | ((with_reducible refine gate_callee (f := 21) rfl ?_); refine goesL_ (some 12) rfl rfl Try.func21 (by kernel_rfl) rfl #[] rfl (by (try simp only [List.map_toArray, List.map_cons, List.map_nil]); first | done | rfl | (simp only [List.length_drop, List.length_take]; rfl)) ?_; (with_reducible refine (governorlaw12_head.calls k  t525 _ A3.out).mono ?_); rintro e w6 ⟨rfl, hb⟩; refine ⟨_, rfl, ?_⟩; have n0_ := Aside0.mk (below_step (by repeat (first | (with_reducible first | exact HB.out | apply below_alloc | apply pw_below_drewN | apply below_drew1) | exact HB.out)) hb); clear HB; have HB := n0_; clear n0_; (try clear hb); (try clear hb2); (try clear hk); (try clear hi)) | ((with_reducible refine gate_dst (N := 6) rfl ?_); refine box_event ?hg (N := 6) ?hd (cs := #[.int .i64 0, .int .i64 0, .bool false]) (t := 37) ?hr ?_; (case hd => rfl); (case hg => rfl); (case hr => first | (go_simp; done) | (go_simp; rfl)); intro gb526 hg w7 hbox hb; have n0_ := Aside0.mk (below_step (by repeat (first | (with_reducible first | exact HB.out | apply below_alloc | apply pw_below_drewN | apply below_drew1) | exact HB.out)) hb); have n1_ := Aside0.mk (hbox); have n2_ := Aside0.mk ((by rw [hg]; exact (below_size (by repeat (first | (with_reducible first | exact HB.out | apply below_alloc | apply pw_below_drewN | apply below_drew1) | exact HB.out))) : w.heap.size ≤ gb526)); have n3_ := Aside0.mk ((by rw [hg]; exact (below_size (by repeat (first | (with_reducible first | exact HB.out | apply below_alloc | apply pw_below_drewN | apply below_drew1) | exact HB.out))) : w.heap.size ≤ gb526)); clear HB; have HB := n0_; have BK526 := n1_; have GW526 := n2_; have GE526 := n3_; clear n0_ n1_ n2_ n3_; clear hb hbox hg))
    go_loopg [7, 8] k (fun kq v7 v8 w' => ∃ (x7_1 : Int) (x8_1 : Int) (x527000_1 : Int) (x527001_1 : Int) (x527002_1 : Bool), v7 = .int .i64 x7_1 ∧ v8 = .int .i64 x8_1 ∧ Aside0 (governorlaw12_PidSums.l0 kq a0 l1 t525 x7_1 x8_1 x527000_1 x527001_1 x527002_1 = some r) ∧ Aside0 (kq ≤ k) ∧ Aside0 (w'.heap[gb526]? = some (.cells #[.int .i64 x527000_1, .int .i64 x527001_1, .bool x527002_1] 37 (0, 0))) ∧ Aside0 (Below w.heap.size w w'))
    case atStart => exact ⟨(0), (0), (0), (0), (false), (by first | rfl | (simp; done) | (simp [*]; done)), (by first | rfl | (simp; done) | (simp [*]; done)), H', ⟨Nat.le_refl _⟩, ⟨by (with_reducible repeat (first | refine blk_drewN ?_ _ | refine blk_drew ?_ | refine blk_alloc ?_ _)); exact BK526.out⟩, ⟨by repeat (first | (with_reducible first | exact HB.out | apply below_alloc | apply pw_below_drewN | apply below_drew1 | refine below_set ?_ GE526.out) | exact HB.out)⟩⟩
    case round =>
      clear H'
      try clear c1
      try clear c2
      try clear p2
      try clear c4
      try clear c4b0
      try clear c4b1
      obtain ⟨x7_1, x8_1, x527000_1, x527001_1, x527002_1, rfl, rfl, HA, HK1, BK526, HB⟩ := hrel
      cases gk with
      | zero => exact absurd HA.out (by simp [governorlaw12_PidSums.l0])
      | succ k1 =>
        have H := HA.out
        clear HA
        simp only [governorlaw12_PidSums.l0] at H
        by_cases c8 : x8_1 < (l1.length : Int)
        · rw [if_pos c8] at H
          have c8b0 : decide (x8_1 < (l1.length : Int)) = true := decide_eq_true c8
          clear c8
          replace H := Option.bind_eq_some_iff.mp H
          obtain ⟨⟨t527, t528, t529, t532, t533, t534, t535, t536⟩, A90, H⟩ := H
          replace H : (if 0 ≤ x8_1 then ((pid_Next.f k1 t527 t528 t529 t532 t533 t534 t535 t536 x527000_1 x527001_1 x527002_1 (rd l1 x8_1)).bind fun bt540 => ((governorref08_Sub.f (rd l1 x8_1) a0).bind fun t546 => ((governorref08_Add.f x7_1 t546).bind fun t547 => (if bt540.2.2.2 = 0 then (if bt540.1 = t547 then (if bt540.2.1 = t546 then (if bt540.2.2.1 = true then (governorlaw12_PidSums.l0 k1 a0 l1 t525 t547 (wrap64 (x8_1 + 1)) bt540.1 bt540.2.1 bt540.2.2.1) else (some false)) else (some false)) else (some false)) else (some false))))) else (none)) = some r := H
          have A9 := Aside0.mk A90
          clear A90
          by_cases c10 : 0 ≤ x8_1
          · rw [if_pos c10] at H
            have c10b0 : decide (0 ≤ x8_1) = true := decide_eq_true c10
            clear c10
            replace H := Option.bind_eq_some_iff.mp H
            obtain ⟨⟨t540, t541, t542, t543⟩, A110, H⟩ := H
            replace H : ((governorref08_Sub.f (rd l1 x8_1) a0).bind fun t546 => ((governorref08_Add.f x7_1 t546).bind fun t547 => (if t543 = 0 then (if t540 = t547 then (if t541 = t546 then (if t542 = true then (governorlaw12_PidSums.l0 k1 a0 l1 t525 t547 (wrap64 (x8_1 + 1)) t540 t541 t542) else (some false)) else (some false)) else (some false)) else (some false)))) = some r := H
            have A11 := Aside0.mk A110
            clear A110
            replace H := Option.bind_eq_some_iff.mp H
            obtain ⟨t546, A120, H⟩ := H
            replace H : ((governorref08_Add.f x7_1 t546).bind fun t547 => (if t543 = 0 then (if t540 = t547 then (if t541 = t546 then (if t542 = true then (governorlaw12_PidSums.l0 k1 a0 l1 t525 t547 (wrap64 (x8_1 + 1)) t540 t541 t542) else (some false)) else (some false)) else (some false)) else (some false))) = some r := H
            have A12 := Aside0.mk A120
            clear A120
            replace H := Option.bind_eq_some_iff.mp H
            obtain ⟨t547, A130, H⟩ := H
            replace H : (if t543 = 0 then (if t540 = t547 then (if t541 = t546 then (if t542 = true then (governorlaw12_PidSums.l0 k1 a0 l1 t525 t547 (wrap64 (x8_1 + 1)) t540 t541 t542) else (some false)) else (some false)) else (some false)) else (some false)) = some r := H
            have A13 := Aside0.mk A130
            clear A130
            by_cases c14 : t543 = 0
            · rw [if_pos c14] at H
              have c14b0 : (t543 == 0) = true := beq_iff_eq.mpr c14
              have c14b1 : (t543 != 0) = false := bne_eq_false_iff_eq.mpr c14
              clear c14
              by_cases c15 : t540 = t547
              · rw [if_pos c15] at H
                have c15b0 : (t540 == t547) = true := beq_iff_eq.mpr c15
                have c15b1 : (t540 != t547) = false := bne_eq_false_iff_eq.mpr c15
                clear c15
                by_cases c16 : t541 = t546
                · rw [if_pos c16] at H
                  have c16b0 : (t541 == t546) = true := beq_iff_eq.mpr c16
                  have c16b1 : (t541 != t546) = false := bne_eq_false_iff_eq.mpr c16
                  clear c16
                  by_cases c17 : t542 = true
                  · subst c17
                    have H1 : (governorlaw12_PidSums.l0 k1 a0 l1 t525 t547 (wrap64 (x8_1 + 1)) t540 t541 true) = some r := by rw [if_pos rfl] at H; exact H
                    clear H
                    have H := H1
                    clear H1
                    have H' := Aside0.mk H
                    clear H
                    try go_wp2
                    have n0_ := Aside0.mk (blk_drew BK526.out)
                    have n1_ := Aside0.mk (below_drew1 HB.out)
                    clear BK526
                    clear HB
                    have BK526 := n0_
                    have HB := n1_
                    clear n0_ n1_
                    have p539 : 0 ≤ (x8_1 : Int) := of_decide_eq_true (by first | (with_reducible assumption) | assumption)
                    have q539 : x8_1 < (l1.length : Int) := of_decide_eq_true (by first | (with_reducible assumption) | assumption)
                    obtain ⟨ad539, e539, hx539_0⟩ := Kd.at_int HR1.out x8_1 p539 q539
                    have hw539_0 := hx539_0
                    cases e539
                    replace hx539_0 := (HB.out.cell (World.block_lt_of_cell? w _ hx539_0)).trans hx539_0
                    replace p539 := eq_true p539
                    replace q539 := eq_true q539
                    refine start_ (n := 14) (S := fun w' => w'.cell? ⟨gb526, 0, none⟩ = some (.int .i64 x527000_1) ∧ w'.cell? ⟨gb526, 1, none⟩ = some (.int .i64 x527001_1) ∧ w'.cell? ⟨gb526, 2, none⟩ = some (.bool x527002_1) ∧ w'.cell? (ad539.add (x8_1).toNat) = some (.int .i64 (rd l1 x8_1))) (ds := []) #[false, false, false, false, false, false, false, false, false, false, false, false, false, false] (by kernel_rfl) rfl rfl ⟨(blk_cell BK526.out 0).trans rfl, (blk_cell BK526.out 1).trans rfl, (blk_cell BK526.out 2).trans rfl, ((HB.out.cell (World.block_lt_of_cell? w _ hw539_0)).trans hw539_0)⟩ (fun hHeld => ?_); refine with_tabW governorlaw12_PidSums.tab9 governorlaw12_PidSums.bits9 (fun HT_ HW_ => ?_)
                    generalize wr.drew = w18 at BK526 HB hx539_0 hHeld ⊢
                    refine pure_ (i := 0) (N := some 24) (v := ?_) (a' := ?_) #[true, false, false, false, false, false, false, false, false, false, false, false, false, false] rfl rfl (any_of HT_.out (by kernel_rfl)) (fun _ _ _ h => h) (Or.inl ⟨by rfl, ?_⟩) ?_ ?_
                    rotate_left
                    · intro w'
                      go_simp
                      with_reducible rfl
                    rotate_left
                    · simp only [Act.put, List.setIfInBounds_toArray, List.set_cons_zero, List.set_cons_succ, i64_w, i32_w]
                      rfl
                    refine pure_ (i := 3) (N := some 27) (v := ?_) (a' := ?_) #[true, false, false, true, false, false, false, false, false, false, false, false, false, false] rfl rfl (any_of HT_.out (by kernel_rfl)) (fun _ _ _ h => h) (Or.inl ⟨by rfl, ?_⟩) ?_ ?_
                    rotate_left
                    · intro w'
                      go_simp
                      with_reducible rfl
                    rotate_left
                    · simp only [Act.put, List.setIfInBounds_toArray, List.set_cons_zero, List.set_cons_succ, i64_w, i32_w]
                      rfl
                    refine pure_ (i := 4) (N := some 28) (v := ?_) (a' := ?_) #[true, false, false, true, true, false, false, false, false, false, false, false, false, false] rfl rfl (any_of HT_.out (by kernel_rfl)) (fun _ _ _ h => h) (Or.inl ⟨by rfl, ?_⟩) ?_ ?_
                    rotate_left
                    · intro w'
                      go_simp
                      with_reducible rfl
                    rotate_left
                    · simp only [Act.put, List.setIfInBounds_toArray, List.set_cons_zero, List.set_cons_succ, i64_w, i32_w]
                      rfl
                    refine pure_ (i := 5) (N := some 29) (v := ?_) (a' := ?_) #[true, false, false, true, true, true, false, false, false, false, false, false, false, false] rfl rfl (any_of HT_.out (by kernel_rfl)) (fun _ _ _ h => h) (Or.inl ⟨by rfl, ?_⟩) ?_ ?_
                    rotate_left
                    · intro w'
                      go_simp
                      with_reducible rfl
                    rotate_left
                    · simp only [Act.put, List.setIfInBounds_toArray, List.set_cons_zero, List.set_cons_succ, i64_w, i32_w]
                      rfl
                    refine take_ (i := 2) (N := some 26) (v := ?_) (a' := ?_) #[true, false, true, true, true, true, false, false, false, false, false, false, false, false] rfl rfl (take_ofW HT_.out HW_.out (by kernel_rfl)) (fun _ _ _ h => h) (Or.inl ⟨by rfl, ?_⟩) hHeld ?_ ?_
                    rotate_left
                    · rintro w' ⟨s0, s1, s2, s3⟩
                      go_simp
                      with_reducible rfl
                    rotate_left
                    · simp only [Act.put, List.setIfInBounds_toArray, List.set_cons_zero, List.set_cons_succ, i64_w, i32_w]
                      rfl
                    refine take_ (i := 6) (N := some 30) (v := ?_) (a' := ?_) #[true, false, true, true, true, true, true, false, false, false, false, false, false, false] rfl rfl (take_ofW HT_.out HW_.out (by kernel_rfl)) (fun _ _ _ h => h) (Or.inl ⟨by rfl, ?_⟩) hHeld ?_ ?_
                    rotate_left
                    · rintro w' ⟨s0, s1, s2, s3⟩
                      go_simp
                      with_reducible rfl
                    rotate_left
                    · simp only [Act.put, List.setIfInBounds_toArray, List.set_cons_zero, List.set_cons_succ, i64_w, i32_w]
                      rfl
                    refine join_ (σ := Value × Value × Nat) 2 #[true, true, true, true, true, true, true, true, true, true, true, true, false, false] (fun s_ => [(25, .agg #[.int .i64 t527, .int .i64 t528, s_.1, .int .i64 t532, .int .i64 t533, .int .i64 t534, .int .i64 t535, s_.2.1]), (31, .tuple #[.agg #[.int .i64 t540, .int .i64 t541, .bool true], .int .i64 t543]), (9, .pointer (some ⟨s_.2.2, 0, none⟩)), (23, .tuple #[.agg #[.int .i64 t540, .int .i64 t541, .bool true], .int .i64 t543]), (32, .agg #[.int .i64 t540, .int .i64 t541, .bool true]), (33, .int .i64 t543)]) (fun s_ w' => (w'.cell? ⟨gb526, 0, none⟩ = some (.int .i64 x527000_1) ∧ w'.cell? ⟨gb526, 1, none⟩ = some (.int .i64 x527001_1) ∧ w'.cell? ⟨gb526, 2, none⟩ = some (.bool x527002_1) ∧ w'.cell? (ad539.add (x8_1).toNat) = some (.int .i64 (rd l1 x8_1))) ∧ (Kd.R k29 29 w' w.heap.size (fun _ => True) s_.1 t529) ∧ (Kd.R k71 71 w' w.heap.size (fun _ => True) s_.2.1 t536) ∧ (w'.heap[gb526]? = some (.cells #[.int .i64 x527000_1, .int .i64 x527001_1, .bool x527002_1] 37 (0, 0))) ∧ (w'.heap[s_.2.2]? = some (.cells #[.int .i64 0, .int .i64 0, .bool false] 37 (0, 0))) ∧ (w.heap.size ≤ s_.2.2) ∧ (w.heap.size ≤ s_.2.2) ∧ (gb526 ≠ s_.2.2) ∧ (s_.2.2 ≠ gb526) ∧ (Below w.heap.size w w')) ?_ ?_
                    rotate_left
                    · intro hCont
                      refine two_ (i := 1) (j := 11) (Ni := some 25) (Nj := some 9) #[true, true, true, true, true, true, true, false, false, false, false, false, false, false] #[true, false, true, true, true, true, true, false, false, false, false, true, false, false] rfl rfl rfl rfl (two_of HT_.out (by kernel_rfl)) (by decide) (by decide) (fun K hK => ?_) (fun K hK => ?_)
                      · skip
                        refine goes_ Try.func23 (by kernel_rfl) rfl #[.int .i64 a0, .int .i64 0, .int .i64 0, .int .i64 0] (by rfl) rfl rfl (by (try simp only [List.map_toArray, List.map_cons, List.map_nil]); first | done | rfl | (simp only [List.length_drop, List.length_take]; rfl)) ?_
                        with_reducible refine (governorlaw12_Of.calls a0 0 0 0 t527 t528 t529 t532 t533 t534 t535 t536 _ A9.out).mono ?_
                        rintro e w19 ⟨v530, v537, rfl, ho0, ho1, hb⟩
                        refine ⟨_, rfl, ?_⟩
                        have n0_ := Aside0.mk (Kd.R_lower ho0 (below_size (by repeat (first | (with_reducible first | exact HB.out | apply below_alloc | apply pw_below_drewN | apply below_drew1 | refine below_set ?_ GE526.out) | exact HB.out))))
                        have n1_ := Aside0.mk (Kd.R_lower ho1 (below_size (by repeat (first | (with_reducible first | exact HB.out | apply below_alloc | apply pw_below_drewN | apply below_drew1 | refine below_set ?_ GE526.out) | exact HB.out))))
                        have n2_ := Aside0.mk (blk_below (g := gb526) (o := .cells #[.int .i64 x527000_1, .int .i64 x527001_1, .bool x527002_1] 37 (0, 0)) (by (with_reducible repeat (first | refine blk_drewN ?_ _ | refine blk_drew ?_ | refine blk_alloc ?_ _)); exact BK526.out) hb)
                        have n3_ := Aside0.mk (below_step (by repeat (first | (with_reducible first | exact HB.out | apply below_alloc | apply pw_below_drewN | apply below_drew1 | refine below_set ?_ GE526.out) | exact HB.out)) hb)
                        clear BK526
                        clear HB
                        have HO531 := n0_
                        have HO538 := n1_
                        have BK526 := n2_
                        have HB := n3_
                        clear n0_ n1_ n2_ n3_
                        (try clear hb)
                        (try clear hb2)
                        (try clear hk)
                        (try clear hi)
                        (try clear ho0)
                        (try clear ho1)
                        obtain ⟨Ao20, co20, eo20⟩ := Kd.R_slice HO531.out
                        (first | subst eo20 | (injection eo20 with f1_ f2_ f3_; have f4_ := f1_.symm; have f5_ := f3_.symm; clear f1_ f2_ f3_; subst f4_; subst f5_))
                        obtain ⟨Ao21, co21, eo21⟩ := Kd.R_slice HO538.out
                        (first | subst eo21 | (injection eo21 with f1_ f2_ f3_; have f4_ := f1_.symm; have f5_ := f3_.symm; clear f1_ f2_ f3_; subst f4_; subst f5_))
                        refine hK.out _ _ ⟨(blk_cell BK526.out 0).trans rfl, (blk_cell BK526.out 1).trans rfl, (blk_cell BK526.out 2).trans rfl, ((HB.out.cell (World.block_lt_of_cell? w _ hw539_0)).trans hw539_0)⟩ (fun hHeld => ?_)
                        clear hK K
                        refine norm_ (a' := ?_) ?_ ?_
                        rotate_left
                        · show Act.put _ (some 25) _ = _
                          simp only [Act.put, List.setIfInBounds_toArray, List.set_cons_zero, List.set_cons_succ, i64_w, i32_w]
                          rfl
                        refine two_ (i := 7) (j := 11) (Ni := some 31) (Nj := some 9) #[true, true, true, true, true, true, true, true, false, false, false, false, false, false] #[true, true, true, true, true, true, true, false, false, false, false, true, false, false] rfl rfl rfl rfl (two_of HT_.out (by kernel_rfl)) (by decide) (by decide) (fun K hK => ?_) (fun K hK => ?_)
                        · skip
                          refine goes_ Try.func22 (by kernel_rfl) rfl #[.agg #[.int .i64 t527, .int .i64 t528, .slice Ao20 t529.length co20, .int .i64 t532, .int .i64 t533, .int .i64 t534, .int .i64 t535, .slice Ao21 t536.length co21], .agg #[.int .i64 x527000_1, .int .i64 x527001_1, .bool x527002_1], .int .i64 (rd l1 x8_1)] (by rfl) rfl rfl (by (try simp only [List.map_toArray, List.map_cons, List.map_nil]); first | done | rfl | (simp only [List.length_drop, List.length_take]; rfl)) ?_
                          with_reducible refine (pid_Next.calls k1 t527 t528 _ _ t529 t532 t533 t534 t535 _ _ t536 x527000_1 x527001_1 x527002_1 (rd l1 x8_1) t540 t541 true t543 _ ?side1 ?side2 ?side3 ?side4 A11.out).mono ?_
                          (case side1 => repeat (first | exact (Kd.R_reads' HO531.out).2.2 | (with_reducible refine Kd.C_alloc ?_ _) | (with_reducible refine Kd.C_drewN ?_ _) | (with_reducible refine Kd.C_drew ?_)))
                          (case side2 => exact (Kd.R_reads' HO531.out).2.1)
                          (case side3 => repeat (first | exact (Kd.R_reads' HO538.out).2.2 | (with_reducible refine Kd.C_alloc ?_ _) | (with_reducible refine Kd.C_drewN ?_ _) | (with_reducible refine Kd.C_drew ?_)))
                          (case side4 => exact (Kd.R_reads' HO538.out).2.1)
                          rintro e w22 ⟨rfl, hb⟩
                          refine ⟨_, rfl, ?_⟩
                          have n0_ := Aside0.mk (Kd.R_below (by (with_reducible repeat (first | apply Kd.R_alloc | apply Kd.R_drewN | apply Kd.R_drew)); exact HO531.out) hb)
                          have n1_ := Aside0.mk (Kd.R_below (by (with_reducible repeat (first | apply Kd.R_alloc | apply Kd.R_drewN | apply Kd.R_drew)); exact HO538.out) hb)
                          have n2_ := Aside0.mk (blk_below (g := gb526) (o := .cells #[.int .i64 x527000_1, .int .i64 x527001_1, .bool x527002_1] 37 (0, 0)) (by (with_reducible repeat (first | refine blk_drewN ?_ _ | refine blk_drew ?_ | refine blk_alloc ?_ _)); exact BK526.out) hb)
                          have n3_ := Aside0.mk (below_step (by repeat (first | (with_reducible first | exact HB.out | apply below_alloc | apply pw_below_drewN | apply below_drew1 | refine below_set ?_ GE526.out) | exact HB.out)) hb)
                          clear HO531
                          clear HO538
                          clear BK526
                          clear HB
                          have HO531 := n0_
                          have HO538 := n1_
                          have BK526 := n2_
                          have HB := n3_
                          clear n0_ n1_ n2_ n3_
                          (try clear hb)
                          (try clear hb2)
                          (try clear hk)
                          (try clear hi)
                          refine hK.out _ _ ⟨(blk_cell BK526.out 0).trans rfl, (blk_cell BK526.out 1).trans rfl, (blk_cell BK526.out 2).trans rfl, ((HB.out.cell (World.block_lt_of_cell? w _ hw539_0)).trans hw539_0)⟩ (fun hHeld => ?_)
                          clear hK K
                          refine norm_ (a' := ?_) ?_ ?_
                          rotate_left
                          · show Act.put _ (some 31) _ = _
                            simp only [Act.put, List.setIfInBounds_toArray, List.set_cons_zero, List.set_cons_succ, i64_w, i32_w]
                            rfl
                          refine pure_ (i := 8) (N := some 23) (v := ?_) (a' := ?_) #[true, true, true, true, true, true, true, true, true, false, false, false, false, false] rfl rfl (any_of HT_.out (by kernel_rfl)) (fun _ _ _ h => h) (Or.inl ⟨by rfl, ?_⟩) ?_ ?_
                          rotate_left
                          · intro w'
                            go_simp
                            with_reducible rfl
                          rotate_left
                          · simp only [Act.put, List.setIfInBounds_toArray, List.set_cons_zero, List.set_cons_succ, i64_w, i32_w]
                            rfl
                          refine pure_ (i := 9) (N := some 32) (v := ?_) (a' := ?_) #[true, true, true, true, true, true, true, true, true, true, false, false, false, false] rfl rfl (any_of HT_.out (by kernel_rfl)) (fun _ _ _ h => h) (Or.inl ⟨by rfl, ?_⟩) ?_ ?_
                          rotate_left
                          · intro w'
                            go_simp
                            with_reducible rfl
                          rotate_left
                          · simp only [Act.put, List.setIfInBounds_toArray, List.set_cons_zero, List.set_cons_succ, i64_w, i32_w]
                            rfl
                          refine pure_ (i := 10) (N := some 33) (v := ?_) (a' := ?_) #[true, true, true, true, true, true, true, true, true, true, true, false, false, false] rfl rfl (any_of HT_.out (by kernel_rfl)) (fun _ _ _ h => h) (Or.inl ⟨by rfl, ?_⟩) ?_ ?_
                          rotate_left
                          · intro w'
                            go_simp
                            with_reducible rfl
                          rotate_left
                          · simp only [Act.put, List.setIfInBounds_toArray, List.set_cons_zero, List.set_cons_succ, i64_w, i32_w]
                            rfl
                          refine one_ (i := 11) (N := some 9) #[true, true, true, true, true, true, true, true, true, true, true, true, false, false] rfl rfl (one_of HT_.out (by kernel_rfl)) (by decide) (fun K hK => ?_)
                          refine box_step ?hg (N := 9) ?hd (cs := #[.int .i64 0, .int .i64 0, .bool false]) (t := 37) ?hr ?_; (case hd => rfl); (case hg => rfl); (case hr => first | (go_simp; done) | (go_simp; rfl))
                          intro gb544 hg w23 hbox hb
                          have n0_ := Aside0.mk (Kd.R_below (by (with_reducible repeat (first | apply Kd.R_alloc | apply Kd.R_drewN | apply Kd.R_drew)); exact HO531.out) hb)
                          have n1_ := Aside0.mk (Kd.R_below (by (with_reducible repeat (first | apply Kd.R_alloc | apply Kd.R_drewN | apply Kd.R_drew)); exact HO538.out) hb)
                          have n2_ := Aside0.mk (blk_below (g := gb526) (o := .cells #[.int .i64 x527000_1, .int .i64 x527001_1, .bool x527002_1] 37 (0, 0)) (by (with_reducible repeat (first | refine blk_drewN ?_ _ | refine blk_drew ?_ | refine blk_alloc ?_ _)); exact BK526.out) hb)
                          have n3_ := Aside0.mk (below_step (by repeat (first | (with_reducible first | exact HB.out | apply below_alloc | apply pw_below_drewN | apply below_drew1 | refine below_set ?_ GE526.out) | exact HB.out)) hb)
                          have n4_ := Aside0.mk (hbox)
                          have n5_ := Aside0.mk ((by rw [hg]; exact (below_size (by repeat (first | (with_reducible first | exact HB.out | apply below_alloc | apply pw_below_drewN | apply below_drew1 | refine below_set ?_ GE526.out) | exact HB.out))) : w.heap.size ≤ gb544))
                          have n6_ := Aside0.mk ((by rw [hg]; exact (below_size (by repeat (first | (with_reducible first | exact HB.out | apply below_alloc | apply pw_below_drewN | apply below_drew1 | refine below_set ?_ GE526.out) | exact HB.out))) : w.heap.size ≤ gb544))
                          have n7_ := Aside0.mk ((by rw [hg]; exact Nat.ne_of_lt (blk_lt (g := gb526) (o := .cells #[.int .i64 x527000_1, .int .i64 x527001_1, .bool x527002_1] 37 (0, 0)) (by (with_reducible repeat (first | refine blk_drewN ?_ _ | refine blk_drew ?_ | refine blk_alloc ?_ _)); exact BK526.out)) : gb526 ≠ gb544))
                          have n8_ := Aside0.mk ((by rw [hg]; exact Nat.ne_of_gt (blk_lt (g := gb526) (o := .cells #[.int .i64 x527000_1, .int .i64 x527001_1, .bool x527002_1] 37 (0, 0)) (by (with_reducible repeat (first | refine blk_drewN ?_ _ | refine blk_drew ?_ | refine blk_alloc ?_ _)); exact BK526.out)) : gb544 ≠ gb526))
                          clear HO531
                          clear HO538
                          clear BK526
                          clear HB
                          have HO531 := n0_
                          have HO538 := n1_
                          have BK526 := n2_
                          have HB := n3_
                          have BK544 := n4_
                          have GW544 := n5_
                          have GE544 := n6_
                          have NB526_544 := n7_
                          have NB544_526 := n8_
                          clear n0_ n1_ n2_ n3_ n4_ n5_ n6_ n7_ n8_
                          clear hb hbox hg
                          refine hK.out _ _ ⟨(blk_cell BK526.out 0).trans rfl, (blk_cell BK526.out 1).trans rfl, (blk_cell BK526.out 2).trans rfl, ((HB.out.cell (World.block_lt_of_cell? w _ hw539_0)).trans hw539_0)⟩ (fun hHeld => ?_)
                          clear hK K
                          refine norm_ (a' := ?_) ?_ ?_
                          rotate_left
                          · show Act.put _ (some 9) _ = _
                            simp only [Act.put, List.setIfInBounds_toArray, List.set_cons_zero, List.set_cons_succ, i64_w, i32_w]
                            rfl
                          exact norm_ (by simp only [putAll, Act.put, List.setIfInBounds_toArray, List.set_cons_zero, List.set_cons_succ]) (hCont (.slice Ao20 t529.length co20, .slice Ao21 t536.length co21, gb544) _ ⟨hHeld, (by (with_reducible repeat (first | apply Kd.R_alloc | apply Kd.R_drewN | apply Kd.R_drew)); exact HO531.out), (by (with_reducible repeat (first | apply Kd.R_alloc | apply Kd.R_drewN | apply Kd.R_drew)); exact HO538.out), (by (with_reducible repeat (first | refine blk_drewN ?_ _ | refine blk_drew ?_ | refine blk_alloc ?_ _)); exact BK526.out), (by (with_reducible repeat (first | refine blk_drewN ?_ _ | refine blk_drew ?_ | refine blk_alloc ?_ _)); exact BK544.out), GW544.out, GE544.out, NB526_544.out, NB544_526.out, (by repeat (first | (with_reducible first | exact HB.out | apply below_alloc | apply pw_below_drewN | apply below_drew1 | refine below_set ?_ GE526.out | refine below_set ?_ GE544.out) | exact HB.out))⟩)
                        · skip
                          refine box_step ?hg (N := 9) ?hd (cs := #[.int .i64 0, .int .i64 0, .bool false]) (t := 37) ?hr ?_; (case hd => rfl); (case hg => rfl); (case hr => first | (go_simp; done) | (go_simp; rfl))
                          intro gb544 hg w20 hbox hb
                          have n0_ := Aside0.mk (Kd.R_below (by (with_reducible repeat (first | apply Kd.R_alloc | apply Kd.R_drewN | apply Kd.R_drew)); exact HO531.out) hb)
                          have n1_ := Aside0.mk (Kd.R_below (by (with_reducible repeat (first | apply Kd.R_alloc | apply Kd.R_drewN | apply Kd.R_drew)); exact HO538.out) hb)
                          have n2_ := Aside0.mk (blk_below (g := gb526) (o := .cells #[.int .i64 x527000_1, .int .i64 x527001_1, .bool x527002_1] 37 (0, 0)) (by (with_reducible repeat (first | refine blk_drewN ?_ _ | refine blk_drew ?_ | refine blk_alloc ?_ _)); exact BK526.out) hb)
                          have n3_ := Aside0.mk (below_step (by repeat (first | (with_reducible first | exact HB.out | apply below_alloc | apply pw_below_drewN | apply below_drew1 | refine below_set ?_ GE526.out) | exact HB.out)) hb)
                          have n4_ := Aside0.mk (hbox)
                          have n5_ := Aside0.mk ((by rw [hg]; exact (below_size (by repeat (first | (with_reducible first | exact HB.out | apply below_alloc | apply pw_below_drewN | apply below_drew1 | refine below_set ?_ GE526.out) | exact HB.out))) : w.heap.size ≤ gb544))
                          have n6_ := Aside0.mk ((by rw [hg]; exact (below_size (by repeat (first | (with_reducible first | exact HB.out | apply below_alloc | apply pw_below_drewN | apply below_drew1 | refine below_set ?_ GE526.out) | exact HB.out))) : w.heap.size ≤ gb544))
                          have n7_ := Aside0.mk ((by rw [hg]; exact Nat.ne_of_lt (blk_lt (g := gb526) (o := .cells #[.int .i64 x527000_1, .int .i64 x527001_1, .bool x527002_1] 37 (0, 0)) (by (with_reducible repeat (first | refine blk_drewN ?_ _ | refine blk_drew ?_ | refine blk_alloc ?_ _)); exact BK526.out)) : gb526 ≠ gb544))
                          have n8_ := Aside0.mk ((by rw [hg]; exact Nat.ne_of_gt (blk_lt (g := gb526) (o := .cells #[.int .i64 x527000_1, .int .i64 x527001_1, .bool x527002_1] 37 (0, 0)) (by (with_reducible repeat (first | refine blk_drewN ?_ _ | refine blk_drew ?_ | refine blk_alloc ?_ _)); exact BK526.out)) : gb544 ≠ gb526))
                          clear HO531
                          clear HO538
                          clear BK526
                          clear HB
                          have HO531 := n0_
                          have HO538 := n1_
                          have BK526 := n2_
                          have HB := n3_
                          have BK544 := n4_
                          have GW544 := n5_
                          have GE544 := n6_
                          have NB526_544 := n7_
                          have NB544_526 := n8_
                          clear n0_ n1_ n2_ n3_ n4_ n5_ n6_ n7_ n8_
                          clear hb hbox hg
                          obtain ⟨Ao21, co21, eo21⟩ := Kd.R_slice HO531.out
                          (first | subst eo21 | (injection eo21 with f1_ f2_ f3_; have f4_ := f1_.symm; have f5_ := f3_.symm; clear f1_ f2_ f3_; subst f4_; subst f5_))
                          obtain ⟨Ao22, co22, eo22⟩ := Kd.R_slice HO538.out
                          (first | subst eo22 | (injection eo22 with f1_ f2_ f3_; have f4_ := f1_.symm; have f5_ := f3_.symm; clear f1_ f2_ f3_; subst f4_; subst f5_))
                          refine hK.out _ _ ⟨(blk_cell BK526.out 0).trans rfl, (blk_cell BK526.out 1).trans rfl, (blk_cell BK526.out 2).trans rfl, ((HB.out.cell (World.block_lt_of_cell? w _ hw539_0)).trans hw539_0)⟩ (fun hHeld => ?_)
                          clear hK K
                          refine norm_ (a' := ?_) ?_ ?_
                          rotate_left
                          · show Act.put _ (some 9) _ = _
                            simp only [Act.put, List.setIfInBounds_toArray, List.set_cons_zero, List.set_cons_succ, i64_w, i32_w]
                            rfl
                          refine one_ (i := 7) (N := some 31) #[true, true, true, true, true, true, true, true, false, false, false, true, false, false] rfl rfl (one_of HT_.out (by kernel_rfl)) (by decide) (fun K hK => ?_)
                          refine goes_ Try.func22 (by kernel_rfl) rfl #[.agg #[.int .i64 t527, .int .i64 t528, .slice Ao21 t529.length co21, .int .i64 t532, .int .i64 t533, .int .i64 t534, .int .i64 t535, .slice Ao22 t536.length co22], .agg #[.int .i64 x527000_1, .int .i64 x527001_1, .bool x527002_1], .int .i64 (rd l1 x8_1)] (by rfl) rfl rfl (by (try simp only [List.map_toArray, List.map_cons, List.map_nil]); first | done | rfl | (simp only [List.length_drop, List.length_take]; rfl)) ?_
                          with_reducible refine (pid_Next.calls k1 t527 t528 _ _ t529 t532 t533 t534 t535 _ _ t536 x527000_1 x527001_1 x527002_1 (rd l1 x8_1) t540 t541 true t543 _ ?side1 ?side2 ?side3 ?side4 A11.out).mono ?_
                          (case side1 => repeat (first | exact (Kd.R_reads' HO531.out).2.2 | (with_reducible refine Kd.C_alloc ?_ _) | (with_reducible refine Kd.C_drewN ?_ _) | (with_reducible refine Kd.C_drew ?_)))
                          (case side2 => exact (Kd.R_reads' HO531.out).2.1)
                          (case side3 => repeat (first | exact (Kd.R_reads' HO538.out).2.2 | (with_reducible refine Kd.C_alloc ?_ _) | (with_reducible refine Kd.C_drewN ?_ _) | (with_reducible refine Kd.C_drew ?_)))
                          (case side4 => exact (Kd.R_reads' HO538.out).2.1)
                          rintro e w23 ⟨rfl, hb⟩
                          refine ⟨_, rfl, ?_⟩
                          have n0_ := Aside0.mk (Kd.R_below (by (with_reducible repeat (first | apply Kd.R_alloc | apply Kd.R_drewN | apply Kd.R_drew)); exact HO531.out) hb)
                          have n1_ := Aside0.mk (Kd.R_below (by (with_reducible repeat (first | apply Kd.R_alloc | apply Kd.R_drewN | apply Kd.R_drew)); exact HO538.out) hb)
                          have n2_ := Aside0.mk (blk_below (g := gb526) (o := .cells #[.int .i64 x527000_1, .int .i64 x527001_1, .bool x527002_1] 37 (0, 0)) (by (with_reducible repeat (first | refine blk_drewN ?_ _ | refine blk_drew ?_ | refine blk_alloc ?_ _)); exact BK526.out) hb)
                          have n3_ := Aside0.mk (blk_below (g := gb544) (o := .cells #[.int .i64 0, .int .i64 0, .bool false] 37 (0, 0)) (by (with_reducible repeat (first | refine blk_drewN ?_ _ | refine blk_drew ?_ | refine blk_alloc ?_ _)); exact BK544.out) hb)
                          have n4_ := Aside0.mk (below_step (by repeat (first | (with_reducible first | exact HB.out | apply below_alloc | apply pw_below_drewN | apply below_drew1 | refine below_set ?_ GE526.out | refine below_set ?_ GE544.out) | exact HB.out)) hb)
                          clear HO531
                          clear HO538
                          clear BK526
                          clear BK544
                          clear HB
                          have HO531 := n0_
                          have HO538 := n1_
                          have BK526 := n2_
                          have BK544 := n3_
                          have HB := n4_
                          clear n0_ n1_ n2_ n3_ n4_
                          (try clear hb)
                          (try clear hb2)
                          (try clear hk)
                          (try clear hi)
                          refine hK.out _ _ ⟨(blk_cell BK526.out 0).trans rfl, (blk_cell BK526.out 1).trans rfl, (blk_cell BK526.out 2).trans rfl, ((HB.out.cell (World.block_lt_of_cell? w _ hw539_0)).trans hw539_0)⟩ (fun hHeld => ?_)
                          clear hK K
                          refine norm_ (a' := ?_) ?_ ?_
                          rotate_left
                          · show Act.put _ (some 31) _ = _
                            simp only [Act.put, List.setIfInBounds_toArray, List.set_cons_zero, List.set_cons_succ, i64_w, i32_w]
                            rfl
                          refine pure_ (i := 8) (N := some 23) (v := ?_) (a' := ?_) #[true, true, true, true, true, true, true, true, true, false, false, true, false, false] rfl rfl (any_of HT_.out (by kernel_rfl)) (fun _ _ _ h => h) (Or.inl ⟨by rfl, ?_⟩) ?_ ?_
                          rotate_left
                          · intro w'
                            go_simp
                            with_reducible rfl
                          rotate_left
                          · simp only [Act.put, List.setIfInBounds_toArray, List.set_cons_zero, List.set_cons_succ, i64_w, i32_w]
                            rfl
                          refine pure_ (i := 9) (N := some 32) (v := ?_) (a' := ?_) #[true, true, true, true, true, true, true, true, true, true, false, true, false, false] rfl rfl (any_of HT_.out (by kernel_rfl)) (fun _ _ _ h => h) (Or.inl ⟨by rfl, ?_⟩) ?_ ?_
                          rotate_left
                          · intro w'
                            go_simp
                            with_reducible rfl
                          rotate_left
                          · simp only [Act.put, List.setIfInBounds_toArray, List.set_cons_zero, List.set_cons_succ, i64_w, i32_w]
                            rfl
                          refine pure_ (i := 10) (N := some 33) (v := ?_) (a' := ?_) #[true, true, true, true, true, true, true, true, true, true, true, true, false, false] rfl rfl (any_of HT_.out (by kernel_rfl)) (fun _ _ _ h => h) (Or.inl ⟨by rfl, ?_⟩) ?_ ?_
                          rotate_left
                          · intro w'
                            go_simp
                            with_reducible rfl
                          rotate_left
                          · simp only [Act.put, List.setIfInBounds_toArray, List.set_cons_zero, List.set_cons_succ, i64_w, i32_w]
                            rfl
                          exact norm_ (by simp only [putAll, Act.put, List.setIfInBounds_toArray, List.set_cons_zero, List.set_cons_succ]) (hCont (.slice Ao21 t529.length co21, .slice Ao22 t536.length co22, gb544) _ ⟨hHeld, (by (with_reducible repeat (first | apply Kd.R_alloc | apply Kd.R_drewN | apply Kd.R_drew)); exact HO531.out), (by (with_reducible repeat (first | apply Kd.R_alloc | apply Kd.R_drewN | apply Kd.R_drew)); exact HO538.out), (by (with_reducible repeat (first | refine blk_drewN ?_ _ | refine blk_drew ?_ | refine blk_alloc ?_ _)); exact BK526.out), (by (with_reducible repeat (first | refine blk_drewN ?_ _ | refine blk_drew ?_ | refine blk_alloc ?_ _)); exact BK544.out), GW544.out, GE544.out, NB526_544.out, NB544_526.out, (by repeat (first | (with_reducible first | exact HB.out | apply below_alloc | apply pw_below_drewN | apply below_drew1 | refine below_set ?_ GE526.out | refine below_set ?_ GE544.out) | exact HB.out))⟩)
                      · skip
                        refine box_step ?hg (N := 9) ?hd (cs := #[.int .i64 0, .int .i64 0, .bool false]) (t := 37) ?hr ?_; (case hd => rfl); (case hg => rfl); (case hr => first | (go_simp; done) | (go_simp; rfl))
                        intro gb544 hg w19 hbox hb
                        have n0_ := Aside0.mk (blk_below (g := gb526) (o := .cells #[.int .i64 x527000_1, .int .i64 x527001_1, .bool x527002_1] 37 (0, 0)) (by (with_reducible repeat (first | refine blk_drewN ?_ _ | refine blk_drew ?_ | refine blk_alloc ?_ _)); exact BK526.out) hb)
                        have n1_ := Aside0.mk (below_step (by repeat (first | (with_reducible first | exact HB.out | apply below_alloc | apply pw_below_drewN | apply below_drew1 | refine below_set ?_ GE526.out) | exact HB.out)) hb)
                        have n2_ := Aside0.mk (hbox)
                        have n3_ := Aside0.mk ((by rw [hg]; exact (below_size (by repeat (first | (with_reducible first | exact HB.out | apply below_alloc | apply pw_below_drewN | apply below_drew1 | refine below_set ?_ GE526.out) | exact HB.out))) : w.heap.size ≤ gb544))
                        have n4_ := Aside0.mk ((by rw [hg]; exact (below_size (by repeat (first | (with_reducible first | exact HB.out | apply below_alloc | apply pw_below_drewN | apply below_drew1 | refine below_set ?_ GE526.out) | exact HB.out))) : w.heap.size ≤ gb544))
                        have n5_ := Aside0.mk ((by rw [hg]; exact Nat.ne_of_lt (blk_lt (g := gb526) (o := .cells #[.int .i64 x527000_1, .int .i64 x527001_1, .bool x527002_1] 37 (0, 0)) (by (with_reducible repeat (first | refine blk_drewN ?_ _ | refine blk_drew ?_ | refine blk_alloc ?_ _)); exact BK526.out)) : gb526 ≠ gb544))
                        have n6_ := Aside0.mk ((by rw [hg]; exact Nat.ne_of_gt (blk_lt (g := gb526) (o := .cells #[.int .i64 x527000_1, .int .i64 x527001_1, .bool x527002_1] 37 (0, 0)) (by (with_reducible repeat (first | refine blk_drewN ?_ _ | refine blk_drew ?_ | refine blk_alloc ?_ _)); exact BK526.out)) : gb544 ≠ gb526))
                        clear BK526
                        clear HB
                        have BK526 := n0_
                        have HB := n1_
                        have BK544 := n2_
                        have GW544 := n3_
                        have GE544 := n4_
                        have NB526_544 := n5_
                        have NB544_526 := n6_
                        clear n0_ n1_ n2_ n3_ n4_ n5_ n6_
                        clear hb hbox hg
                        refine hK.out _ _ ⟨(blk_cell BK526.out 0).trans rfl, (blk_cell BK526.out 1).trans rfl, (blk_cell BK526.out 2).trans rfl, ((HB.out.cell (World.block_lt_of_cell? w _ hw539_0)).trans hw539_0)⟩ (fun hHeld => ?_)
                        clear hK K
                        refine norm_ (a' := ?_) ?_ ?_
                        rotate_left
                        · show Act.put _ (some 9) _ = _
                          simp only [Act.put, List.setIfInBounds_toArray, List.set_cons_zero, List.set_cons_succ, i64_w, i32_w]
                          rfl
                        refine one_ (i := 1) (N := some 25) #[true, true, true, true, true, true, true, false, false, false, false, true, false, false] rfl rfl (one_of HT_.out (by kernel_rfl)) (by decide) (fun K hK => ?_)
                        refine goes_ Try.func23 (by kernel_rfl) rfl #[.int .i64 a0, .int .i64 0, .int .i64 0, .int .i64 0] (by rfl) rfl rfl (by (try simp only [List.map_toArray, List.map_cons, List.map_nil]); first | done | rfl | (simp only [List.length_drop, List.length_take]; rfl)) ?_
                        with_reducible refine (governorlaw12_Of.calls a0 0 0 0 t527 t528 t529 t532 t533 t534 t535 t536 _ A9.out).mono ?_
                        rintro e w20 ⟨v530, v537, rfl, ho0, ho1, hb⟩
                        refine ⟨_, rfl, ?_⟩
                        have n0_ := Aside0.mk (Kd.R_lower ho0 (below_size (by repeat (first | (with_reducible first | exact HB.out | apply below_alloc | apply pw_below_drewN | apply below_drew1 | refine below_set ?_ GE526.out | refine below_set ?_ GE544.out) | exact HB.out))))
                        have n1_ := Aside0.mk (Kd.R_lower ho1 (below_size (by repeat (first | (with_reducible first | exact HB.out | apply below_alloc | apply pw_below_drewN | apply below_drew1 | refine below_set ?_ GE526.out | refine below_set ?_ GE544.out) | exact HB.out))))
                        have n2_ := Aside0.mk (blk_below (g := gb526) (o := .cells #[.int .i64 x527000_1, .int .i64 x527001_1, .bool x527002_1] 37 (0, 0)) (by (with_reducible repeat (first | refine blk_drewN ?_ _ | refine blk_drew ?_ | refine blk_alloc ?_ _)); exact BK526.out) hb)
                        have n3_ := Aside0.mk (blk_below (g := gb544) (o := .cells #[.int .i64 0, .int .i64 0, .bool false] 37 (0, 0)) (by (with_reducible repeat (first | refine blk_drewN ?_ _ | refine blk_drew ?_ | refine blk_alloc ?_ _)); exact BK544.out) hb)
                        have n4_ := Aside0.mk (below_step (by repeat (first | (with_reducible first | exact HB.out | apply below_alloc | apply pw_below_drewN | apply below_drew1 | refine below_set ?_ GE526.out | refine below_set ?_ GE544.out) | exact HB.out)) hb)
                        clear BK526
                        clear BK544
                        clear HB
                        have HO531 := n0_
                        have HO538 := n1_
                        have BK526 := n2_
                        have BK544 := n3_
                        have HB := n4_
                        clear n0_ n1_ n2_ n3_ n4_
                        (try clear hb)
                        (try clear hb2)
                        (try clear hk)
                        (try clear hi)
                        (try clear ho0)
                        (try clear ho1)
                        obtain ⟨Ao21, co21, eo21⟩ := Kd.R_slice HO531.out
                        (first | subst eo21 | (injection eo21 with f1_ f2_ f3_; have f4_ := f1_.symm; have f5_ := f3_.symm; clear f1_ f2_ f3_; subst f4_; subst f5_))
                        obtain ⟨Ao22, co22, eo22⟩ := Kd.R_slice HO538.out
                        (first | subst eo22 | (injection eo22 with f1_ f2_ f3_; have f4_ := f1_.symm; have f5_ := f3_.symm; clear f1_ f2_ f3_; subst f4_; subst f5_))
                        refine hK.out _ _ ⟨(blk_cell BK526.out 0).trans rfl, (blk_cell BK526.out 1).trans rfl, (blk_cell BK526.out 2).trans rfl, ((HB.out.cell (World.block_lt_of_cell? w _ hw539_0)).trans hw539_0)⟩ (fun hHeld => ?_)
                        clear hK K
                        refine norm_ (a' := ?_) ?_ ?_
                        rotate_left
                        · show Act.put _ (some 25) _ = _
                          simp only [Act.put, List.setIfInBounds_toArray, List.set_cons_zero, List.set_cons_succ, i64_w, i32_w]
                          rfl
                        refine one_ (i := 7) (N := some 31) #[true, true, true, true, true, true, true, true, false, false, false, true, false, false] rfl rfl (one_of HT_.out (by kernel_rfl)) (by decide) (fun K hK => ?_)
                        refine goes_ Try.func22 (by kernel_rfl) rfl #[.agg #[.int .i64 t527, .int .i64 t528, .slice Ao21 t529.length co21, .int .i64 t532, .int .i64 t533, .int .i64 t534, .int .i64 t535, .slice Ao22 t536.length co22], .agg #[.int .i64 x527000_1, .int .i64 x527001_1, .bool x527002_1], .int .i64 (rd l1 x8_1)] (by rfl) rfl rfl (by (try simp only [List.map_toArray, List.map_cons, List.map_nil]); first | done | rfl | (simp only [List.length_drop, List.length_take]; rfl)) ?_
                        with_reducible refine (pid_Next.calls k1 t527 t528 _ _ t529 t532 t533 t534 t535 _ _ t536 x527000_1 x527001_1 x527002_1 (rd l1 x8_1) t540 t541 true t543 _ ?side1 ?side2 ?side3 ?side4 A11.out).mono ?_
                        (case side1 => repeat (first | exact (Kd.R_reads' HO531.out).2.2 | (with_reducible refine Kd.C_alloc ?_ _) | (with_reducible refine Kd.C_drewN ?_ _) | (with_reducible refine Kd.C_drew ?_)))
                        (case side2 => exact (Kd.R_reads' HO531.out).2.1)
                        (case side3 => repeat (first | exact (Kd.R_reads' HO538.out).2.2 | (with_reducible refine Kd.C_alloc ?_ _) | (with_reducible refine Kd.C_drewN ?_ _) | (with_reducible refine Kd.C_drew ?_)))
                        (case side4 => exact (Kd.R_reads' HO538.out).2.1)
                        rintro e w23 ⟨rfl, hb⟩
                        refine ⟨_, rfl, ?_⟩
                        have n0_ := Aside0.mk (Kd.R_below (by (with_reducible repeat (first | apply Kd.R_alloc | apply Kd.R_drewN | apply Kd.R_drew)); exact HO531.out) hb)
                        have n1_ := Aside0.mk (Kd.R_below (by (with_reducible repeat (first | apply Kd.R_alloc | apply Kd.R_drewN | apply Kd.R_drew)); exact HO538.out) hb)
                        have n2_ := Aside0.mk (blk_below (g := gb526) (o := .cells #[.int .i64 x527000_1, .int .i64 x527001_1, .bool x527002_1] 37 (0, 0)) (by (with_reducible repeat (first | refine blk_drewN ?_ _ | refine blk_drew ?_ | refine blk_alloc ?_ _)); exact BK526.out) hb)
                        have n3_ := Aside0.mk (blk_below (g := gb544) (o := .cells #[.int .i64 0, .int .i64 0, .bool false] 37 (0, 0)) (by (with_reducible repeat (first | refine blk_drewN ?_ _ | refine blk_drew ?_ | refine blk_alloc ?_ _)); exact BK544.out) hb)
                        have n4_ := Aside0.mk (below_step (by repeat (first | (with_reducible first | exact HB.out | apply below_alloc | apply pw_below_drewN | apply below_drew1 | refine below_set ?_ GE526.out | refine below_set ?_ GE544.out) | exact HB.out)) hb)
                        clear HO531
                        clear HO538
                        clear BK526
                        clear BK544
                        clear HB
                        have HO531 := n0_
                        have HO538 := n1_
                        have BK526 := n2_
                        have BK544 := n3_
                        have HB := n4_
                        clear n0_ n1_ n2_ n3_ n4_
                        (try clear hb)
                        (try clear hb2)
                        (try clear hk)
                        (try clear hi)
                        refine hK.out _ _ ⟨(blk_cell BK526.out 0).trans rfl, (blk_cell BK526.out 1).trans rfl, (blk_cell BK526.out 2).trans rfl, ((HB.out.cell (World.block_lt_of_cell? w _ hw539_0)).trans hw539_0)⟩ (fun hHeld => ?_)
                        clear hK K
                        refine norm_ (a' := ?_) ?_ ?_
                        rotate_left
                        · show Act.put _ (some 31) _ = _
                          simp only [Act.put, List.setIfInBounds_toArray, List.set_cons_zero, List.set_cons_succ, i64_w, i32_w]
                          rfl
                        refine pure_ (i := 8) (N := some 23) (v := ?_) (a' := ?_) #[true, true, true, true, true, true, true, true, true, false, false, true, false, false] rfl rfl (any_of HT_.out (by kernel_rfl)) (fun _ _ _ h => h) (Or.inl ⟨by rfl, ?_⟩) ?_ ?_
                        rotate_left
                        · intro w'
                          go_simp
                          with_reducible rfl
                        rotate_left
                        · simp only [Act.put, List.setIfInBounds_toArray, List.set_cons_zero, List.set_cons_succ, i64_w, i32_w]
                          rfl
                        refine pure_ (i := 9) (N := some 32) (v := ?_) (a' := ?_) #[true, true, true, true, true, true, true, true, true, true, false, true, false, false] rfl rfl (any_of HT_.out (by kernel_rfl)) (fun _ _ _ h => h) (Or.inl ⟨by rfl, ?_⟩) ?_ ?_
                        rotate_left
                        · intro w'
                          go_simp
                          with_reducible rfl
                        rotate_left
                        · simp only [Act.put, List.setIfInBounds_toArray, List.set_cons_zero, List.set_cons_succ, i64_w, i32_w]
                          rfl
                        refine pure_ (i := 10) (N := some 33) (v := ?_) (a' := ?_) #[true, true, true, true, true, true, true, true, true, true, true, true, false, false] rfl rfl (any_of HT_.out (by kernel_rfl)) (fun _ _ _ h => h) (Or.inl ⟨by rfl, ?_⟩) ?_ ?_
                        rotate_left
                        · intro w'
                          go_simp
                          with_reducible rfl
                        rotate_left
                        · simp only [Act.put, List.setIfInBounds_toArray, List.set_cons_zero, List.set_cons_succ, i64_w, i32_w]
                          rfl
                        exact norm_ (by simp only [putAll, Act.put, List.setIfInBounds_toArray, List.set_cons_zero, List.set_cons_succ]) (hCont (.slice Ao21 t529.length co21, .slice Ao22 t536.length co22, gb544) _ ⟨hHeld, (by (with_reducible repeat (first | apply Kd.R_alloc | apply Kd.R_drewN | apply Kd.R_drew)); exact HO531.out), (by (with_reducible repeat (first | apply Kd.R_alloc | apply Kd.R_drewN | apply Kd.R_drew)); exact HO538.out), (by (with_reducible repeat (first | refine blk_drewN ?_ _ | refine blk_drew ?_ | refine blk_alloc ?_ _)); exact BK526.out), (by (with_reducible repeat (first | refine blk_drewN ?_ _ | refine blk_drew ?_ | refine blk_alloc ?_ _)); exact BK544.out), GW544.out, GE544.out, NB526_544.out, NB544_526.out, (by repeat (first | (with_reducible first | exact HB.out | apply below_alloc | apply pw_below_drewN | apply below_drew1 | refine below_set ?_ GE526.out | refine below_set ?_ GE544.out) | exact HB.out))⟩)
                    rintro ⟨v530, v537, gb544⟩ w24 ⟨hS_, h0_, h1_, h2_, h3_, h4_, h5_, h6_, h7_, h8_⟩
                    have n0_ : Aside0 (Kd.R k29 29 w24 w.heap.size (fun _ => True) v530 t529) := ⟨h0_⟩
                    have n1_ : Aside0 (Kd.R k71 71 w24 w.heap.size (fun _ => True) v537 t536) := ⟨h1_⟩
                    have n2_ : Aside0 (w24.heap[gb526]? = some (.cells #[.int .i64 x527000_1, .int .i64 x527001_1, .bool x527002_1] 37 (0, 0))) := ⟨h2_⟩
                    have n3_ : Aside0 (w24.heap[gb544]? = some (.cells #[.int .i64 0, .int .i64 0, .bool false] 37 (0, 0))) := ⟨h3_⟩
                    have n4_ : Aside0 (w.heap.size ≤ gb544) := ⟨h4_⟩
                    have n5_ : Aside0 (w.heap.size ≤ gb544) := ⟨h5_⟩
                    have n6_ : Aside0 (gb526 ≠ gb544) := ⟨h6_⟩
                    have n7_ : Aside0 (gb544 ≠ gb526) := ⟨h7_⟩
                    have n8_ : Aside0 (Below w.heap.size w w24) := ⟨h8_⟩
                    clear BK526
                    clear HB
                    clear h0_ h1_ h2_ h3_ h4_ h5_ h6_ h7_ h8_
                    have HO531 := n0_
                    have HO538 := n1_
                    have BK526 := n2_
                    have BK544 := n3_
                    have GW544 := n4_
                    have GE544 := n5_
                    have NB526_544 := n6_
                    have NB544_526 := n7_
                    have HB := n8_
                    clear n0_ n1_ n2_ n3_ n4_ n5_ n6_ n7_ n8_
                    have hHeld : w24.cell? ⟨gb526, 0, none⟩ = some (.int .i64 x527000_1) ∧ w24.cell? ⟨gb526, 1, none⟩ = some (.int .i64 x527001_1) ∧ w24.cell? ⟨gb526, 2, none⟩ = some (.bool x527002_1) ∧ w24.cell? (ad539.add (x8_1).toNat) = some (.int .i64 (rd l1 x8_1)) := hS_
                    refine norm_ (a' := ?_) ?_ ?_
                    rotate_left
                    · simp only [putAll, Act.put, List.setIfInBounds_toArray, List.set_cons_zero, List.set_cons_succ]
                      rfl
                    refine one_ (i := 12) (N := none) #[true, true, true, true, true, true, true, true, true, true, true, true, true, false] rfl rfl (one_of HT_.out (by kernel_rfl)) (by decide) (fun K hK => ?_)
                    have hs25 : w24.cell? ⟨gb544, 0, none⟩ = some (.int .i64 0) := (blk_cell BK544.out 0).trans rfl
                    have hfs25 := blk_frozen BK544.out 0
                    have hns25_0 := NB526_544.out
                    have hms25_0 := NB544_526.out
                    have hs26 : w24.cell? ⟨gb544, 1, none⟩ = some (.int .i64 0) := (blk_cell BK544.out 1).trans rfl
                    have hfs26 := blk_frozen BK544.out 1
                    have hns26_0 := NB526_544.out
                    have hms26_0 := NB544_526.out
                    have hs27 : w24.cell? ⟨gb544, 2, none⟩ = some (.bool false) := (blk_cell BK544.out 2).trans rfl
                    have hfs27 := blk_frozen BK544.out 2
                    have hns27_0 := NB526_544.out
                    have hms27_0 := NB544_526.out
                    refine skip_ (w1 := ?_) (by rfl) rfl ?_ ?_
                    rotate_left
                    · go_simp
                      rfl
                    refine hK.out _ _ ⟨((cell_far (p := ⟨gb544, _, none⟩) NB526_544.out _).trans (((cell_far (p := ⟨gb544, _, none⟩) NB526_544.out _).trans (((cell_far (p := ⟨gb544, _, none⟩) NB526_544.out _).trans (hHeld.1)))))), ((cell_far (p := ⟨gb544, _, none⟩) NB526_544.out _).trans (((cell_far (p := ⟨gb544, _, none⟩) NB526_544.out _).trans (((cell_far (p := ⟨gb544, _, none⟩) NB526_544.out _).trans (hHeld.2.1)))))), ((cell_far (p := ⟨gb544, _, none⟩) NB526_544.out _).trans (((cell_far (p := ⟨gb544, _, none⟩) NB526_544.out _).trans (((cell_far (p := ⟨gb544, _, none⟩) NB526_544.out _).trans (hHeld.2.2.1)))))), ((cell_far (p := ⟨gb544, _, none⟩) (by first | exact Nat.ne_of_lt (Nat.lt_of_lt_of_le (by have := World.block_lt_of_cell? _ _ hw539_0; first | rwa [add_block] at this | exact this) GW544.out) | (rw [add_block]; exact Nat.ne_of_lt (Nat.lt_of_lt_of_le (by have := World.block_lt_of_cell? _ _ hw539_0; first | rwa [add_block] at this | exact this) GW544.out)) | (show (Addr.add _ _).block ≠ _; rw [add_block]; exact Nat.ne_of_lt (Nat.lt_of_lt_of_le (by have := World.block_lt_of_cell? _ _ hw539_0; first | rwa [add_block] at this | exact this) GW544.out)) | (dsimp only; exact Nat.ne_of_lt (Nat.lt_of_lt_of_le (by have := World.block_lt_of_cell? _ _ hw539_0; first | rwa [add_block] at this | exact this) GW544.out))) _).trans (((cell_far (p := ⟨gb544, _, none⟩) (by first | exact Nat.ne_of_lt (Nat.lt_of_lt_of_le (by have := World.block_lt_of_cell? _ _ hw539_0; first | rwa [add_block] at this | exact this) GW544.out) | (rw [add_block]; exact Nat.ne_of_lt (Nat.lt_of_lt_of_le (by have := World.block_lt_of_cell? _ _ hw539_0; first | rwa [add_block] at this | exact this) GW544.out)) | (show (Addr.add _ _).block ≠ _; rw [add_block]; exact Nat.ne_of_lt (Nat.lt_of_lt_of_le (by have := World.block_lt_of_cell? _ _ hw539_0; first | rwa [add_block] at this | exact this) GW544.out)) | (dsimp only; exact Nat.ne_of_lt (Nat.lt_of_lt_of_le (by have := World.block_lt_of_cell? _ _ hw539_0; first | rwa [add_block] at this | exact this) GW544.out))) _).trans (((cell_far (p := ⟨gb544, _, none⟩) (by first | exact Nat.ne_of_lt (Nat.lt_of_lt_of_le (by have := World.block_lt_of_cell? _ _ hw539_0; first | rwa [add_block] at this | exact this) GW544.out) | (rw [add_block]; exact Nat.ne_of_lt (Nat.lt_of_lt_of_le (by have := World.block_lt_of_cell? _ _ hw539_0; first | rwa [add_block] at this | exact this) GW544.out)) | (show (Addr.add _ _).block ≠ _; rw [add_block]; exact Nat.ne_of_lt (Nat.lt_of_lt_of_le (by have := World.block_lt_of_cell? _ _ hw539_0; first | rwa [add_block] at this | exact this) GW544.out)) | (dsimp only; exact Nat.ne_of_lt (Nat.lt_of_lt_of_le (by have := World.block_lt_of_cell? _ _ hw539_0; first | rwa [add_block] at this | exact this) GW544.out))) _).trans (hHeld.2.2.2))))))⟩ (fun hHeld => ?_)
                    clear hK K
                    refine pure_ (i := 13) (N := some 10) (v := ?_) (a' := ?_) #[true, true, true, true, true, true, true, true, true, true, true, true, true, true] rfl rfl (any_of HT_.out (by kernel_rfl)) (fun _ _ _ h => h) (Or.inl ⟨by rfl, ?_⟩) ?_ ?_
                    rotate_left
                    · intro w'
                      go_simp
                      with_reducible rfl
                    rotate_left
                    · simp only [Act.put, List.setIfInBounds_toArray, List.set_cons_zero, List.set_cons_succ, i64_w, i32_w]
                      rfl
                    refine done_ (done_of HT_.out (by kernel_rfl)) ?_
                    have p545 : 0 ≤ (x8_1 : Int) := of_decide_eq_true (by first | (with_reducible assumption) | assumption)
                    have q545 : x8_1 < (l1.length : Int) := of_decide_eq_true (by first | (with_reducible assumption) | assumption)
                    obtain ⟨ad545, e545, hx545_0⟩ := Kd.at_int HR1.out x8_1 p545 q545
                    obtain rfl : ad539 = ad545 := (by injection e545)
                    have hn545_0 : ad539.block ≠ gb544 := Nat.ne_of_lt (Nat.lt_of_lt_of_le (by have := World.block_lt_of_cell? _ _ hx545_0; first | rwa [add_block] at this | exact this) GW544.out)
                    have hn545_1 : ad539.block ≠ gb544 := Nat.ne_of_lt (Nat.lt_of_lt_of_le (by have := World.block_lt_of_cell? _ _ hx545_0; first | rwa [add_block] at this | exact this) GW544.out)
                    have hn545_2 : ad539.block ≠ gb544 := Nat.ne_of_lt (Nat.lt_of_lt_of_le (by have := World.block_lt_of_cell? _ _ hx545_0; first | rwa [add_block] at this | exact this) GW544.out)
                    replace hx545_0 := (HB.out.cell (World.block_lt_of_cell? w _ hx545_0)).trans hx545_0
                    replace hx545_0 := (cell_far (p := ⟨gb544, 0, none⟩) (by first | (rw [add_block]; exact hn545_0) | (show (Addr.add _ _).block ≠ _; rw [add_block]; exact hn545_0) | exact hn545_0) (.int .i64 t540)).trans hx545_0
                    replace hx545_0 := (cell_far (p := ⟨gb544, 1, none⟩) (by first | (rw [add_block]; exact hn545_1) | (show (Addr.add _ _).block ≠ _; rw [add_block]; exact hn545_1) | exact hn545_1) (.int .i64 t541)).trans hx545_0
                    replace hx545_0 := (cell_far (p := ⟨gb544, 2, none⟩) (by first | (rw [add_block]; exact hn545_2) | (show (Addr.add _ _).block ≠ _; rw [add_block]; exact hn545_2) | exact hn545_2) (.bool true)).trans hx545_0
                    clear hn545_0
                    clear hn545_1
                    clear hn545_2
                    replace p545 := eq_true p545
                    replace q545 := eq_true q545
                    try go_wp2_with (first | ((with_reducible refine gate_callee (f := 25) rfl ?_); refine goesL_ (some 39) rfl rfl Try.func25 (by kernel_rfl) rfl #[.int .i64 (rd l1 x8_1), .int .i64 a0] rfl (by (try simp only [List.map_toArray, List.map_cons, List.map_nil]); first | done | rfl | (simp only [List.length_drop, List.length_take]; rfl)) ?_; (with_reducible refine (governorref08_Sub.calls (rd l1 x8_1) a0 t546 _ A12.out).mono ?_); rintro e w' ⟨rfl, ⟨nd, rfl⟩⟩; refine ⟨_, rfl, ?_⟩) | ((with_reducible refine gate_callee (f := 26) rfl ?_); refine goesL_ (some 42) rfl rfl Try.func26 (by kernel_rfl) rfl #[.int .i64 x7_1, .int .i64 t546] rfl (by (try simp only [List.map_toArray, List.map_cons, List.map_nil]); first | done | rfl | (simp only [List.length_drop, List.length_take]; rfl)) ?_; (with_reducible refine (governorref08_Add.calls x7_1 t546 t547 _ A13.out).mono ?_); rintro e w' ⟨rfl, ⟨nd, rfl⟩⟩; refine ⟨_, rfl, ?_⟩; have hnb28 := NB544_526.out; have hnc28 := NB526_544.out; have hcz29_0 : w24.cell? ⟨gb544, 0, none⟩ = some (.int .i64 0) := (blk_cell BK544.out 0).trans rfl; have hcz29_1 : w24.cell? ⟨gb544, 1, none⟩ = some (.int .i64 0) := (blk_cell BK544.out 1).trans rfl; have hcz29_2 : w24.cell? ⟨gb544, 2, none⟩ = some (.bool false) := (blk_cell BK544.out 2).trans rfl; have hfz29_0 := blk_frozen BK544.out 0; have hfz29_1 := blk_frozen BK544.out 1; have hfz29_2 := blk_frozen BK544.out 2; have hcz30_0 : w24.cell? ⟨gb526, 0, none⟩ = some (.int .i64 x527000_1) := (blk_cell BK526.out 0).trans rfl; have hcz30_1 : w24.cell? ⟨gb526, 1, none⟩ = some (.int .i64 x527001_1) := (blk_cell BK526.out 1).trans rfl; have hcz30_2 : w24.cell? ⟨gb526, 2, none⟩ = some (.bool x527002_1) := (blk_cell BK526.out 2).trans rfl; have hfz30_0 := blk_frozen BK526.out 0; have hfz30_1 := blk_frozen BK526.out 1; have hfz30_2 := blk_frozen BK526.out 2))
                    go_roundg k1
                    case measure => have := HK1.out; omega
                    case rel => exact ⟨(t547), (wrap64 (x8_1 + 1)), (t540), (t541), (true), (by first | rfl | (simp; done) | (simp [*]; done)), (by first | rfl | (simp; done) | (simp [*]; done)), H', ⟨by have := HK1.out; omega⟩, ⟨by (with_reducible repeat (first | refine blk_drewN ?_ _ | refine blk_drew ?_ | refine blk_alloc ?_ _)); refine blk_put (cs := #[.int .i64 t540, .int .i64 t541, .bool x527002_1]) ?_ 2 _ rfl; (with_reducible repeat (first | refine blk_drewN ?_ _ | refine blk_drew ?_ | refine blk_alloc ?_ _)); refine blk_put (cs := #[.int .i64 t540, .int .i64 x527001_1, .bool x527002_1]) ?_ 1 _ rfl; (with_reducible repeat (first | refine blk_drewN ?_ _ | refine blk_drew ?_ | refine blk_alloc ?_ _)); refine blk_put (cs := #[.int .i64 x527000_1, .int .i64 x527001_1, .bool x527002_1]) ?_ 0 _ rfl; (with_reducible repeat (first | refine blk_drewN ?_ _ | refine blk_drew ?_ | refine blk_alloc ?_ _)); refine blk_far ?_ NB526_544.out _; (with_reducible repeat (first | refine blk_drewN ?_ _ | refine blk_drew ?_ | refine blk_alloc ?_ _)); refine blk_far ?_ NB526_544.out _; (with_reducible repeat (first | refine blk_drewN ?_ _ | refine blk_drew ?_ | refine blk_alloc ?_ _)); refine blk_far ?_ NB526_544.out _; (with_reducible repeat (first | refine blk_drewN ?_ _ | refine blk_drew ?_ | refine blk_alloc ?_ _)); exact BK526.out⟩, ⟨by repeat (first | (with_reducible first | exact HB.out | apply below_alloc | apply pw_below_drewN | apply below_drew1 | refine below_set ?_ GE526.out | refine below_set ?_ GE544.out) | exact HB.out)⟩⟩
                  · replace c17 := Bool.eq_false_iff.mpr c17
                    subst c17
                    have H1 : (some false) = some r := by rw [if_neg (show ¬ (false = true) by decide)] at H; exact H
                    clear H
                    have H := H1
                    clear H1
                    exact absurd (Option.some.inj H) (by rw [HRT.out]; decide)
                · rw [if_neg c16] at H
                  have c16b0 : (t541 == t546) = false := beq_eq_false_iff_ne.mpr c16
                  have c16b1 : (t541 != t546) = true := bne_iff_ne.mpr c16
                  exact absurd (Option.some.inj H) (by rw [HRT.out]; decide)
              · rw [if_neg c15] at H
                have c15b0 : (t540 == t547) = false := beq_eq_false_iff_ne.mpr c15
                have c15b1 : (t540 != t547) = true := bne_iff_ne.mpr c15
                exact absurd (Option.some.inj H) (by rw [HRT.out]; decide)
            · rw [if_neg c14] at H
              have c14b0 : (t543 == 0) = false := beq_eq_false_iff_ne.mpr c14
              have c14b1 : (t543 != 0) = true := bne_iff_ne.mpr c14
              exact absurd (Option.some.inj H) (by rw [HRT.out]; decide)
          · rw [if_neg c10] at H
            exact absurd H (by simp)
        · rw [if_neg c8] at H
          have c8b0 : decide (x8_1 < (l1.length : Int)) = false := decide_eq_false c8
          clear c8
          obtain rfl := Option.some.inj H
          go_wp2
          go_ret
          exact ⟨by first | rfl | (simp [errW_none, errW_some] <;> rfl) | (simp [*, errW_none, errW_some] <;> rfl), by repeat (first | (with_reducible first | exact HB.out | apply below_alloc | apply pw_below_drewN | apply below_drew1 | refine below_set ?_ GE526.out) | exact HB.out)⟩

end Go.Proofs.Ytjmmofedcadoiaa.PAll
