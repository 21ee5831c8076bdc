-- laid by a program of this session (tprint.py) out of the translation and of texts typed by hand; Lean checks it
import Derived.Test.YtjmmofedcadoiaaPAllx0
import Derived.Test.YtjmmofedcadoiaaPAllx1
import Derived.Test.YtjmmofedcadoiaaPAllx24
import Derived.Test.YtjmmofedcadoiaaPAllx25
import Derived.Test.YtjmmofedcadoiaaPAllx26
namespace Go.Proofs.Ytjmmofedcadoiaa.PAll
open Go.RowKit Go.Proofs.YtjmmofedcadoiaaW.PrintWords Go.Proofs.YtjmmofedcadoiaaW.PrintLast Go.Proofs.YtjmmofedcadoiaaW.PrintMore
attribute [local go_sem] max2_int min2_int max_two min_two max_three min_three max_four min_four   -- for this text's walks alone
set_option linter.unusedVariables false
set_option linter.unusedSimpArgs false

attribute [local go_sem high] eqA37
/-! ### governorlaw12_PidRests: function 13 -/
def governorlaw12_PidRests.l0 : Nat → Int → Int → Int → Int → Int → Bool → Int → Int → Int → Int → Bool → Option (Bool)
  | 0, _, _, _, _, _, _, _, _, _, _, _ => none
  | k + 1, x1, x2, x3, x4, x5, x13, x14, x16, x474000, x474001, x474002 => if x16 < (Int.tmod (wrap64 (x5)) 40) then ((governorlaw12_Of.f x14 x1 x2 x3).bind fun bt474 => ((pid_Next.f k bt474.1 bt474.2.1 bt474.2.2.1 bt474.2.2.2.1 bt474.2.2.2.2.1 bt474.2.2.2.2.2.1 bt474.2.2.2.2.2.2.1 bt474.2.2.2.2.2.2.2 x474000 x474001 x474002 x14).bind fun bt486 => (if bt486.2.2.2 = 0 then (if (!(bt486.1 == 0) || (!(bt486.2.1 == 0) || (!bt486.2.2.1))) = true then (some false) else (governorlaw12_PidRests.l0 k x1 x2 x3 x4 x5 x13 x14 (wrap64 (x16 + 1)) bt486.1 bt486.2.1 bt486.2.2.1)) else (some false)))) else ((governorlaw12_Of.f x14 0 0 x3).bind fun bt491 => ((pid_Next.f k bt491.1 bt491.2.1 bt491.2.2.1 bt491.2.2.2.1 bt491.2.2.2.2.1 bt491.2.2.2.2.2.1 bt491.2.2.2.2.2.2.1 bt491.2.2.2.2.2.2.2 0 0 false x4).bind fun bt503 => ((governorlaw12_Of.f x14 0 0 x3).bind fun bt508 => ((pid_Next.f k bt508.1 bt508.2.1 bt508.2.2.1 bt508.2.2.2.1 bt508.2.2.2.2.1 bt508.2.2.2.2.2.1 bt508.2.2.2.2.2.2.1 bt508.2.2.2.2.2.2.2 bt503.1 bt503.2.1 bt503.2.2.1 x4).bind fun bt520 => (if x13 = true then (some (bt520.2.2.2 == 0)) else (some false))))))
def governorlaw12_PidRests.f (k : Nat) (a0 : Int) (a1 : Int) (a2 : Int) (a3 : Int) (a4 : Int) (a5 : Int) : Option (Bool) := (governorlaw12_head.f k).bind fun t471 => ((governorref08_Sat.f a0).bind fun t472 => (governorlaw12_PidRests.l0 k a1 a2 a3 a4 a5 t471 t472 0 0 0 false))
theorem governorlaw12_PidRests.mono_l : ∀ k, (∀ y0 y1 y2 y3 y4 y5 y6 y7 y8 y9 y10, LeO (governorlaw12_PidRests.l0 k y0 y1 y2 y3 y4 y5 y6 y7 y8 y9 y10) (governorlaw12_PidRests.l0 (k + 1) y0 y1 y2 y3 y4 y5 y6 y7 y8 y9 y10))
  | 0 => fun _ _ _ _ _ _ _ _ _ _ _ r h => by simp [governorlaw12_PidRests.l0] at h
  | k + 1 => by
    have ih0 := governorlaw12_PidRests.mono_l k
    · intro y0 y1 y2 y3 y4 y5 y6 y7 y8 y9 y10
      unfold governorlaw12_PidRests.l0
      repeat' first
      | (with_reducible exact ih0 _ _ _ _ _ _ _ _ _ _ _)
      | (with_reducible exact governorlaw12_head.mono _)
      | (with_reducible exact pid_Next.mono _ _ _ _ _ _ _ _ _ _ _ _ _)
      | (with_reducible exact LeO.refl _)
      | (with_reducible exact LeO.none _)
      | (with_reducible refine LeO.ite ?_ ?_)
      | (with_reducible refine LeO.bind ?_ (fun _ => ?_))
      | exact ih0 _ _ _ _ _ _ _ _ _ _ _
      | exact governorlaw12_head.mono _
      | exact pid_Next.mono _ _ _ _ _ _ _ _ _ _ _ _ _
      | exact LeO.none _
      | refine LeO.ite ?_ ?_
      | refine LeO.bind ?_ (fun _ => ?_)
theorem governorlaw12_PidRests.mono : ∀ a0 a1 a2 a3 a4 a5 k, LeO (governorlaw12_PidRests.f k a0 a1 a2 a3 a4 a5) (governorlaw12_PidRests.f (k + 1) a0 a1 a2 a3 a4 a5) := by
  intro a0 a1 a2 a3 a4 a5 k
  have ih0 := governorlaw12_PidRests.mono_l k
  unfold governorlaw12_PidRests.f
  repeat' first
      | (with_reducible exact ih0 _ _ _ _ _ _ _ _ _ _ _)
      | (with_reducible exact governorlaw12_head.mono _)
      | (with_reducible exact pid_Next.mono _ _ _ _ _ _ _ _ _ _ _ _ _)
      | (with_reducible exact LeO.refl _)
      | (with_reducible exact LeO.none _)
      | (with_reducible refine LeO.ite ?_ ?_)
      | (with_reducible refine LeO.bind ?_ (fun _ => ?_))
      | exact ih0 _ _ _ _ _ _ _ _ _ _ _
      | exact governorlaw12_head.mono _
      | exact pid_Next.mono _ _ _ _ _ _ _ _ _ _ _ _ _
      | exact LeO.none _
      | refine LeO.ite ?_ ?_
      | refine LeO.bind ?_ (fun _ => ?_)
def governorlaw12_PidRests.T7 : Bool × List (List Nat × List Nat) := (true, [([], []), ([], []), ([], []), ([], []), ([0, 1, 2, 3], [0, 1, 2, 3]), ([], []), ([], []), ([4, 5, 6, 4], [4, 5, 6]), ([7], [7]), ([8], [8]), ([8], [8]), ([], []), ([11, 9, 7, 0, 1, 2, 3, 4, 5, 6, 7, 8, 9, 11], [9, 11]), ([10, 12, 0, 1, 2, 3, 4, 5, 6, 7, 8, 9, 10, 11, 12], [10])])
def governorlaw12_PidRests.B7 : List Nat := [0, 0, 0, 0, 15, 0, 0, 127, 255, 511, 511, 0, 3071, 8191]
theorem governorlaw12_PidRests.tab7 : rtab .any (opsOf Try.f13 7) = governorlaw12_PidRests.T7 := by kernel_rfl
theorem governorlaw12_PidRests.bits7 : waitsOk governorlaw12_PidRests.T7.2 governorlaw12_PidRests.B7 = true := by kernel_rfl
def governorlaw12_PidRests.T12 : Bool × List (List Nat × List Nat) := (true, [([], []), ([], []), ([0, 1], [0, 1]), ([], []), ([], []), ([2, 3, 4, 2], [2, 3, 4]), ([5], [5]), ([6], [6]), ([6], [6]), ([], []), ([9, 7, 5, 0, 1, 2, 3, 4, 5, 6, 7, 9], [7, 9]), ([8, 10, 0, 1, 2, 3, 4, 5, 6, 7, 8, 9, 10], [8])])
def governorlaw12_PidRests.B12 : List Nat := [0, 0, 3, 0, 0, 31, 63, 127, 127, 0, 767, 2047]
theorem governorlaw12_PidRests.tab12 : rtab .any (opsOf Try.f13 12) = governorlaw12_PidRests.T12 := by kernel_rfl
theorem governorlaw12_PidRests.bits12 : waitsOk governorlaw12_PidRests.T12.2 governorlaw12_PidRests.B12 = true := by kernel_rfl
set_option maxHeartbeats 8000000 in
set_option maxRecDepth 100000 in
theorem governorlaw12_PidRests.calls (k : Nat) (a0 : Int) (a1 : Int) (a2 : Int) (a3 : Int) (a4 : Int) (a5 : Int) (r : Bool) (w : World) (hrT : r = true) (h : governorlaw12_PidRests.f k a0 a1 a2 a3 a4 a5 = some r) :
    Calls Try.prog 13 #[.int .i64 a0, .int .i64 a1, .int .i64 a2, .int .i64 a3, .int .i64 a4, .int .u8 a5] w fun e w' => e = .returned (.bool r) ∧ Below w.heap.size w w' := by
  have hu37 := Try.underlying37
  have HB := Aside0.mk (Below.refl w.heap.size w)
  have HRT := Aside0.mk hrT
  clear hrT
  have H : ((governorlaw12_head.f k).bind fun t471 => ((governorref08_Sat.f a0).bind fun t472 => (governorlaw12_PidRests.l0 k a1 a2 a3 a4 a5 t471 t472 0 0 0 false))) = some r := h
  clear h
  replace H := Option.bind_eq_some_iff.mp H
  obtain ⟨t471, A70, H⟩ := H
  replace H : ((governorref08_Sat.f a0).bind fun t472 => (governorlaw12_PidRests.l0 k a1 a2 a3 a4 a5 t471 t472 0 0 0 false)) = some r := H
  have A7 := Aside0.mk A70
  clear A70
  replace H := Option.bind_eq_some_iff.mp H
  obtain ⟨t472, A80, H⟩ := H
  replace H : (governorlaw12_PidRests.l0 k a1 a2 a3 a4 a5 t471 t472 0 0 0 false) = some r := H
  have A8 := Aside0.mk A80
  clear A80
  have H' := Aside0.mk H
  clear H
  go_enter Try.func13, Try.ntmps13
  go_wp2_with (first | ((with_reducible refine gate_callee (f := 21) rfl ?_); refine goesL_ (some 23) rfl rfl Try.func21 (by kernel_rfl) rfl #[] rfl (by (try simp only [List.map_toArray, List.map_cons, List.map_nil]); first | done | rfl | (simp only [List.length_drop, List.length_take]; rfl)) ?_; (with_reducible refine (governorlaw12_head.calls k  t471 _ A7.out).mono ?_); rintro e w9 ⟨rfl, hb⟩; refine ⟨_, rfl, ?_⟩; have n0_ := Aside0.mk (below_step (by repeat (first | (with_reducible first | exact HB.out | apply below_alloc | apply pw_below_drewN | apply below_drew1) | exact HB.out)) hb); clear HB; have HB := n0_; clear n0_; (try clear hb); (try clear hb2); (try clear hk); (try clear hi)) | ((with_reducible refine gate_callee (f := 29) rfl ?_); refine goesL_ (some 25) rfl rfl Try.func29 (by kernel_rfl) rfl #[.int .i64 a0] rfl (by (try simp only [List.map_toArray, List.map_cons, List.map_nil]); first | done | rfl | (simp only [List.length_drop, List.length_take]; rfl)) ?_; (with_reducible refine (governorref08_Sat.calls a0 t472 _ A8.out).mono ?_); rintro e w' ⟨rfl, ⟨nd, rfl⟩⟩; refine ⟨_, rfl, ?_⟩) | ((with_reducible refine gate_dst (N := 15) rfl ?_); refine box_event ?hg (N := 15) ?hd (cs := #[.int .i64 0, .int .i64 0, .bool false]) (t := 37) ?hr ?_; (case hd => rfl); (case hg => rfl); (case hr => first | (go_simp; done) | (go_simp; rfl)); intro gb473 hg w10 hbox hb; have n0_ := Aside0.mk (below_step (by repeat (first | (with_reducible first | exact HB.out | apply below_alloc | apply pw_below_drewN | apply below_drew1) | exact HB.out)) hb); have n1_ := Aside0.mk (hbox); have n2_ := Aside0.mk ((by rw [hg]; exact (below_size (by repeat (first | (with_reducible first | exact HB.out | apply below_alloc | apply pw_below_drewN | apply below_drew1) | exact HB.out))) : w.heap.size ≤ gb473)); have n3_ := Aside0.mk ((by rw [hg]; exact (below_size (by repeat (first | (with_reducible first | exact HB.out | apply below_alloc | apply pw_below_drewN | apply below_drew1) | exact HB.out))) : w.heap.size ≤ gb473)); clear HB; have HB := n0_; have BK473 := n1_; have GW473 := n2_; have GE473 := n3_; clear n0_ n1_ n2_ n3_; clear hb hbox hg))
  go_loopg [16] k (fun kq v16 w' => ∃ (x16_1 : Int) (x474000_1 : Int) (x474001_1 : Int) (x474002_1 : Bool), v16 = .int .i64 x16_1 ∧ Aside0 (governorlaw12_PidRests.l0 kq a1 a2 a3 a4 a5 t471 t472 x16_1 x474000_1 x474001_1 x474002_1 = some r) ∧ Aside0 (kq ≤ k) ∧ Aside0 (w'.heap[gb473]? = some (.cells #[.int .i64 x474000_1, .int .i64 x474001_1, .bool x474002_1] 37 (0, 0))) ∧ Aside0 (Below w.heap.size w w'))
  case atStart => exact ⟨(0), (0), (0), (false), (by first | rfl | (simp; done) | (simp [*]; done)), H', ⟨Nat.le_refl _⟩, ⟨by (with_reducible repeat (first | refine blk_drewN ?_ _ | refine blk_drew ?_ | refine blk_alloc ?_ _)); exact BK473.out⟩, ⟨by repeat (first | (with_reducible first | exact HB.out | apply below_alloc | apply pw_below_drewN | apply below_drew1 | refine below_set ?_ GE473.out) | exact HB.out)⟩⟩
  case round =>
    clear H'
    try clear c1
    try clear c2
    try clear p2
    obtain ⟨x16_1, x474000_1, x474001_1, x474002_1, rfl, HA, HK1, BK473, HB⟩ := hrel
    cases gk with
    | zero => exact absurd HA.out (by simp [governorlaw12_PidRests.l0])
    | succ k1 =>
      have H := HA.out
      clear HA
      simp only [governorlaw12_PidRests.l0] at H
      by_cases c11 : x16_1 < (Int.tmod (wrap64 (a5)) 40)
      · rw [if_pos c11] at H
        have c11b0 : decide (x16_1 < (Int.tmod (wrap64 (a5)) 40)) = true := decide_eq_true c11
        clear c11
        replace H := Option.bind_eq_some_iff.mp H
        obtain ⟨⟨t474, t475, t476, t479, t480, t481, t482, t483⟩, A120, H⟩ := H
        replace H : ((pid_Next.f k1 t474 t475 t476 t479 t480 t481 t482 t483 x474000_1 x474001_1 x474002_1 t472).bind fun bt486 => (if bt486.2.2.2 = 0 then (if (!(bt486.1 == 0) || (!(bt486.2.1 == 0) || (!bt486.2.2.1))) = true then (some false) else (governorlaw12_PidRests.l0 k1 a1 a2 a3 a4 a5 t471 t472 (wrap64 (x16_1 + 1)) bt486.1 bt486.2.1 bt486.2.2.1)) else (some false))) = some r := H
        have A12 := Aside0.mk A120
        clear A120
        replace H := Option.bind_eq_some_iff.mp H
        obtain ⟨⟨t486, t487, t488, t489⟩, A130, H⟩ := H
        replace H : (if t489 = 0 then (if (!(t486 == 0) || (!(t487 == 0) || (!t488))) = true then (some false) else (governorlaw12_PidRests.l0 k1 a1 a2 a3 a4 a5 t471 t472 (wrap64 (x16_1 + 1)) t486 t487 t488)) else (some false)) = some r := H
        have A13 := Aside0.mk A130
        clear A130
        by_cases c14 : t489 = 0
        · rw [if_pos c14] at H
          have c14b0 : (t489 == 0) = true := beq_iff_eq.mpr c14
          have c14b1 : (t489 != 0) = false := bne_eq_false_iff_eq.mpr c14
          clear c14
          by_cases c15 : (!(t486 == 0) || (!(t487 == 0) || (!t488))) = true
          · rw [if_pos c15] at H
            have c15b0 : (!(t486 == 0) || (!(t487 == 0) || (!t488))) = true := c15
            clear c15
            exact absurd (Option.some.inj H) (by rw [HRT.out]; decide)
          · rw [if_neg c15] at H
            have c15b0 : (!(t486 == 0) || (!(t487 == 0) || (!t488))) = false := by simpa using c15
            clear c15
            have H' := Aside0.mk H
            clear H
            try go_wp2
            have n0_ := Aside0.mk (blk_drew BK473.out)
            have n1_ := Aside0.mk (below_drew1 HB.out)
            clear BK473
            clear HB
            have BK473 := n0_
            have HB := n1_
            clear n0_ n1_
            refine start_ (n := 14) (S := fun w' => w'.cell? ⟨gb473, 0, none⟩ = some (.int .i64 x474000_1) ∧ w'.cell? ⟨gb473, 1, none⟩ = some (.int .i64 x474001_1) ∧ w'.cell? ⟨gb473, 2, none⟩ = some (.bool x474002_1)) (ds := []) #[false, false, false, false, false, false, false, false, false, false, false, false, false, false] (by kernel_rfl) rfl rfl ⟨(blk_cell BK473.out 0).trans rfl, (blk_cell BK473.out 1).trans rfl, (blk_cell BK473.out 2).trans rfl⟩ (fun hHeld => ?_); refine with_tabW governorlaw12_PidRests.tab7 governorlaw12_PidRests.bits7 (fun HT_ HW_ => ?_)
            generalize wr.drew = w16 at BK473 HB hHeld ⊢
            refine pure_ (i := 0) (N := some 34) (v := ?_) (a' := ?_) #[true, false, false, false, false, false, false, false, false, false, false, false, false, false] rfl rfl (any_of HT_.out (by kernel_rfl)) (fun _ _ _ h => h) (Or.inl ⟨by rfl, ?_⟩) ?_ ?_
            rotate_left
            · intro w'
              go_simp
              with_reducible rfl
            rotate_left
            · simp only [Act.put, List.setIfInBounds_toArray, List.set_cons_zero, List.set_cons_succ, i64_w, i32_w]
              rfl
            refine pure_ (i := 1) (N := some 35) (v := ?_) (a' := ?_) #[true, true, false, false, false, false, false, false, false, false, false, false, false, false] rfl rfl (any_of HT_.out (by kernel_rfl)) (fun _ _ _ h => h) (Or.inl ⟨by rfl, ?_⟩) ?_ ?_
            rotate_left
            · intro w'
              go_simp
              with_reducible rfl
            rotate_left
            · simp only [Act.put, List.setIfInBounds_toArray, List.set_cons_zero, List.set_cons_succ, i64_w, i32_w]
              rfl
            refine pure_ (i := 2) (N := some 36) (v := ?_) (a' := ?_) #[true, true, true, false, false, false, false, false, false, false, false, false, false, false] rfl rfl (any_of HT_.out (by kernel_rfl)) (fun _ _ _ h => h) (Or.inl ⟨by rfl, ?_⟩) ?_ ?_
            rotate_left
            · intro w'
              go_simp
              with_reducible rfl
            rotate_left
            · simp only [Act.put, List.setIfInBounds_toArray, List.set_cons_zero, List.set_cons_succ, i64_w, i32_w]
              rfl
            refine pure_ (i := 3) (N := some 37) (v := ?_) (a' := ?_) #[true, true, true, true, false, false, false, false, false, false, false, false, false, false] rfl rfl (any_of HT_.out (by kernel_rfl)) (fun _ _ _ h => h) (Or.inl ⟨by rfl, ?_⟩) ?_ ?_
            rotate_left
            · intro w'
              go_simp
              with_reducible rfl
            rotate_left
            · simp only [Act.put, List.setIfInBounds_toArray, List.set_cons_zero, List.set_cons_succ, i64_w, i32_w]
              rfl
            refine pure_ (i := 6) (N := some 40) (v := ?_) (a' := ?_) #[true, true, true, true, false, false, true, false, false, false, false, false, false, false] rfl rfl (any_of HT_.out (by kernel_rfl)) (fun _ _ _ h => h) (Or.inl ⟨by rfl, ?_⟩) ?_ ?_
            rotate_left
            · intro w'
              go_simp
              with_reducible rfl
            rotate_left
            · simp only [Act.put, List.setIfInBounds_toArray, List.set_cons_zero, List.set_cons_succ, i64_w, i32_w]
              rfl
            refine take_ (i := 5) (N := some 39) (v := ?_) (a' := ?_) #[true, true, true, true, false, true, true, false, false, false, false, false, false, false] rfl rfl (take_ofW HT_.out HW_.out (by kernel_rfl)) (fun _ _ _ h => h) (Or.inl ⟨by rfl, ?_⟩) hHeld ?_ ?_
            rotate_left
            · rintro w' ⟨s0, s1, s2⟩
              go_simp
              with_reducible rfl
            rotate_left
            · simp only [Act.put, List.setIfInBounds_toArray, List.set_cons_zero, List.set_cons_succ, i64_w, i32_w]
              rfl
            refine join_ (σ := Value × Value × Nat) 2 #[true, true, true, true, true, true, true, true, true, true, true, true, false, false] (fun s_ => [(38, .agg #[.int .i64 t474, .int .i64 t475, s_.1, .int .i64 t479, .int .i64 t480, .int .i64 t481, .int .i64 t482, s_.2.1]), (41, .tuple #[.agg #[.int .i64 t486, .int .i64 t487, .bool t488], .int .i64 t489]), (17, .pointer (some ⟨s_.2.2, 0, none⟩)), (33, .tuple #[.agg #[.int .i64 t486, .int .i64 t487, .bool t488], .int .i64 t489]), (42, .agg #[.int .i64 t486, .int .i64 t487, .bool t488]), (43, .int .i64 t489)]) (fun s_ w' => (w'.cell? ⟨gb473, 0, none⟩ = some (.int .i64 x474000_1) ∧ w'.cell? ⟨gb473, 1, none⟩ = some (.int .i64 x474001_1) ∧ w'.cell? ⟨gb473, 2, none⟩ = some (.bool x474002_1)) ∧ (Kd.R k29 29 w' w.heap.size (fun _ => True) s_.1 t476) ∧ (Kd.R k71 71 w' w.heap.size (fun _ => True) s_.2.1 t483) ∧ (w'.heap[gb473]? = some (.cells #[.int .i64 x474000_1, .int .i64 x474001_1, .bool x474002_1] 37 (0, 0))) ∧ (w'.heap[s_.2.2]? = some (.cells #[.int .i64 0, .int .i64 0, .bool false] 37 (0, 0))) ∧ (w.heap.size ≤ s_.2.2) ∧ (w.heap.size ≤ s_.2.2) ∧ (gb473 ≠ s_.2.2) ∧ (s_.2.2 ≠ gb473) ∧ (Below w.heap.size w w')) ?_ ?_
            rotate_left
            · intro hCont
              refine two_ (i := 4) (j := 11) (Ni := some 38) (Nj := some 17) #[true, true, true, true, true, true, true, false, false, false, false, false, false, false] #[true, true, true, true, false, true, true, false, false, false, false, true, false, false] rfl rfl rfl rfl (two_of HT_.out (by kernel_rfl)) (by decide) (by decide) (fun K hK => ?_) (fun K hK => ?_)
              · skip
                refine goes_ Try.func23 (by kernel_rfl) rfl #[.int .i64 t472, .int .i64 a1, .int .i64 a2, .int .i64 a3] (by rfl) rfl rfl (by (try simp only [List.map_toArray, List.map_cons, List.map_nil]); first | done | rfl | (simp only [List.length_drop, List.length_take]; rfl)) ?_
                with_reducible refine (governorlaw12_Of.calls t472 a1 a2 a3 t474 t475 t476 t479 t480 t481 t482 t483 _ A12.out).mono ?_
                rintro e w17 ⟨v477, v484, rfl, ho0, ho1, hb⟩
                refine ⟨_, rfl, ?_⟩
                have n0_ := Aside0.mk (Kd.R_lower ho0 (below_size (by repeat (first | (with_reducible first | exact HB.out | apply below_alloc | apply pw_below_drewN | apply below_drew1 | refine below_set ?_ GE473.out) | exact HB.out))))
                have n1_ := Aside0.mk (Kd.R_lower ho1 (below_size (by repeat (first | (with_reducible first | exact HB.out | apply below_alloc | apply pw_below_drewN | apply below_drew1 | refine below_set ?_ GE473.out) | exact HB.out))))
                have n2_ := Aside0.mk (blk_below (g := gb473) (o := .cells #[.int .i64 x474000_1, .int .i64 x474001_1, .bool x474002_1] 37 (0, 0)) (by (with_reducible repeat (first | refine blk_drewN ?_ _ | refine blk_drew ?_ | refine blk_alloc ?_ _)); exact BK473.out) hb)
                have n3_ := Aside0.mk (below_step (by repeat (first | (with_reducible first | exact HB.out | apply below_alloc | apply pw_below_drewN | apply below_drew1 | refine below_set ?_ GE473.out) | exact HB.out)) hb)
                clear BK473
                clear HB
                have HO478 := n0_
                have HO485 := n1_
                have BK473 := n2_
                have HB := n3_
                clear n0_ n1_ n2_ n3_
                (try clear hb)
                (try clear hb2)
                (try clear hk)
                (try clear hi)
                (try clear ho0)
                (try clear ho1)
                obtain ⟨Ao18, co18, eo18⟩ := Kd.R_slice HO478.out
                (first | subst eo18 | (injection eo18 with f1_ f2_ f3_; have f4_ := f1_.symm; have f5_ := f3_.symm; clear f1_ f2_ f3_; subst f4_; subst f5_))
                obtain ⟨Ao19, co19, eo19⟩ := Kd.R_slice HO485.out
                (first | subst eo19 | (injection eo19 with f1_ f2_ f3_; have f4_ := f1_.symm; have f5_ := f3_.symm; clear f1_ f2_ f3_; subst f4_; subst f5_))
                refine hK.out _ _ ⟨(blk_cell BK473.out 0).trans rfl, (blk_cell BK473.out 1).trans rfl, (blk_cell BK473.out 2).trans rfl⟩ (fun hHeld => ?_)
                clear hK K
                refine norm_ (a' := ?_) ?_ ?_
                rotate_left
                · show Act.put _ (some 38) _ = _
                  simp only [Act.put, List.setIfInBounds_toArray, List.set_cons_zero, List.set_cons_succ, i64_w, i32_w]
                  rfl
                refine two_ (i := 7) (j := 11) (Ni := some 41) (Nj := some 17) #[true, true, true, true, true, true, true, true, false, false, false, false, false, false] #[true, true, true, true, true, true, true, false, false, false, false, true, false, false] rfl rfl rfl rfl (two_of HT_.out (by kernel_rfl)) (by decide) (by decide) (fun K hK => ?_) (fun K hK => ?_)
                · skip
                  refine goes_ Try.func22 (by kernel_rfl) rfl #[.agg #[.int .i64 t474, .int .i64 t475, .slice Ao18 t476.length co18, .int .i64 t479, .int .i64 t480, .int .i64 t481, .int .i64 t482, .slice Ao19 t483.length co19], .agg #[.int .i64 x474000_1, .int .i64 x474001_1, .bool x474002_1], .int .i64 t472] (by rfl) rfl rfl (by (try simp only [List.map_toArray, List.map_cons, List.map_nil]); first | done | rfl | (simp only [List.length_drop, List.length_take]; rfl)) ?_
                  with_reducible refine (pid_Next.calls k1 t474 t475 _ _ t476 t479 t480 t481 t482 _ _ t483 x474000_1 x474001_1 x474002_1 t472 t486 t487 t488 t489 _ ?side1 ?side2 ?side3 ?side4 A13.out).mono ?_
                  (case side1 => repeat (first | exact (Kd.R_reads' HO478.out).2.2 | (with_reducible refine Kd.C_alloc ?_ _) | (with_reducible refine Kd.C_drewN ?_ _) | (with_reducible refine Kd.C_drew ?_)))
                  (case side2 => exact (Kd.R_reads' HO478.out).2.1)
                  (case side3 => repeat (first | exact (Kd.R_reads' HO485.out).2.2 | (with_reducible refine Kd.C_alloc ?_ _) | (with_reducible refine Kd.C_drewN ?_ _) | (with_reducible refine Kd.C_drew ?_)))
                  (case side4 => exact (Kd.R_reads' HO485.out).2.1)
                  rintro e w20 ⟨rfl, hb⟩
                  refine ⟨_, rfl, ?_⟩
                  have n0_ := Aside0.mk (Kd.R_below (by (with_reducible repeat (first | apply Kd.R_alloc | apply Kd.R_drewN | apply Kd.R_drew)); exact HO478.out) hb)
                  have n1_ := Aside0.mk (Kd.R_below (by (with_reducible repeat (first | apply Kd.R_alloc | apply Kd.R_drewN | apply Kd.R_drew)); exact HO485.out) hb)
                  have n2_ := Aside0.mk (blk_below (g := gb473) (o := .cells #[.int .i64 x474000_1, .int .i64 x474001_1, .bool x474002_1] 37 (0, 0)) (by (with_reducible repeat (first | refine blk_drewN ?_ _ | refine blk_drew ?_ | refine blk_alloc ?_ _)); exact BK473.out) hb)
                  have n3_ := Aside0.mk (below_step (by repeat (first | (with_reducible first | exact HB.out | apply below_alloc | apply pw_below_drewN | apply below_drew1 | refine below_set ?_ GE473.out) | exact HB.out)) hb)
                  clear HO478
                  clear HO485
                  clear BK473
                  clear HB
                  have HO478 := n0_
                  have HO485 := n1_
                  have BK473 := n2_
                  have HB := n3_
                  clear n0_ n1_ n2_ n3_
                  (try clear hb)
                  (try clear hb2)
                  (try clear hk)
                  (try clear hi)
                  refine hK.out _ _ ⟨(blk_cell BK473.out 0).trans rfl, (blk_cell BK473.out 1).trans rfl, (blk_cell BK473.out 2).trans rfl⟩ (fun hHeld => ?_)
                  clear hK K
                  refine norm_ (a' := ?_) ?_ ?_
                  rotate_left
                  · show Act.put _ (some 41) _ = _
                    simp only [Act.put, List.setIfInBounds_toArray, List.set_cons_zero, List.set_cons_succ, i64_w, i32_w]
                    rfl
                  refine pure_ (i := 8) (N := some 33) (v := ?_) (a' := ?_) #[true, true, true, true, true, true, true, true, true, false, false, false, false, false] rfl rfl (any_of HT_.out (by kernel_rfl)) (fun _ _ _ h => h) (Or.inl ⟨by rfl, ?_⟩) ?_ ?_
                  rotate_left
                  · intro w'
                    go_simp
                    with_reducible rfl
                  rotate_left
                  · simp only [Act.put, List.setIfInBounds_toArray, List.set_cons_zero, List.set_cons_succ, i64_w, i32_w]
                    rfl
                  refine pure_ (i := 9) (N := some 42) (v := ?_) (a' := ?_) #[true, true, true, true, true, true, true, true, true, true, false, false, false, false] rfl rfl (any_of HT_.out (by kernel_rfl)) (fun _ _ _ h => h) (Or.inl ⟨by rfl, ?_⟩) ?_ ?_
                  rotate_left
                  · intro w'
                    go_simp
                    with_reducible rfl
                  rotate_left
                  · simp only [Act.put, List.setIfInBounds_toArray, List.set_cons_zero, List.set_cons_succ, i64_w, i32_w]
                    rfl
                  refine pure_ (i := 10) (N := some 43) (v := ?_) (a' := ?_) #[true, true, true, true, true, true, true, true, true, true, true, false, false, false] rfl rfl (any_of HT_.out (by kernel_rfl)) (fun _ _ _ h => h) (Or.inl ⟨by rfl, ?_⟩) ?_ ?_
                  rotate_left
                  · intro w'
                    go_simp
                    with_reducible rfl
                  rotate_left
                  · simp only [Act.put, List.setIfInBounds_toArray, List.set_cons_zero, List.set_cons_succ, i64_w, i32_w]
                    rfl
                  refine one_ (i := 11) (N := some 17) #[true, true, true, true, true, true, true, true, true, true, true, true, false, false] rfl rfl (one_of HT_.out (by kernel_rfl)) (by decide) (fun K hK => ?_)
                  refine box_step ?hg (N := 17) ?hd (cs := #[.int .i64 0, .int .i64 0, .bool false]) (t := 37) ?hr ?_; (case hd => rfl); (case hg => rfl); (case hr => first | (go_simp; done) | (go_simp; rfl))
                  intro gb490 hg w21 hbox hb
                  have n0_ := Aside0.mk (Kd.R_below (by (with_reducible repeat (first | apply Kd.R_alloc | apply Kd.R_drewN | apply Kd.R_drew)); exact HO478.out) hb)
                  have n1_ := Aside0.mk (Kd.R_below (by (with_reducible repeat (first | apply Kd.R_alloc | apply Kd.R_drewN | apply Kd.R_drew)); exact HO485.out) hb)
                  have n2_ := Aside0.mk (blk_below (g := gb473) (o := .cells #[.int .i64 x474000_1, .int .i64 x474001_1, .bool x474002_1] 37 (0, 0)) (by (with_reducible repeat (first | refine blk_drewN ?_ _ | refine blk_drew ?_ | refine blk_alloc ?_ _)); exact BK473.out) hb)
                  have n3_ := Aside0.mk (below_step (by repeat (first | (with_reducible first | exact HB.out | apply below_alloc | apply pw_below_drewN | apply below_drew1 | refine below_set ?_ GE473.out) | exact HB.out)) hb)
                  have n4_ := Aside0.mk (hbox)
                  have n5_ := Aside0.mk ((by rw [hg]; exact (below_size (by repeat (first | (with_reducible first | exact HB.out | apply below_alloc | apply pw_below_drewN | apply below_drew1 | refine below_set ?_ GE473.out) | exact HB.out))) : w.heap.size ≤ gb490))
                  have n6_ := Aside0.mk ((by rw [hg]; exact (below_size (by repeat (first | (with_reducible first | exact HB.out | apply below_alloc | apply pw_below_drewN | apply below_drew1 | refine below_set ?_ GE473.out) | exact HB.out))) : w.heap.size ≤ gb490))
                  have n7_ := Aside0.mk ((by rw [hg]; exact Nat.ne_of_lt (blk_lt (g := gb473) (o := .cells #[.int .i64 x474000_1, .int .i64 x474001_1, .bool x474002_1] 37 (0, 0)) (by (with_reducible repeat (first | refine blk_drewN ?_ _ | refine blk_drew ?_ | refine blk_alloc ?_ _)); exact BK473.out)) : gb473 ≠ gb490))
                  have n8_ := Aside0.mk ((by rw [hg]; exact Nat.ne_of_gt (blk_lt (g := gb473) (o := .cells #[.int .i64 x474000_1, .int .i64 x474001_1, .bool x474002_1] 37 (0, 0)) (by (with_reducible repeat (first | refine blk_drewN ?_ _ | refine blk_drew ?_ | refine blk_alloc ?_ _)); exact BK473.out)) : gb490 ≠ gb473))
                  clear HO478
                  clear HO485
                  clear BK473
                  clear HB
                  have HO478 := n0_
                  have HO485 := n1_
                  have BK473 := n2_
                  have HB := n3_
                  have BK490 := n4_
                  have GW490 := n5_
                  have GE490 := n6_
                  have NB473_490 := n7_
                  have NB490_473 := n8_
                  clear n0_ n1_ n2_ n3_ n4_ n5_ n6_ n7_ n8_
                  clear hb hbox hg
                  refine hK.out _ _ ⟨(blk_cell BK473.out 0).trans rfl, (blk_cell BK473.out 1).trans rfl, (blk_cell BK473.out 2).trans rfl⟩ (fun hHeld => ?_)
                  clear hK K
                  refine norm_ (a' := ?_) ?_ ?_
                  rotate_left
                  · show Act.put _ (some 17) _ = _
                    simp only [Act.put, List.setIfInBounds_toArray, List.set_cons_zero, List.set_cons_succ, i64_w, i32_w]
                    rfl
                  exact norm_ (by simp only [putAll, Act.put, List.setIfInBounds_toArray, List.set_cons_zero, List.set_cons_succ]) (hCont (.slice Ao18 t476.length co18, .slice Ao19 t483.length co19, gb490) _ ⟨hHeld, (by (with_reducible repeat (first | apply Kd.R_alloc | apply Kd.R_drewN | apply Kd.R_drew)); exact HO478.out), (by (with_reducible repeat (first | apply Kd.R_alloc | apply Kd.R_drewN | apply Kd.R_drew)); exact HO485.out), (by (with_reducible repeat (first | refine blk_drewN ?_ _ | refine blk_drew ?_ | refine blk_alloc ?_ _)); exact BK473.out), (by (with_reducible repeat (first | refine blk_drewN ?_ _ | refine blk_drew ?_ | refine blk_alloc ?_ _)); exact BK490.out), GW490.out, GE490.out, NB473_490.out, NB490_473.out, (by repeat (first | (with_reducible first | exact HB.out | apply below_alloc | apply pw_below_drewN | apply below_drew1 | refine below_set ?_ GE473.out | refine below_set ?_ GE490.out) | exact HB.out))⟩)
                · skip
                  refine box_step ?hg (N := 17) ?hd (cs := #[.int .i64 0, .int .i64 0, .bool false]) (t := 37) ?hr ?_; (case hd => rfl); (case hg => rfl); (case hr => first | (go_simp; done) | (go_simp; rfl))
                  intro gb490 hg w18 hbox hb
                  have n0_ := Aside0.mk (Kd.R_below (by (with_reducible repeat (first | apply Kd.R_alloc | apply Kd.R_drewN | apply Kd.R_drew)); exact HO478.out) hb)
                  have n1_ := Aside0.mk (Kd.R_below (by (with_reducible repeat (first | apply Kd.R_alloc | apply Kd.R_drewN | apply Kd.R_drew)); exact HO485.out) hb)
                  have n2_ := Aside0.mk (blk_below (g := gb473) (o := .cells #[.int .i64 x474000_1, .int .i64 x474001_1, .bool x474002_1] 37 (0, 0)) (by (with_reducible repeat (first | refine blk_drewN ?_ _ | refine blk_drew ?_ | refine blk_alloc ?_ _)); exact BK473.out) hb)
                  have n3_ := Aside0.mk (below_step (by repeat (first | (with_reducible first | exact HB.out | apply below_alloc | apply pw_below_drewN | apply below_drew1 | refine below_set ?_ GE473.out) | exact HB.out)) hb)
                  have n4_ := Aside0.mk (hbox)
                  have n5_ := Aside0.mk ((by rw [hg]; exact (below_size (by repeat (first | (with_reducible first | exact HB.out | apply below_alloc | apply pw_below_drewN | apply below_drew1 | refine below_set ?_ GE473.out) | exact HB.out))) : w.heap.size ≤ gb490))
                  have n6_ := Aside0.mk ((by rw [hg]; exact (below_size (by repeat (first | (with_reducible first | exact HB.out | apply below_alloc | apply pw_below_drewN | apply below_drew1 | refine below_set ?_ GE473.out) | exact HB.out))) : w.heap.size ≤ gb490))
                  have n7_ := Aside0.mk ((by rw [hg]; exact Nat.ne_of_lt (blk_lt (g := gb473) (o := .cells #[.int .i64 x474000_1, .int .i64 x474001_1, .bool x474002_1] 37 (0, 0)) (by (with_reducible repeat (first | refine blk_drewN ?_ _ | refine blk_drew ?_ | refine blk_alloc ?_ _)); exact BK473.out)) : gb473 ≠ gb490))
                  have n8_ := Aside0.mk ((by rw [hg]; exact Nat.ne_of_gt (blk_lt (g := gb473) (o := .cells #[.int .i64 x474000_1, .int .i64 x474001_1, .bool x474002_1] 37 (0, 0)) (by (with_reducible repeat (first | refine blk_drewN ?_ _ | refine blk_drew ?_ | refine blk_alloc ?_ _)); exact BK473.out)) : gb490 ≠ gb473))
                  clear HO478
                  clear HO485
                  clear BK473
                  clear HB
                  have HO478 := n0_
                  have HO485 := n1_
                  have BK473 := n2_
                  have HB := n3_
                  have BK490 := n4_
                  have GW490 := n5_
                  have GE490 := n6_
                  have NB473_490 := n7_
                  have NB490_473 := n8_
                  clear n0_ n1_ n2_ n3_ n4_ n5_ n6_ n7_ n8_
                  clear hb hbox hg
                  obtain ⟨Ao19, co19, eo19⟩ := Kd.R_slice HO478.out
                  (first | subst eo19 | (injection eo19 with f1_ f2_ f3_; have f4_ := f1_.symm; have f5_ := f3_.symm; clear f1_ f2_ f3_; subst f4_; subst f5_))
                  obtain ⟨Ao20, co20, eo20⟩ := Kd.R_slice HO485.out
                  (first | subst eo20 | (injection eo20 with f1_ f2_ f3_; have f4_ := f1_.symm; have f5_ := f3_.symm; clear f1_ f2_ f3_; subst f4_; subst f5_))
                  refine hK.out _ _ ⟨(blk_cell BK473.out 0).trans rfl, (blk_cell BK473.out 1).trans rfl, (blk_cell BK473.out 2).trans rfl⟩ (fun hHeld => ?_)
                  clear hK K
                  refine norm_ (a' := ?_) ?_ ?_
                  rotate_left
                  · show Act.put _ (some 17) _ = _
                    simp only [Act.put, List.setIfInBounds_toArray, List.set_cons_zero, List.set_cons_succ, i64_w, i32_w]
                    rfl
                  refine one_ (i := 7) (N := some 41) #[true, true, true, true, true, true, true, true, false, false, false, true, false, false] rfl rfl (one_of HT_.out (by kernel_rfl)) (by decide) (fun K hK => ?_)
                  refine goes_ Try.func22 (by kernel_rfl) rfl #[.agg #[.int .i64 t474, .int .i64 t475, .slice Ao19 t476.length co19, .int .i64 t479, .int .i64 t480, .int .i64 t481, .int .i64 t482, .slice Ao20 t483.length co20], .agg #[.int .i64 x474000_1, .int .i64 x474001_1, .bool x474002_1], .int .i64 t472] (by rfl) rfl rfl (by (try simp only [List.map_toArray, List.map_cons, List.map_nil]); first | done | rfl | (simp only [List.length_drop, List.length_take]; rfl)) ?_
                  with_reducible refine (pid_Next.calls k1 t474 t475 _ _ t476 t479 t480 t481 t482 _ _ t483 x474000_1 x474001_1 x474002_1 t472 t486 t487 t488 t489 _ ?side1 ?side2 ?side3 ?side4 A13.out).mono ?_
                  (case side1 => repeat (first | exact (Kd.R_reads' HO478.out).2.2 | (with_reducible refine Kd.C_alloc ?_ _) | (with_reducible refine Kd.C_drewN ?_ _) | (with_reducible refine Kd.C_drew ?_)))
                  (case side2 => exact (Kd.R_reads' HO478.out).2.1)
                  (case side3 => repeat (first | exact (Kd.R_reads' HO485.out).2.2 | (with_reducible refine Kd.C_alloc ?_ _) | (with_reducible refine Kd.C_drewN ?_ _) | (with_reducible refine Kd.C_drew ?_)))
                  (case side4 => exact (Kd.R_reads' HO485.out).2.1)
                  rintro e w21 ⟨rfl, hb⟩
                  refine ⟨_, rfl, ?_⟩
                  have n0_ := Aside0.mk (Kd.R_below (by (with_reducible repeat (first | apply Kd.R_alloc | apply Kd.R_drewN | apply Kd.R_drew)); exact HO478.out) hb)
                  have n1_ := Aside0.mk (Kd.R_below (by (with_reducible repeat (first | apply Kd.R_alloc | apply Kd.R_drewN | apply Kd.R_drew)); exact HO485.out) hb)
                  have n2_ := Aside0.mk (blk_below (g := gb473) (o := .cells #[.int .i64 x474000_1, .int .i64 x474001_1, .bool x474002_1] 37 (0, 0)) (by (with_reducible repeat (first | refine blk_drewN ?_ _ | refine blk_drew ?_ | refine blk_alloc ?_ _)); exact BK473.out) hb)
                  have n3_ := Aside0.mk (blk_below (g := gb490) (o := .cells #[.int .i64 0, .int .i64 0, .bool false] 37 (0, 0)) (by (with_reducible repeat (first | refine blk_drewN ?_ _ | refine blk_drew ?_ | refine blk_alloc ?_ _)); exact BK490.out) hb)
                  have n4_ := Aside0.mk (below_step (by repeat (first | (with_reducible first | exact HB.out | apply below_alloc | apply pw_below_drewN | apply below_drew1 | refine below_set ?_ GE473.out | refine below_set ?_ GE490.out) | exact HB.out)) hb)
                  clear HO478
                  clear HO485
                  clear BK473
                  clear BK490
                  clear HB
                  have HO478 := n0_
                  have HO485 := n1_
                  have BK473 := n2_
                  have BK490 := n3_
                  have HB := n4_
                  clear n0_ n1_ n2_ n3_ n4_
                  (try clear hb)
                  (try clear hb2)
                  (try clear hk)
                  (try clear hi)
                  refine hK.out _ _ ⟨(blk_cell BK473.out 0).trans rfl, (blk_cell BK473.out 1).trans rfl, (blk_cell BK473.out 2).trans rfl⟩ (fun hHeld => ?_)
                  clear hK K
                  refine norm_ (a' := ?_) ?_ ?_
                  rotate_left
                  · show Act.put _ (some 41) _ = _
                    simp only [Act.put, List.setIfInBounds_toArray, List.set_cons_zero, List.set_cons_succ, i64_w, i32_w]
                    rfl
                  refine pure_ (i := 8) (N := some 33) (v := ?_) (a' := ?_) #[true, true, true, true, true, true, true, true, true, false, false, true, false, false] rfl rfl (any_of HT_.out (by kernel_rfl)) (fun _ _ _ h => h) (Or.inl ⟨by rfl, ?_⟩) ?_ ?_
                  rotate_left
                  · intro w'
                    go_simp
                    with_reducible rfl
                  rotate_left
                  · simp only [Act.put, List.setIfInBounds_toArray, List.set_cons_zero, List.set_cons_succ, i64_w, i32_w]
                    rfl
                  refine pure_ (i := 9) (N := some 42) (v := ?_) (a' := ?_) #[true, true, true, true, true, true, true, true, true, true, false, true, false, false] rfl rfl (any_of HT_.out (by kernel_rfl)) (fun _ _ _ h => h) (Or.inl ⟨by rfl, ?_⟩) ?_ ?_
                  rotate_left
                  · intro w'
                    go_simp
                    with_reducible rfl
                  rotate_left
                  · simp only [Act.put, List.setIfInBounds_toArray, List.set_cons_zero, List.set_cons_succ, i64_w, i32_w]
                    rfl
                  refine pure_ (i := 10) (N := some 43) (v := ?_) (a' := ?_) #[true, true, true, true, true, true, true, true, true, true, true, true, false, false] rfl rfl (any_of HT_.out (by kernel_rfl)) (fun _ _ _ h => h) (Or.inl ⟨by rfl, ?_⟩) ?_ ?_
                  rotate_left
                  · intro w'
                    go_simp
                    with_reducible rfl
                  rotate_left
                  · simp only [Act.put, List.setIfInBounds_toArray, List.set_cons_zero, List.set_cons_succ, i64_w, i32_w]
                    rfl
                  exact norm_ (by simp only [putAll, Act.put, List.setIfInBounds_toArray, List.set_cons_zero, List.set_cons_succ]) (hCont (.slice Ao19 t476.length co19, .slice Ao20 t483.length co20, gb490) _ ⟨hHeld, (by (with_reducible repeat (first | apply Kd.R_alloc | apply Kd.R_drewN | apply Kd.R_drew)); exact HO478.out), (by (with_reducible repeat (first | apply Kd.R_alloc | apply Kd.R_drewN | apply Kd.R_drew)); exact HO485.out), (by (with_reducible repeat (first | refine blk_drewN ?_ _ | refine blk_drew ?_ | refine blk_alloc ?_ _)); exact BK473.out), (by (with_reducible repeat (first | refine blk_drewN ?_ _ | refine blk_drew ?_ | refine blk_alloc ?_ _)); exact BK490.out), GW490.out, GE490.out, NB473_490.out, NB490_473.out, (by repeat (first | (with_reducible first | exact HB.out | apply below_alloc | apply pw_below_drewN | apply below_drew1 | refine below_set ?_ GE473.out | refine below_set ?_ GE490.out) | exact HB.out))⟩)
              · skip
                refine box_step ?hg (N := 17) ?hd (cs := #[.int .i64 0, .int .i64 0, .bool false]) (t := 37) ?hr ?_; (case hd => rfl); (case hg => rfl); (case hr => first | (go_simp; done) | (go_simp; rfl))
                intro gb490 hg w17 hbox hb
                have n0_ := Aside0.mk (blk_below (g := gb473) (o := .cells #[.int .i64 x474000_1, .int .i64 x474001_1, .bool x474002_1] 37 (0, 0)) (by (with_reducible repeat (first | refine blk_drewN ?_ _ | refine blk_drew ?_ | refine blk_alloc ?_ _)); exact BK473.out) hb)
                have n1_ := Aside0.mk (below_step (by repeat (first | (with_reducible first | exact HB.out | apply below_alloc | apply pw_below_drewN | apply below_drew1 | refine below_set ?_ GE473.out) | exact HB.out)) hb)
                have n2_ := Aside0.mk (hbox)
                have n3_ := Aside0.mk ((by rw [hg]; exact (below_size (by repeat (first | (with_reducible first | exact HB.out | apply below_alloc | apply pw_below_drewN | apply below_drew1 | refine below_set ?_ GE473.out) | exact HB.out))) : w.heap.size ≤ gb490))
                have n4_ := Aside0.mk ((by rw [hg]; exact (below_size (by repeat (first | (with_reducible first | exact HB.out | apply below_alloc | apply pw_below_drewN | apply below_drew1 | refine below_set ?_ GE473.out) | exact HB.out))) : w.heap.size ≤ gb490))
                have n5_ := Aside0.mk ((by rw [hg]; exact Nat.ne_of_lt (blk_lt (g := gb473) (o := .cells #[.int .i64 x474000_1, .int .i64 x474001_1, .bool x474002_1] 37 (0, 0)) (by (with_reducible repeat (first | refine blk_drewN ?_ _ | refine blk_drew ?_ | refine blk_alloc ?_ _)); exact BK473.out)) : gb473 ≠ gb490))
                have n6_ := Aside0.mk ((by rw [hg]; exact Nat.ne_of_gt (blk_lt (g := gb473) (o := .cells #[.int .i64 x474000_1, .int .i64 x474001_1, .bool x474002_1] 37 (0, 0)) (by (with_reducible repeat (first | refine blk_drewN ?_ _ | refine blk_drew ?_ | refine blk_alloc ?_ _)); exact BK473.out)) : gb490 ≠ gb473))
                clear BK473
                clear HB
                have BK473 := n0_
                have HB := n1_
                have BK490 := n2_
                have GW490 := n3_
                have GE490 := n4_
                have NB473_490 := n5_
                have NB490_473 := n6_
                clear n0_ n1_ n2_ n3_ n4_ n5_ n6_
                clear hb hbox hg
                refine hK.out _ _ ⟨(blk_cell BK473.out 0).trans rfl, (blk_cell BK473.out 1).trans rfl, (blk_cell BK473.out 2).trans rfl⟩ (fun hHeld => ?_)
                clear hK K
                refine norm_ (a' := ?_) ?_ ?_
                rotate_left
                · show Act.put _ (some 17) _ = _
                  simp only [Act.put, List.setIfInBounds_toArray, List.set_cons_zero, List.set_cons_succ, i64_w, i32_w]
                  rfl
                refine one_ (i := 4) (N := some 38) #[true, true, true, true, true, true, true, false, false, false, false, true, false, false] rfl rfl (one_of HT_.out (by kernel_rfl)) (by decide) (fun K hK => ?_)
                refine goes_ Try.func23 (by kernel_rfl) rfl #[.int .i64 t472, .int .i64 a1, .int .i64 a2, .int .i64 a3] (by rfl) rfl rfl (by (try simp only [List.map_toArray, List.map_cons, List.map_nil]); first | done | rfl | (simp only [List.length_drop, List.length_take]; rfl)) ?_
                with_reducible refine (governorlaw12_Of.calls t472 a1 a2 a3 t474 t475 t476 t479 t480 t481 t482 t483 _ A12.out).mono ?_
                rintro e w18 ⟨v477, v484, rfl, ho0, ho1, hb⟩
                refine ⟨_, rfl, ?_⟩
                have n0_ := Aside0.mk (Kd.R_lower ho0 (below_size (by repeat (first | (with_reducible first | exact HB.out | apply below_alloc | apply pw_below_drewN | apply below_drew1 | refine below_set ?_ GE473.out | refine below_set ?_ GE490.out) | exact HB.out))))
                have n1_ := Aside0.mk (Kd.R_lower ho1 (below_size (by repeat (first | (with_reducible first | exact HB.out | apply below_alloc | apply pw_below_drewN | apply below_drew1 | refine below_set ?_ GE473.out | refine below_set ?_ GE490.out) | exact HB.out))))
                have n2_ := Aside0.mk (blk_below (g := gb473) (o := .cells #[.int .i64 x474000_1, .int .i64 x474001_1, .bool x474002_1] 37 (0, 0)) (by (with_reducible repeat (first | refine blk_drewN ?_ _ | refine blk_drew ?_ | refine blk_alloc ?_ _)); exact BK473.out) hb)
                have n3_ := Aside0.mk (blk_below (g := gb490) (o := .cells #[.int .i64 0, .int .i64 0, .bool false] 37 (0, 0)) (by (with_reducible repeat (first | refine blk_drewN ?_ _ | refine blk_drew ?_ | refine blk_alloc ?_ _)); exact BK490.out) hb)
                have n4_ := Aside0.mk (below_step (by repeat (first | (with_reducible first | exact HB.out | apply below_alloc | apply pw_below_drewN | apply below_drew1 | refine below_set ?_ GE473.out | refine below_set ?_ GE490.out) | exact HB.out)) hb)
                clear BK473
                clear BK490
                clear HB
                have HO478 := n0_
                have HO485 := n1_
                have BK473 := n2_
                have BK490 := n3_
                have HB := n4_
                clear n0_ n1_ n2_ n3_ n4_
                (try clear hb)
                (try clear hb2)
                (try clear hk)
                (try clear hi)
                (try clear ho0)
                (try clear ho1)
                obtain ⟨Ao19, co19, eo19⟩ := Kd.R_slice HO478.out
                (first | subst eo19 | (injection eo19 with f1_ f2_ f3_; have f4_ := f1_.symm; have f5_ := f3_.symm; clear f1_ f2_ f3_; subst f4_; subst f5_))
                obtain ⟨Ao20, co20, eo20⟩ := Kd.R_slice HO485.out
                (first | subst eo20 | (injection eo20 with f1_ f2_ f3_; have f4_ := f1_.symm; have f5_ := f3_.symm; clear f1_ f2_ f3_; subst f4_; subst f5_))
                refine hK.out _ _ ⟨(blk_cell BK473.out 0).trans rfl, (blk_cell BK473.out 1).trans rfl, (blk_cell BK473.out 2).trans rfl⟩ (fun hHeld => ?_)
                clear hK K
                refine norm_ (a' := ?_) ?_ ?_
                rotate_left
                · show Act.put _ (some 38) _ = _
                  simp only [Act.put, List.setIfInBounds_toArray, List.set_cons_zero, List.set_cons_succ, i64_w, i32_w]
                  rfl
                refine one_ (i := 7) (N := some 41) #[true, true, true, true, true, true, true, true, false, false, false, true, false, false] rfl rfl (one_of HT_.out (by kernel_rfl)) (by decide) (fun K hK => ?_)
                refine goes_ Try.func22 (by kernel_rfl) rfl #[.agg #[.int .i64 t474, .int .i64 t475, .slice Ao19 t476.length co19, .int .i64 t479, .int .i64 t480, .int .i64 t481, .int .i64 t482, .slice Ao20 t483.length co20], .agg #[.int .i64 x474000_1, .int .i64 x474001_1, .bool x474002_1], .int .i64 t472] (by rfl) rfl rfl (by (try simp only [List.map_toArray, List.map_cons, List.map_nil]); first | done | rfl | (simp only [List.length_drop, List.length_take]; rfl)) ?_
                with_reducible refine (pid_Next.calls k1 t474 t475 _ _ t476 t479 t480 t481 t482 _ _ t483 x474000_1 x474001_1 x474002_1 t472 t486 t487 t488 t489 _ ?side1 ?side2 ?side3 ?side4 A13.out).mono ?_
                (case side1 => repeat (first | exact (Kd.R_reads' HO478.out).2.2 | (with_reducible refine Kd.C_alloc ?_ _) | (with_reducible refine Kd.C_drewN ?_ _) | (with_reducible refine Kd.C_drew ?_)))
                (case side2 => exact (Kd.R_reads' HO478.out).2.1)
                (case side3 => repeat (first | exact (Kd.R_reads' HO485.out).2.2 | (with_reducible refine Kd.C_alloc ?_ _) | (with_reducible refine Kd.C_drewN ?_ _) | (with_reducible refine Kd.C_drew ?_)))
                (case side4 => exact (Kd.R_reads' HO485.out).2.1)
                rintro e w21 ⟨rfl, hb⟩
                refine ⟨_, rfl, ?_⟩
                have n0_ := Aside0.mk (Kd.R_below (by (with_reducible repeat (first | apply Kd.R_alloc | apply Kd.R_drewN | apply Kd.R_drew)); exact HO478.out) hb)
                have n1_ := Aside0.mk (Kd.R_below (by (with_reducible repeat (first | apply Kd.R_alloc | apply Kd.R_drewN | apply Kd.R_drew)); exact HO485.out) hb)
                have n2_ := Aside0.mk (blk_below (g := gb473) (o := .cells #[.int .i64 x474000_1, .int .i64 x474001_1, .bool x474002_1] 37 (0, 0)) (by (with_reducible repeat (first | refine blk_drewN ?_ _ | refine blk_drew ?_ | refine blk_alloc ?_ _)); exact BK473.out) hb)
                have n3_ := Aside0.mk (blk_below (g := gb490) (o := .cells #[.int .i64 0, .int .i64 0, .bool false] 37 (0, 0)) (by (with_reducible repeat (first | refine blk_drewN ?_ _ | refine blk_drew ?_ | refine blk_alloc ?_ _)); exact BK490.out) hb)
                have n4_ := Aside0.mk (below_step (by repeat (first | (with_reducible first | exact HB.out | apply below_alloc | apply pw_below_drewN | apply below_drew1 | refine below_set ?_ GE473.out | refine below_set ?_ GE490.out) | exact HB.out)) hb)
                clear HO478
                clear HO485
                clear BK473
                clear BK490
                clear HB
                have HO478 := n0_
                have HO485 := n1_
                have BK473 := n2_
                have BK490 := n3_
                have HB := n4_
                clear n0_ n1_ n2_ n3_ n4_
                (try clear hb)
                (try clear hb2)
                (try clear hk)
                (try clear hi)
                refine hK.out _ _ ⟨(blk_cell BK473.out 0).trans rfl, (blk_cell BK473.out 1).trans rfl, (blk_cell BK473.out 2).trans rfl⟩ (fun hHeld => ?_)
                clear hK K
                refine norm_ (a' := ?_) ?_ ?_
                rotate_left
                · show Act.put _ (some 41) _ = _
                  simp only [Act.put, List.setIfInBounds_toArray, List.set_cons_zero, List.set_cons_succ, i64_w, i32_w]
                  rfl
                refine pure_ (i := 8) (N := some 33) (v := ?_) (a' := ?_) #[true, true, true, true, true, true, true, true, true, false, false, true, false, false] rfl rfl (any_of HT_.out (by kernel_rfl)) (fun _ _ _ h => h) (Or.inl ⟨by rfl, ?_⟩) ?_ ?_
                rotate_left
                · intro w'
                  go_simp
                  with_reducible rfl
                rotate_left
                · simp only [Act.put, List.setIfInBounds_toArray, List.set_cons_zero, List.set_cons_succ, i64_w, i32_w]
                  rfl
                refine pure_ (i := 9) (N := some 42) (v := ?_) (a' := ?_) #[true, true, true, true, true, true, true, true, true, true, false, true, false, false] rfl rfl (any_of HT_.out (by kernel_rfl)) (fun _ _ _ h => h) (Or.inl ⟨by rfl, ?_⟩) ?_ ?_
                rotate_left
                · intro w'
                  go_simp
                  with_reducible rfl
                rotate_left
                · simp only [Act.put, List.setIfInBounds_toArray, List.set_cons_zero, List.set_cons_succ, i64_w, i32_w]
                  rfl
                refine pure_ (i := 10) (N := some 43) (v := ?_) (a' := ?_) #[true, true, true, true, true, true, true, true, true, true, true, true, false, false] rfl rfl (any_of HT_.out (by kernel_rfl)) (fun _ _ _ h => h) (Or.inl ⟨by rfl, ?_⟩) ?_ ?_
                rotate_left
                · intro w'
                  go_simp
                  with_reducible rfl
                rotate_left
                · simp only [Act.put, List.setIfInBounds_toArray, List.set_cons_zero, List.set_cons_succ, i64_w, i32_w]
                  rfl
                exact norm_ (by simp only [putAll, Act.put, List.setIfInBounds_toArray, List.set_cons_zero, List.set_cons_succ]) (hCont (.slice Ao19 t476.length co19, .slice Ao20 t483.length co20, gb490) _ ⟨hHeld, (by (with_reducible repeat (first | apply Kd.R_alloc | apply Kd.R_drewN | apply Kd.R_drew)); exact HO478.out), (by (with_reducible repeat (first | apply Kd.R_alloc | apply Kd.R_drewN | apply Kd.R_drew)); exact HO485.out), (by (with_reducible repeat (first | refine blk_drewN ?_ _ | refine blk_drew ?_ | refine blk_alloc ?_ _)); exact BK473.out), (by (with_reducible repeat (first | refine blk_drewN ?_ _ | refine blk_drew ?_ | refine blk_alloc ?_ _)); exact BK490.out), GW490.out, GE490.out, NB473_490.out, NB490_473.out, (by repeat (first | (with_reducible first | exact HB.out | apply below_alloc | apply pw_below_drewN | apply below_drew1 | refine below_set ?_ GE473.out | refine below_set ?_ GE490.out) | exact HB.out))⟩)
            rintro ⟨v477, v484, gb490⟩ w22 ⟨hS_, h0_, h1_, h2_, h3_, h4_, h5_, h6_, h7_, h8_⟩
            have n0_ : Aside0 (Kd.R k29 29 w22 w.heap.size (fun _ => True) v477 t476) := ⟨h0_⟩
            have n1_ : Aside0 (Kd.R k71 71 w22 w.heap.size (fun _ => True) v484 t483) := ⟨h1_⟩
            have n2_ : Aside0 (w22.heap[gb473]? = some (.cells #[.int .i64 x474000_1, .int .i64 x474001_1, .bool x474002_1] 37 (0, 0))) := ⟨h2_⟩
            have n3_ : Aside0 (w22.heap[gb490]? = some (.cells #[.int .i64 0, .int .i64 0, .bool false] 37 (0, 0))) := ⟨h3_⟩
            have n4_ : Aside0 (w.heap.size ≤ gb490) := ⟨h4_⟩
            have n5_ : Aside0 (w.heap.size ≤ gb490) := ⟨h5_⟩
            have n6_ : Aside0 (gb473 ≠ gb490) := ⟨h6_⟩
            have n7_ : Aside0 (gb490 ≠ gb473) := ⟨h7_⟩
            have n8_ : Aside0 (Below w.heap.size w w22) := ⟨h8_⟩
            clear BK473
            clear HB
            clear h0_ h1_ h2_ h3_ h4_ h5_ h6_ h7_ h8_
            have HO478 := n0_
            have HO485 := n1_
            have BK473 := n2_
            have BK490 := n3_
            have GW490 := n4_
            have GE490 := n5_
            have NB473_490 := n6_
            have NB490_473 := n7_
            have HB := n8_
            clear n0_ n1_ n2_ n3_ n4_ n5_ n6_ n7_ n8_
            have hHeld : w22.cell? ⟨gb473, 0, none⟩ = some (.int .i64 x474000_1) ∧ w22.cell? ⟨gb473, 1, none⟩ = some (.int .i64 x474001_1) ∧ w22.cell? ⟨gb473, 2, none⟩ = some (.bool x474002_1) := hS_
            refine norm_ (a' := ?_) ?_ ?_
            rotate_left
            · simp only [putAll, Act.put, List.setIfInBounds_toArray, List.set_cons_zero, List.set_cons_succ]
              rfl
            refine one_ (i := 12) (N := none) #[true, true, true, true, true, true, true, true, true, true, true, true, true, false] rfl rfl (one_of HT_.out (by kernel_rfl)) (by decide) (fun K hK => ?_)
            have hs23 : w22.cell? ⟨gb490, 0, none⟩ = some (.int .i64 0) := (blk_cell BK490.out 0).trans rfl
            have hfs23 := blk_frozen BK490.out 0
            have hns23_0 := NB473_490.out
            have hms23_0 := NB490_473.out
            have hs24 : w22.cell? ⟨gb490, 1, none⟩ = some (.int .i64 0) := (blk_cell BK490.out 1).trans rfl
            have hfs24 := blk_frozen BK490.out 1
            have hns24_0 := NB473_490.out
            have hms24_0 := NB490_473.out
            have hs25 : w22.cell? ⟨gb490, 2, none⟩ = some (.bool false) := (blk_cell BK490.out 2).trans rfl
            have hfs25 := blk_frozen BK490.out 2
            have hns25_0 := NB473_490.out
            have hms25_0 := NB490_473.out
            refine skip_ (w1 := ?_) (by rfl) rfl ?_ ?_
            rotate_left
            · go_simp
              rfl
            refine hK.out _ _ ⟨((cell_far (p := ⟨gb490, _, none⟩) NB473_490.out _).trans (((cell_far (p := ⟨gb490, _, none⟩) NB473_490.out _).trans (((cell_far (p := ⟨gb490, _, none⟩) NB473_490.out _).trans (hHeld.1)))))), ((cell_far (p := ⟨gb490, _, none⟩) NB473_490.out _).trans (((cell_far (p := ⟨gb490, _, none⟩) NB473_490.out _).trans (((cell_far (p := ⟨gb490, _, none⟩) NB473_490.out _).trans (hHeld.2.1)))))), ((cell_far (p := ⟨gb490, _, none⟩) NB473_490.out _).trans (((cell_far (p := ⟨gb490, _, none⟩) NB473_490.out _).trans (((cell_far (p := ⟨gb490, _, none⟩) NB473_490.out _).trans (hHeld.2.2))))))⟩ (fun hHeld => ?_)
            clear hK K
            refine pure_ (i := 13) (N := some 18) (v := ?_) (a' := ?_) #[true, true, true, true, true, true, true, true, true, true, true, true, true, true] rfl rfl (any_of HT_.out (by kernel_rfl)) (fun _ _ _ h => h) (Or.inl ⟨by rfl, ?_⟩) ?_ ?_
            rotate_left
            · intro w'
              go_simp
              with_reducible rfl
            rotate_left
            · simp only [Act.put, List.setIfInBounds_toArray, List.set_cons_zero, List.set_cons_succ, i64_w, i32_w]
              rfl
            refine done_ (done_of HT_.out (by kernel_rfl)) ?_
            have hnb26 := NB490_473.out
            have hnc26 := NB473_490.out
            have hcz27_0 : w22.cell? ⟨gb490, 0, none⟩ = some (.int .i64 0) := (blk_cell BK490.out 0).trans rfl
            have hcz27_1 : w22.cell? ⟨gb490, 1, none⟩ = some (.int .i64 0) := (blk_cell BK490.out 1).trans rfl
            have hcz27_2 : w22.cell? ⟨gb490, 2, none⟩ = some (.bool false) := (blk_cell BK490.out 2).trans rfl
            have hfz27_0 := blk_frozen BK490.out 0
            have hfz27_1 := blk_frozen BK490.out 1
            have hfz27_2 := blk_frozen BK490.out 2
            have hcz28_0 : w22.cell? ⟨gb473, 0, none⟩ = some (.int .i64 x474000_1) := (blk_cell BK473.out 0).trans rfl
            have hcz28_1 : w22.cell? ⟨gb473, 1, none⟩ = some (.int .i64 x474001_1) := (blk_cell BK473.out 1).trans rfl
            have hcz28_2 : w22.cell? ⟨gb473, 2, none⟩ = some (.bool x474002_1) := (blk_cell BK473.out 2).trans rfl
            have hfz28_0 := blk_frozen BK473.out 0
            have hfz28_1 := blk_frozen BK473.out 1
            have hfz28_2 := blk_frozen BK473.out 2
            try go_wp2
            go_roundg k1
            case measure => have := HK1.out; omega
            case rel => exact ⟨(wrap64 (x16_1 + 1)), (t486), (t487), (t488), (by first | rfl | (simp; done) | (simp [*]; done)), H', ⟨by have := HK1.out; omega⟩, ⟨by (with_reducible repeat (first | refine blk_drewN ?_ _ | refine blk_drew ?_ | refine blk_alloc ?_ _)); refine blk_put (cs := #[.int .i64 t486, .int .i64 t487, .bool x474002_1]) ?_ 2 _ rfl; (with_reducible repeat (first | refine blk_drewN ?_ _ | refine blk_drew ?_ | refine blk_alloc ?_ _)); refine blk_put (cs := #[.int .i64 t486, .int .i64 x474001_1, .bool x474002_1]) ?_ 1 _ rfl; (with_reducible repeat (first | refine blk_drewN ?_ _ | refine blk_drew ?_ | refine blk_alloc ?_ _)); refine blk_put (cs := #[.int .i64 x474000_1, .int .i64 x474001_1, .bool x474002_1]) ?_ 0 _ rfl; (with_reducible repeat (first | refine blk_drewN ?_ _ | refine blk_drew ?_ | refine blk_alloc ?_ _)); refine blk_far ?_ NB473_490.out _; (with_reducible repeat (first | refine blk_drewN ?_ _ | refine blk_drew ?_ | refine blk_alloc ?_ _)); refine blk_far ?_ NB473_490.out _; (with_reducible repeat (first | refine blk_drewN ?_ _ | refine blk_drew ?_ | refine blk_alloc ?_ _)); refine blk_far ?_ NB473_490.out _; (with_reducible repeat (first | refine blk_drewN ?_ _ | refine blk_drew ?_ | refine blk_alloc ?_ _)); exact BK473.out⟩, ⟨by repeat (first | (with_reducible first | exact HB.out | apply below_alloc | apply pw_below_drewN | apply below_drew1 | refine below_set ?_ GE473.out | refine below_set ?_ GE490.out) | exact HB.out)⟩⟩
        · rw [if_neg c14] at H
          have c14b0 : (t489 == 0) = false := beq_eq_false_iff_ne.mpr c14
          have c14b1 : (t489 != 0) = true := bne_iff_ne.mpr c14
          exact absurd (Option.some.inj H) (by rw [HRT.out]; decide)
      · rw [if_neg c11] at H
        have c11b0 : decide (x16_1 < (Int.tmod (wrap64 (a5)) 40)) = false := decide_eq_false c11
        clear c11
        replace H := Option.bind_eq_some_iff.mp H
        obtain ⟨⟨t491, t492, t493, t496, t497, t498, t499, t500⟩, A290, H⟩ := H
        replace H : ((pid_Next.f k1 t491 t492 t493 t496 t497 t498 t499 t500 0 0 false a4).bind fun bt503 => ((governorlaw12_Of.f t472 0 0 a3).bind fun bt508 => ((pid_Next.f k1 bt508.1 bt508.2.1 bt508.2.2.1 bt508.2.2.2.1 bt508.2.2.2.2.1 bt508.2.2.2.2.2.1 bt508.2.2.2.2.2.2.1 bt508.2.2.2.2.2.2.2 bt503.1 bt503.2.1 bt503.2.2.1 a4).bind fun bt520 => (if t471 = true then (some (bt520.2.2.2 == 0)) else (some false))))) = some r := H
        have A29 := Aside0.mk A290
        clear A290
        replace H := Option.bind_eq_some_iff.mp H
        obtain ⟨⟨t503, t504, t505, t506⟩, A300, H⟩ := H
        replace H : ((governorlaw12_Of.f t472 0 0 a3).bind fun bt508 => ((pid_Next.f k1 bt508.1 bt508.2.1 bt508.2.2.1 bt508.2.2.2.1 bt508.2.2.2.2.1 bt508.2.2.2.2.2.1 bt508.2.2.2.2.2.2.1 bt508.2.2.2.2.2.2.2 t503 t504 t505 a4).bind fun bt520 => (if t471 = true then (some (bt520.2.2.2 == 0)) else (some false)))) = some r := H
        have A30 := Aside0.mk A300
        clear A300
        replace H := Option.bind_eq_some_iff.mp H
        obtain ⟨⟨t508, t509, t510, t513, t514, t515, t516, t517⟩, A310, H⟩ := H
        replace H : ((pid_Next.f k1 t508 t509 t510 t513 t514 t515 t516 t517 t503 t504 t505 a4).bind fun bt520 => (if t471 = true then (some (bt520.2.2.2 == 0)) else (some false))) = some r := H
        have A31 := Aside0.mk A310
        clear A310
        replace H := Option.bind_eq_some_iff.mp H
        obtain ⟨⟨t520, t521, t522, t523⟩, A320, H⟩ := H
        replace H : (if t471 = true then (some (t523 == 0)) else (some false)) = some r := H
        have A32 := Aside0.mk A320
        clear A320
        by_cases c33 : t471 = true
        · subst c33
          have H1 : (some (t523 == 0)) = some r := by rw [if_pos rfl] at H; exact H
          clear H
          have H := H1
          clear H1
          obtain rfl := Option.some.inj H
          try go_wp2_with (first | ((with_reducible refine gate_callee (f := 23) rfl ?_); refine goesL_ (some 55) rfl rfl Try.func23 (by kernel_rfl) rfl #[.int .i64 t472, .int .i64 0, .int .i64 0, .int .i64 a3] rfl (by (try simp only [List.map_toArray, List.map_cons, List.map_nil]); first | done | rfl | (simp only [List.length_drop, List.length_take]; rfl)) ?_; (with_reducible refine (governorlaw12_Of.calls t472 0 0 a3 t491 t492 t493 t496 t497 t498 t499 t500 _ A29.out).mono ?_); rintro e w34 ⟨v494, v501, rfl, ho0, ho1, hb⟩; refine ⟨_, rfl, ?_⟩; have n0_ := Aside0.mk (Kd.R_lower ho0 (below_size (by repeat (first | (with_reducible first | exact HB.out | apply below_alloc | apply pw_below_drewN | apply below_drew1 | refine below_set ?_ GE473.out) | exact HB.out)))); have n1_ := Aside0.mk (Kd.R_lower ho1 (below_size (by repeat (first | (with_reducible first | exact HB.out | apply below_alloc | apply pw_below_drewN | apply below_drew1 | refine below_set ?_ GE473.out) | exact HB.out)))); have n2_ := Aside0.mk (blk_below (g := gb473) (o := .cells #[.int .i64 x474000_1, .int .i64 x474001_1, .bool x474002_1] 37 (0, 0)) (by (with_reducible repeat (first | refine blk_drewN ?_ _ | refine blk_drew ?_ | refine blk_alloc ?_ _)); exact BK473.out) hb); have n3_ := Aside0.mk (below_step (by repeat (first | (with_reducible first | exact HB.out | apply below_alloc | apply pw_below_drewN | apply below_drew1 | refine below_set ?_ GE473.out) | exact HB.out)) hb); clear BK473; clear HB; have HO495 := n0_; have HO502 := n1_; have BK473 := n2_; have HB := n3_; clear n0_ n1_ n2_ n3_; (try clear hb); (try clear hb2); (try clear hk); (try clear hi); (try clear ho0); (try clear ho1); clear A29; obtain ⟨Ao35, co35, eo35⟩ := Kd.R_slice HO495.out; subst eo35; obtain ⟨Ao36, co36, eo36⟩ := Kd.R_slice HO502.out; subst eo36) | ((with_reducible refine gate_callee (f := 22) rfl ?_); refine goesL_ (some 58) rfl rfl Try.func22 (by kernel_rfl) rfl #[.agg #[.int .i64 t491, .int .i64 t492, .slice Ao35 t493.length co35, .int .i64 t496, .int .i64 t497, .int .i64 t498, .int .i64 t499, .slice Ao36 t500.length co36], .agg #[.int .i64 0, .int .i64 0, .bool false], .int .i64 a4] rfl (by (try simp only [List.map_toArray, List.map_cons, List.map_nil]); first | done | rfl | (simp only [List.length_drop, List.length_take]; rfl)) ?_; (with_reducible refine (pid_Next.calls k1 t491 t492 _ _ t493 t496 t497 t498 t499 _ _ t500 0 0 false a4 t503 t504 t505 t506 _ ?side1 ?side2 ?side3 ?side4 A30.out).mono ?_); (case side1 => repeat (first | exact (Kd.R_reads' HO495.out).2.2 | (with_reducible refine Kd.C_alloc ?_ _) | (with_reducible refine Kd.C_drewN ?_ _) | (with_reducible refine Kd.C_drew ?_))); (case side2 => exact (Kd.R_reads' HO495.out).2.1); (case side3 => repeat (first | exact (Kd.R_reads' HO502.out).2.2 | (with_reducible refine Kd.C_alloc ?_ _) | (with_reducible refine Kd.C_drewN ?_ _) | (with_reducible refine Kd.C_drew ?_))); (case side4 => exact (Kd.R_reads' HO502.out).2.1); rintro e w37 ⟨rfl, hb⟩; refine ⟨_, rfl, ?_⟩; have n0_ := Aside0.mk (Kd.R_below (by (with_reducible repeat (first | apply Kd.R_alloc | apply Kd.R_drewN | apply Kd.R_drew)); exact HO495.out) hb); have n1_ := Aside0.mk (Kd.R_below (by (with_reducible repeat (first | apply Kd.R_alloc | apply Kd.R_drewN | apply Kd.R_drew)); exact HO502.out) hb); have n2_ := Aside0.mk (blk_below (g := gb473) (o := .cells #[.int .i64 x474000_1, .int .i64 x474001_1, .bool x474002_1] 37 (0, 0)) (by (with_reducible repeat (first | refine blk_drewN ?_ _ | refine blk_drew ?_ | refine blk_alloc ?_ _)); exact BK473.out) hb); have n3_ := Aside0.mk (below_step (by repeat (first | (with_reducible first | exact HB.out | apply below_alloc | apply pw_below_drewN | apply below_drew1 | refine below_set ?_ GE473.out) | exact HB.out)) hb); clear HO495; clear HO502; clear BK473; clear HB; have HO495 := n0_; have HO502 := n1_; have BK473 := n2_; have HB := n3_; clear n0_ n1_ n2_ n3_; (try clear hb); (try clear hb2); (try clear hk); (try clear hi)) | ((with_reducible refine gate_dst (N := 19) rfl ?_); refine box_event ?hg (N := 19) ?hd (cs := #[.int .i64 0, .int .i64 0, .bool false]) (t := 37) ?hr ?_; (case hd => rfl); (case hg => rfl); (case hr => first | (go_simp; done) | (go_simp; rfl)); intro gb507 hg w38 hbox hb; have n0_ := Aside0.mk (Kd.R_below (by (with_reducible repeat (first | apply Kd.R_alloc | apply Kd.R_drewN | apply Kd.R_drew)); exact HO495.out) hb); have n1_ := Aside0.mk (Kd.R_below (by (with_reducible repeat (first | apply Kd.R_alloc | apply Kd.R_drewN | apply Kd.R_drew)); exact HO502.out) hb); have n2_ := Aside0.mk (blk_below (g := gb473) (o := .cells #[.int .i64 x474000_1, .int .i64 x474001_1, .bool x474002_1] 37 (0, 0)) (by (with_reducible repeat (first | refine blk_drewN ?_ _ | refine blk_drew ?_ | refine blk_alloc ?_ _)); exact BK473.out) hb); have n3_ := Aside0.mk (below_step (by repeat (first | (with_reducible first | exact HB.out | apply below_alloc | apply pw_below_drewN | apply below_drew1 | refine below_set ?_ GE473.out) | exact HB.out)) hb); have n4_ := Aside0.mk (hbox); have n5_ := Aside0.mk ((by rw [hg]; exact (below_size (by repeat (first | (with_reducible first | exact HB.out | apply below_alloc | apply pw_below_drewN | apply below_drew1 | refine below_set ?_ GE473.out) | exact HB.out))) : w.heap.size ≤ gb507)); have n6_ := Aside0.mk ((by rw [hg]; exact (below_size (by repeat (first | (with_reducible first | exact HB.out | apply below_alloc | apply pw_below_drewN | apply below_drew1 | refine below_set ?_ GE473.out) | exact HB.out))) : w.heap.size ≤ gb507)); have n7_ := Aside0.mk ((by rw [hg]; exact Nat.ne_of_lt (blk_lt (g := gb473) (o := .cells #[.int .i64 x474000_1, .int .i64 x474001_1, .bool x474002_1] 37 (0, 0)) (by (with_reducible repeat (first | refine blk_drewN ?_ _ | refine blk_drew ?_ | refine blk_alloc ?_ _)); exact BK473.out)) : gb473 ≠ gb507)); have n8_ := Aside0.mk ((by rw [hg]; exact Nat.ne_of_gt (blk_lt (g := gb473) (o := .cells #[.int .i64 x474000_1, .int .i64 x474001_1, .bool x474002_1] 37 (0, 0)) (by (with_reducible repeat (first | refine blk_drewN ?_ _ | refine blk_drew ?_ | refine blk_alloc ?_ _)); exact BK473.out)) : gb507 ≠ gb473)); clear HO495; clear HO502; clear BK473; clear HB; have HO495 := n0_; have HO502 := n1_; have BK473 := n2_; have HB := n3_; have BK507 := n4_; have GW507 := n5_; have GE507 := n6_; have NB473_507 := n7_; have NB507_473 := n8_; clear n0_ n1_ n2_ n3_ n4_ n5_ n6_ n7_ n8_; clear hb hbox hg; have hnb39 := NB507_473.out; have hnc39 := NB473_507.out; have hcz40_0 : w38.cell? ⟨gb507, 0, none⟩ = some (.int .i64 0) := (blk_cell BK507.out 0).trans rfl; have hcz40_1 : w38.cell? ⟨gb507, 1, none⟩ = some (.int .i64 0) := (blk_cell BK507.out 1).trans rfl; have hcz40_2 : w38.cell? ⟨gb507, 2, none⟩ = some (.bool false) := (blk_cell BK507.out 2).trans rfl; have hfz40_0 := blk_frozen BK507.out 0; have hfz40_1 := blk_frozen BK507.out 1; have hfz40_2 := blk_frozen BK507.out 2))
          have n0_ : Aside0 (Kd.R k29 29 (((w38.setCell ⟨gb507, 0, none⟩ (.int .i64 t503)).setCell ⟨gb507, 1, none⟩ (.int .i64 t504)).setCell ⟨gb507, 2, none⟩ (.bool t505)) w.heap.size (fun _ => True) (.slice Ao35 t493.length co35) t493) := ⟨by (with_reducible repeat (first | apply Kd.R_alloc | apply Kd.R_drewN | apply Kd.R_drew)); exact Kd.R_mono (Kd.R_far (p := ⟨gb507, 2, none⟩) (Kd.R_far (p := ⟨gb507, 1, none⟩) (Kd.R_far (p := ⟨gb507, 0, none⟩) (Kd.R_types HO495.out BK507.out (by decide)) (fun _ hk => hk.2) (.int .i64 t503)) (fun _ hk => hk.2) (.int .i64 t504)) (fun _ hk => hk.2) (.bool t505)) (fun _ hk => trivial)⟩
          have n1_ : Aside0 (Kd.R k71 71 (((w38.setCell ⟨gb507, 0, none⟩ (.int .i64 t503)).setCell ⟨gb507, 1, none⟩ (.int .i64 t504)).setCell ⟨gb507, 2, none⟩ (.bool t505)) w.heap.size (fun _ => True) (.slice Ao36 t500.length co36) t500) := ⟨by (with_reducible repeat (first | apply Kd.R_alloc | apply Kd.R_drewN | apply Kd.R_drew)); exact Kd.R_mono (Kd.R_far (p := ⟨gb507, 2, none⟩) (Kd.R_far (p := ⟨gb507, 1, none⟩) (Kd.R_far (p := ⟨gb507, 0, none⟩) (Kd.R_types HO502.out BK507.out (by decide)) (fun _ hk => hk.2) (.int .i64 t503)) (fun _ hk => hk.2) (.int .i64 t504)) (fun _ hk => hk.2) (.bool t505)) (fun _ hk => trivial)⟩
          have n2_ : Aside0 ((((w38.setCell ⟨gb507, 0, none⟩ (.int .i64 t503)).setCell ⟨gb507, 1, none⟩ (.int .i64 t504)).setCell ⟨gb507, 2, none⟩ (.bool t505)).heap[gb473]? = some (.cells #[.int .i64 x474000_1, .int .i64 x474001_1, .bool x474002_1] 37 (0, 0))) := ⟨by (with_reducible repeat (first | refine blk_drewN ?_ _ | refine blk_drew ?_ | refine blk_alloc ?_ _)); refine blk_far ?_ NB473_507.out _; (with_reducible repeat (first | refine blk_drewN ?_ _ | refine blk_drew ?_ | refine blk_alloc ?_ _)); refine blk_far ?_ NB473_507.out _; (with_reducible repeat (first | refine blk_drewN ?_ _ | refine blk_drew ?_ | refine blk_alloc ?_ _)); refine blk_far ?_ NB473_507.out _; (with_reducible repeat (first | refine blk_drewN ?_ _ | refine blk_drew ?_ | refine blk_alloc ?_ _)); exact BK473.out⟩
          have n3_ : Aside0 ((((w38.setCell ⟨gb507, 0, none⟩ (.int .i64 t503)).setCell ⟨gb507, 1, none⟩ (.int .i64 t504)).setCell ⟨gb507, 2, none⟩ (.bool t505)).heap[gb507]? = some (.cells #[.int .i64 t503, .int .i64 t504, .bool t505] 37 (0, 0))) := ⟨by (with_reducible repeat (first | refine blk_drewN ?_ _ | refine blk_drew ?_ | refine blk_alloc ?_ _)); refine blk_put (cs := #[.int .i64 t503, .int .i64 t504, .bool false]) ?_ 2 _ rfl; (with_reducible repeat (first | refine blk_drewN ?_ _ | refine blk_drew ?_ | refine blk_alloc ?_ _)); refine blk_put (cs := #[.int .i64 t503, .int .i64 0, .bool false]) ?_ 1 _ rfl; (with_reducible repeat (first | refine blk_drewN ?_ _ | refine blk_drew ?_ | refine blk_alloc ?_ _)); refine blk_put (cs := #[.int .i64 0, .int .i64 0, .bool false]) ?_ 0 _ rfl; (with_reducible repeat (first | refine blk_drewN ?_ _ | refine blk_drew ?_ | refine blk_alloc ?_ _)); exact BK507.out⟩
          have n4_ : Aside0 (Below w.heap.size w (((w38.setCell ⟨gb507, 0, none⟩ (.int .i64 t503)).setCell ⟨gb507, 1, none⟩ (.int .i64 t504)).setCell ⟨gb507, 2, none⟩ (.bool t505))) := ⟨by repeat (first | (with_reducible first | exact HB.out | apply below_alloc | apply pw_below_drewN | apply below_drew1 | refine below_set ?_ GE473.out | refine below_set ?_ GE507.out) | exact HB.out)⟩
          (try clear HO495)
          (try clear HO502)
          (try clear BK473)
          (try clear BK507)
          (try clear HB)
          generalize (((w38.setCell ⟨gb507, 0, none⟩ (.int .i64 t503)).setCell ⟨gb507, 1, none⟩ (.int .i64 t504)).setCell ⟨gb507, 2, none⟩ (.bool t505)) = w41 at n0_ n1_ n2_ n3_ n4_ ⊢
          have HO495 := n0_
          have HO502 := n1_
          have BK473 := n2_
          have BK507 := n3_
          have HB := n4_
          clear n0_ n1_ n2_ n3_ n4_
          have n0_ := Aside0.mk (Kd.R_drew HO495.out)
          have n1_ := Aside0.mk (Kd.R_drew HO502.out)
          have n2_ := Aside0.mk (blk_drew BK473.out)
          have n3_ := Aside0.mk (blk_drew BK507.out)
          have n4_ := Aside0.mk (below_drew1 HB.out)
          clear HO495
          clear HO502
          clear BK473
          clear BK507
          clear HB
          have HO495 := n0_
          have HO502 := n1_
          have BK473 := n2_
          have BK507 := n3_
          have HB := n4_
          clear n0_ n1_ n2_ n3_ n4_
          refine start_ (n := 12) (S := fun w' => w'.cell? ⟨gb507, 0, none⟩ = some (.int .i64 t503) ∧ w'.cell? ⟨gb507, 1, none⟩ = some (.int .i64 t504) ∧ w'.cell? ⟨gb507, 2, none⟩ = some (.bool t505)) (ds := []) #[false, false, false, false, false, false, false, false, false, false, false, false] (by kernel_rfl) rfl rfl ⟨(blk_cell BK507.out 0).trans rfl, (blk_cell BK507.out 1).trans rfl, (blk_cell BK507.out 2).trans rfl⟩ (fun hHeld => ?_); refine with_tabW governorlaw12_PidRests.tab12 governorlaw12_PidRests.bits12 (fun HT_ HW_ => ?_)
          generalize w41.drew = w42 at HO495 HO502 BK473 BK507 HB hHeld ⊢
          refine pure_ (i := 0) (N := some 62) (v := ?_) (a' := ?_) #[true, false, false, false, false, false, false, false, false, false, false, false] rfl rfl (any_of HT_.out (by kernel_rfl)) (fun _ _ _ h => h) (Or.inl ⟨by rfl, ?_⟩) ?_ ?_
          rotate_left
          · intro w'
            go_simp
            with_reducible rfl
          rotate_left
          · simp only [Act.put, List.setIfInBounds_toArray, List.set_cons_zero, List.set_cons_succ, i64_w, i32_w]
            rfl
          refine pure_ (i := 1) (N := some 63) (v := ?_) (a' := ?_) #[true, true, false, false, false, false, false, false, false, false, false, false] rfl rfl (any_of HT_.out (by kernel_rfl)) (fun _ _ _ h => h) (Or.inl ⟨by rfl, ?_⟩) ?_ ?_
          rotate_left
          · intro w'
            go_simp
            with_reducible rfl
          rotate_left
          · simp only [Act.put, List.setIfInBounds_toArray, List.set_cons_zero, List.set_cons_succ, i64_w, i32_w]
            rfl
          refine pure_ (i := 4) (N := some 66) (v := ?_) (a' := ?_) #[true, true, false, false, true, false, false, false, false, false, false, false] rfl rfl (any_of HT_.out (by kernel_rfl)) (fun _ _ _ h => h) (Or.inl ⟨by rfl, ?_⟩) ?_ ?_
          rotate_left
          · intro w'
            go_simp
            with_reducible rfl
          rotate_left
          · simp only [Act.put, List.setIfInBounds_toArray, List.set_cons_zero, List.set_cons_succ, i64_w, i32_w]
            rfl
          refine take_ (i := 3) (N := some 65) (v := ?_) (a' := ?_) #[true, true, false, true, true, false, false, false, false, false, false, false] rfl rfl (take_ofW HT_.out HW_.out (by kernel_rfl)) (fun _ _ _ h => h) (Or.inl ⟨by rfl, ?_⟩) hHeld ?_ ?_
          rotate_left
          · rintro w' ⟨s0, s1, s2⟩
            go_simp
            with_reducible rfl
          rotate_left
          · simp only [Act.put, List.setIfInBounds_toArray, List.set_cons_zero, List.set_cons_succ, i64_w, i32_w]
            rfl
          refine join_ (σ := Value × Value × Nat) 2 #[true, true, true, true, true, true, true, true, true, true, false, false] (fun s_ => [(64, .agg #[.int .i64 t508, .int .i64 t509, s_.1, .int .i64 t513, .int .i64 t514, .int .i64 t515, .int .i64 t516, s_.2.1]), (67, .tuple #[.agg #[.int .i64 t520, .int .i64 t521, .bool t522], .int .i64 t523]), (21, .pointer (some ⟨s_.2.2, 0, none⟩)), (61, .tuple #[.agg #[.int .i64 t520, .int .i64 t521, .bool t522], .int .i64 t523]), (68, .agg #[.int .i64 t520, .int .i64 t521, .bool t522]), (69, .int .i64 t523)]) (fun s_ w' => (w'.cell? ⟨gb507, 0, none⟩ = some (.int .i64 t503) ∧ w'.cell? ⟨gb507, 1, none⟩ = some (.int .i64 t504) ∧ w'.cell? ⟨gb507, 2, none⟩ = some (.bool t505)) ∧ (Kd.R k29 29 w' w.heap.size (fun k_ => some k_ ≠ (s_.1 : Value).ownBlock) (.slice Ao35 t493.length co35) t493) ∧ (Kd.R k71 71 w' w.heap.size (fun k_ => some k_ ≠ (s_.2.1 : Value).ownBlock) (.slice Ao36 t500.length co36) t500) ∧ (Kd.R k29 29 w' w.heap.size (fun k_ => some k_ ≠ (.slice Ao35 t493.length co35 : Value).ownBlock) s_.1 t510) ∧ (Kd.R k71 71 w' w.heap.size (fun k_ => some k_ ≠ (.slice Ao36 t500.length co36 : Value).ownBlock) s_.2.1 t517) ∧ (w'.heap[gb473]? = some (.cells #[.int .i64 x474000_1, .int .i64 x474001_1, .bool x474002_1] 37 (0, 0))) ∧ (w'.heap[gb507]? = some (.cells #[.int .i64 t503, .int .i64 t504, .bool t505] 37 (0, 0))) ∧ (w'.heap[s_.2.2]? = some (.cells #[.int .i64 0, .int .i64 0, .bool false] 37 (0, 0))) ∧ (w.heap.size ≤ s_.2.2) ∧ (w.heap.size ≤ s_.2.2) ∧ (gb473 ≠ s_.2.2) ∧ (s_.2.2 ≠ gb473) ∧ (gb507 ≠ s_.2.2) ∧ (s_.2.2 ≠ gb507) ∧ (Below w.heap.size w w')) ?_ ?_
          rotate_left
          · intro hCont
            refine two_ (i := 2) (j := 9) (Ni := some 64) (Nj := some 21) #[true, true, true, true, true, false, false, false, false, false, false, false] #[true, true, false, true, true, false, false, false, false, true, false, false] rfl rfl rfl rfl (two_of HT_.out (by kernel_rfl)) (by decide) (by decide) (fun K hK => ?_) (fun K hK => ?_)
            · skip
              refine goes_ Try.func23 (by kernel_rfl) rfl #[.int .i64 t472, .int .i64 0, .int .i64 0, .int .i64 a3] (by rfl) rfl rfl (by (try simp only [List.map_toArray, List.map_cons, List.map_nil]); first | done | rfl | (simp only [List.length_drop, List.length_take]; rfl)) ?_
              with_reducible refine (governorlaw12_Of.calls t472 0 0 a3 t508 t509 t510 t513 t514 t515 t516 t517 _ A31.out).mono ?_
              rintro e w43 ⟨v511, v518, rfl, ho0, ho1, hb⟩
              refine ⟨_, rfl, ?_⟩
              have n0_ := Aside0.mk (Kd.R_elder' (by (with_reducible repeat (first | apply Kd.R_alloc | apply Kd.R_drewN | apply Kd.R_drew)); exact HO495.out) (Kd.R_base ho0) hb)
              have n1_ := Aside0.mk (Kd.R_elder' (by (with_reducible repeat (first | apply Kd.R_alloc | apply Kd.R_drewN | apply Kd.R_drew)); exact HO502.out) (Kd.R_base ho1) hb)
              have n2_ := Aside0.mk (Kd.R_lower (Kd.R_new' ho0 (Kd.R_lt (by (with_reducible repeat (first | apply Kd.R_alloc | apply Kd.R_drewN | apply Kd.R_drew)); exact HO495.out))) (below_size (by repeat (first | (with_reducible first | exact HB.out | apply below_alloc | apply pw_below_drewN | apply below_drew1 | refine below_set ?_ GE473.out | refine below_set ?_ GE507.out) | exact HB.out))))
              have n3_ := Aside0.mk (Kd.R_lower (Kd.R_new' ho1 (Kd.R_lt (by (with_reducible repeat (first | apply Kd.R_alloc | apply Kd.R_drewN | apply Kd.R_drew)); exact HO502.out))) (below_size (by repeat (first | (with_reducible first | exact HB.out | apply below_alloc | apply pw_below_drewN | apply below_drew1 | refine below_set ?_ GE473.out | refine below_set ?_ GE507.out) | exact HB.out))))
              have n4_ := Aside0.mk (blk_below (g := gb473) (o := .cells #[.int .i64 x474000_1, .int .i64 x474001_1, .bool x474002_1] 37 (0, 0)) (by (with_reducible repeat (first | refine blk_drewN ?_ _ | refine blk_drew ?_ | refine blk_alloc ?_ _)); exact BK473.out) hb)
              have n5_ := Aside0.mk (blk_below (g := gb507) (o := .cells #[.int .i64 t503, .int .i64 t504, .bool t505] 37 (0, 0)) (by (with_reducible repeat (first | refine blk_drewN ?_ _ | refine blk_drew ?_ | refine blk_alloc ?_ _)); exact BK507.out) hb)
              have n6_ := Aside0.mk (below_step (by repeat (first | (with_reducible first | exact HB.out | apply below_alloc | apply pw_below_drewN | apply below_drew1 | refine below_set ?_ GE473.out | refine below_set ?_ GE507.out) | exact HB.out)) hb)
              clear HO495
              clear HO502
              clear BK473
              clear BK507
              clear HB
              have HO495 := n0_
              have HO502 := n1_
              have HO512 := n2_
              have HO519 := n3_
              have BK473 := n4_
              have BK507 := n5_
              have HB := n6_
              clear n0_ n1_ n2_ n3_ n4_ n5_ n6_
              (try clear hb)
              (try clear hb2)
              (try clear hk)
              (try clear hi)
              (try clear ho0)
              (try clear ho1)
              clear A31
              obtain ⟨Ao44, co44, eo44⟩ := Kd.R_slice HO512.out
              (first | subst eo44 | (injection eo44 with f1_ f2_ f3_; have f4_ := f1_.symm; have f5_ := f3_.symm; clear f1_ f2_ f3_; subst f4_; subst f5_))
              obtain ⟨Ao45, co45, eo45⟩ := Kd.R_slice HO519.out
              (first | subst eo45 | (injection eo45 with f1_ f2_ f3_; have f4_ := f1_.symm; have f5_ := f3_.symm; clear f1_ f2_ f3_; subst f4_; subst f5_))
              refine hK.out _ _ ⟨(blk_cell BK507.out 0).trans rfl, (blk_cell BK507.out 1).trans rfl, (blk_cell BK507.out 2).trans rfl⟩ (fun hHeld => ?_)
              clear hK K
              refine norm_ (a' := ?_) ?_ ?_
              rotate_left
              · show Act.put _ (some 64) _ = _
                simp only [Act.put, List.setIfInBounds_toArray, List.set_cons_zero, List.set_cons_succ, i64_w, i32_w]
                rfl
              refine two_ (i := 5) (j := 9) (Ni := some 67) (Nj := some 21) #[true, true, true, true, true, true, false, false, false, false, false, false] #[true, true, true, true, true, false, false, false, false, true, false, false] rfl rfl rfl rfl (two_of HT_.out (by kernel_rfl)) (by decide) (by decide) (fun K hK => ?_) (fun K hK => ?_)
              · skip
                refine goes_ Try.func22 (by kernel_rfl) rfl #[.agg #[.int .i64 t508, .int .i64 t509, .slice Ao44 t510.length co44, .int .i64 t513, .int .i64 t514, .int .i64 t515, .int .i64 t516, .slice Ao45 t517.length co45], .agg #[.int .i64 t503, .int .i64 t504, .bool t505], .int .i64 a4] (by rfl) rfl rfl (by (try simp only [List.map_toArray, List.map_cons, List.map_nil]); first | done | rfl | (simp only [List.length_drop, List.length_take]; rfl)) ?_
                with_reducible refine (pid_Next.calls k1 t508 t509 _ _ t510 t513 t514 t515 t516 _ _ t517 t503 t504 t505 a4 t520 t521 t522 t523 _ ?side1 ?side2 ?side3 ?side4 A32.out).mono ?_
                (case side1 => repeat (first | exact (Kd.R_reads' HO512.out).2.2 | (with_reducible refine Kd.C_alloc ?_ _) | (with_reducible refine Kd.C_drewN ?_ _) | (with_reducible refine Kd.C_drew ?_)))
                (case side2 => exact (Kd.R_reads' HO512.out).2.1)
                (case side3 => repeat (first | exact (Kd.R_reads' HO519.out).2.2 | (with_reducible refine Kd.C_alloc ?_ _) | (with_reducible refine Kd.C_drewN ?_ _) | (with_reducible refine Kd.C_drew ?_)))
                (case side4 => exact (Kd.R_reads' HO519.out).2.1)
                rintro e w46 ⟨rfl, hb⟩
                refine ⟨_, rfl, ?_⟩
                have n0_ := Aside0.mk (Kd.R_below (by (with_reducible repeat (first | apply Kd.R_alloc | apply Kd.R_drewN | apply Kd.R_drew)); exact HO495.out) hb)
                have n1_ := Aside0.mk (Kd.R_below (by (with_reducible repeat (first | apply Kd.R_alloc | apply Kd.R_drewN | apply Kd.R_drew)); exact HO502.out) hb)
                have n2_ := Aside0.mk (Kd.R_below (by (with_reducible repeat (first | apply Kd.R_alloc | apply Kd.R_drewN | apply Kd.R_drew)); exact HO512.out) hb)
                have n3_ := Aside0.mk (Kd.R_below (by (with_reducible repeat (first | apply Kd.R_alloc | apply Kd.R_drewN | apply Kd.R_drew)); exact HO519.out) hb)
                have n4_ := Aside0.mk (blk_below (g := gb473) (o := .cells #[.int .i64 x474000_1, .int .i64 x474001_1, .bool x474002_1] 37 (0, 0)) (by (with_reducible repeat (first | refine blk_drewN ?_ _ | refine blk_drew ?_ | refine blk_alloc ?_ _)); exact BK473.out) hb)
                have n5_ := Aside0.mk (blk_below (g := gb507) (o := .cells #[.int .i64 t503, .int .i64 t504, .bool t505] 37 (0, 0)) (by (with_reducible repeat (first | refine blk_drewN ?_ _ | refine blk_drew ?_ | refine blk_alloc ?_ _)); exact BK507.out) hb)
                have n6_ := Aside0.mk (below_step (by repeat (first | (with_reducible first | exact HB.out | apply below_alloc | apply pw_below_drewN | apply below_drew1 | refine below_set ?_ GE473.out | refine below_set ?_ GE507.out) | exact HB.out)) hb)
                clear HO495
                clear HO502
                clear HO512
                clear HO519
                clear BK473
                clear BK507
                clear HB
                have HO495 := n0_
                have HO502 := n1_
                have HO512 := n2_
                have HO519 := n3_
                have BK473 := n4_
                have BK507 := n5_
                have HB := n6_
                clear n0_ n1_ n2_ n3_ n4_ n5_ n6_
                (try clear hb)
                (try clear hb2)
                (try clear hk)
                (try clear hi)
                refine hK.out _ _ ⟨(blk_cell BK507.out 0).trans rfl, (blk_cell BK507.out 1).trans rfl, (blk_cell BK507.out 2).trans rfl⟩ (fun hHeld => ?_)
                clear hK K
                refine norm_ (a' := ?_) ?_ ?_
                rotate_left
                · show Act.put _ (some 67) _ = _
                  simp only [Act.put, List.setIfInBounds_toArray, List.set_cons_zero, List.set_cons_succ, i64_w, i32_w]
                  rfl
                refine pure_ (i := 6) (N := some 61) (v := ?_) (a' := ?_) #[true, true, true, true, true, true, true, false, false, false, false, false] rfl rfl (any_of HT_.out (by kernel_rfl)) (fun _ _ _ h => h) (Or.inl ⟨by rfl, ?_⟩) ?_ ?_
                rotate_left
                · intro w'
                  go_simp
                  with_reducible rfl
                rotate_left
                · simp only [Act.put, List.setIfInBounds_toArray, List.set_cons_zero, List.set_cons_succ, i64_w, i32_w]
                  rfl
                refine pure_ (i := 7) (N := some 68) (v := ?_) (a' := ?_) #[true, true, true, true, true, true, true, true, false, false, false, false] rfl rfl (any_of HT_.out (by kernel_rfl)) (fun _ _ _ h => h) (Or.inl ⟨by rfl, ?_⟩) ?_ ?_
                rotate_left
                · intro w'
                  go_simp
                  with_reducible rfl
                rotate_left
                · simp only [Act.put, List.setIfInBounds_toArray, List.set_cons_zero, List.set_cons_succ, i64_w, i32_w]
                  rfl
                refine pure_ (i := 8) (N := some 69) (v := ?_) (a' := ?_) #[true, true, true, true, true, true, true, true, true, false, false, false] rfl rfl (any_of HT_.out (by kernel_rfl)) (fun _ _ _ h => h) (Or.inl ⟨by rfl, ?_⟩) ?_ ?_
                rotate_left
                · intro w'
                  go_simp
                  with_reducible rfl
                rotate_left
                · simp only [Act.put, List.setIfInBounds_toArray, List.set_cons_zero, List.set_cons_succ, i64_w, i32_w]
                  rfl
                refine one_ (i := 9) (N := some 21) #[true, true, true, true, true, true, true, true, true, true, false, false] rfl rfl (one_of HT_.out (by kernel_rfl)) (by decide) (fun K hK => ?_)
                refine box_step ?hg (N := 21) ?hd (cs := #[.int .i64 0, .int .i64 0, .bool false]) (t := 37) ?hr ?_; (case hd => rfl); (case hg => rfl); (case hr => first | (go_simp; done) | (go_simp; rfl))
                intro gb524 hg w47 hbox hb
                have n0_ := Aside0.mk (Kd.R_below (by (with_reducible repeat (first | apply Kd.R_alloc | apply Kd.R_drewN | apply Kd.R_drew)); exact HO495.out) hb)
                have n1_ := Aside0.mk (Kd.R_below (by (with_reducible repeat (first | apply Kd.R_alloc | apply Kd.R_drewN | apply Kd.R_drew)); exact HO502.out) hb)
                have n2_ := Aside0.mk (Kd.R_below (by (with_reducible repeat (first | apply Kd.R_alloc | apply Kd.R_drewN | apply Kd.R_drew)); exact HO512.out) hb)
                have n3_ := Aside0.mk (Kd.R_below (by (with_reducible repeat (first | apply Kd.R_alloc | apply Kd.R_drewN | apply Kd.R_drew)); exact HO519.out) hb)
                have n4_ := Aside0.mk (blk_below (g := gb473) (o := .cells #[.int .i64 x474000_1, .int .i64 x474001_1, .bool x474002_1] 37 (0, 0)) (by (with_reducible repeat (first | refine blk_drewN ?_ _ | refine blk_drew ?_ | refine blk_alloc ?_ _)); exact BK473.out) hb)
                have n5_ := Aside0.mk (blk_below (g := gb507) (o := .cells #[.int .i64 t503, .int .i64 t504, .bool t505] 37 (0, 0)) (by (with_reducible repeat (first | refine blk_drewN ?_ _ | refine blk_drew ?_ | refine blk_alloc ?_ _)); exact BK507.out) hb)
                have n6_ := Aside0.mk (below_step (by repeat (first | (with_reducible first | exact HB.out | apply below_alloc | apply pw_below_drewN | apply below_drew1 | refine below_set ?_ GE473.out | refine below_set ?_ GE507.out) | exact HB.out)) hb)
                have n7_ := Aside0.mk (hbox)
                have n8_ := Aside0.mk ((by rw [hg]; exact (below_size (by repeat (first | (with_reducible first | exact HB.out | apply below_alloc | apply pw_below_drewN | apply below_drew1 | refine below_set ?_ GE473.out | refine below_set ?_ GE507.out) | exact HB.out))) : w.heap.size ≤ gb524))
                have n9_ := Aside0.mk ((by rw [hg]; exact (below_size (by repeat (first | (with_reducible first | exact HB.out | apply below_alloc | apply pw_below_drewN | apply below_drew1 | refine below_set ?_ GE473.out | refine below_set ?_ GE507.out) | exact HB.out))) : w.heap.size ≤ gb524))
                have n10_ := Aside0.mk ((by rw [hg]; exact Nat.ne_of_lt (blk_lt (g := gb473) (o := .cells #[.int .i64 x474000_1, .int .i64 x474001_1, .bool x474002_1] 37 (0, 0)) (by (with_reducible repeat (first | refine blk_drewN ?_ _ | refine blk_drew ?_ | refine blk_alloc ?_ _)); exact BK473.out)) : gb473 ≠ gb524))
                have n11_ := Aside0.mk ((by rw [hg]; exact Nat.ne_of_gt (blk_lt (g := gb473) (o := .cells #[.int .i64 x474000_1, .int .i64 x474001_1, .bool x474002_1] 37 (0, 0)) (by (with_reducible repeat (first | refine blk_drewN ?_ _ | refine blk_drew ?_ | refine blk_alloc ?_ _)); exact BK473.out)) : gb524 ≠ gb473))
                have n12_ := Aside0.mk ((by rw [hg]; exact Nat.ne_of_lt (blk_lt (g := gb507) (o := .cells #[.int .i64 t503, .int .i64 t504, .bool t505] 37 (0, 0)) (by (with_reducible repeat (first | refine blk_drewN ?_ _ | refine blk_drew ?_ | refine blk_alloc ?_ _)); exact BK507.out)) : gb507 ≠ gb524))
                have n13_ := Aside0.mk ((by rw [hg]; exact Nat.ne_of_gt (blk_lt (g := gb507) (o := .cells #[.int .i64 t503, .int .i64 t504, .bool t505] 37 (0, 0)) (by (with_reducible repeat (first | refine blk_drewN ?_ _ | refine blk_drew ?_ | refine blk_alloc ?_ _)); exact BK507.out)) : gb524 ≠ gb507))
                clear HO495
                clear HO502
                clear HO512
                clear HO519
                clear BK473
                clear BK507
                clear HB
                have HO495 := n0_
                have HO502 := n1_
                have HO512 := n2_
                have HO519 := n3_
                have BK473 := n4_
                have BK507 := n5_
                have HB := n6_
                have BK524 := n7_
                have GW524 := n8_
                have GE524 := n9_
                have NB473_524 := n10_
                have NB524_473 := n11_
                have NB507_524 := n12_
                have NB524_507 := n13_
                clear n0_ n1_ n2_ n3_ n4_ n5_ n6_ n7_ n8_ n9_ n10_ n11_ n12_ n13_
                clear hb hbox hg
                refine hK.out _ _ ⟨(blk_cell BK507.out 0).trans rfl, (blk_cell BK507.out 1).trans rfl, (blk_cell BK507.out 2).trans rfl⟩ (fun hHeld => ?_)
                clear hK K
                refine norm_ (a' := ?_) ?_ ?_
                rotate_left
                · show Act.put _ (some 21) _ = _
                  simp only [Act.put, List.setIfInBounds_toArray, List.set_cons_zero, List.set_cons_succ, i64_w, i32_w]
                  rfl
                exact norm_ (by simp only [putAll, Act.put, List.setIfInBounds_toArray, List.set_cons_zero, List.set_cons_succ]) (hCont (.slice Ao44 t510.length co44, .slice Ao45 t517.length co45, gb524) _ ⟨hHeld, (by (with_reducible repeat (first | apply Kd.R_alloc | apply Kd.R_drewN | apply Kd.R_drew)); exact Kd.R_mono HO495.out (fun _ hk => hk.2)), (by (with_reducible repeat (first | apply Kd.R_alloc | apply Kd.R_drewN | apply Kd.R_drew)); exact Kd.R_mono HO502.out (fun _ hk => hk.2)), (by (with_reducible repeat (first | apply Kd.R_alloc | apply Kd.R_drewN | apply Kd.R_drew)); exact Kd.R_mono HO512.out (fun _ hk => hk.2)), (by (with_reducible repeat (first | apply Kd.R_alloc | apply Kd.R_drewN | apply Kd.R_drew)); exact Kd.R_mono HO519.out (fun _ hk => hk.2)), (by (with_reducible repeat (first | refine blk_drewN ?_ _ | refine blk_drew ?_ | refine blk_alloc ?_ _)); exact BK473.out), (by (with_reducible repeat (first | refine blk_drewN ?_ _ | refine blk_drew ?_ | refine blk_alloc ?_ _)); exact BK507.out), (by (with_reducible repeat (first | refine blk_drewN ?_ _ | refine blk_drew ?_ | refine blk_alloc ?_ _)); exact BK524.out), GW524.out, GE524.out, NB473_524.out, NB524_473.out, NB507_524.out, NB524_507.out, (by repeat (first | (with_reducible first | exact HB.out | apply below_alloc | apply pw_below_drewN | apply below_drew1 | refine below_set ?_ GE473.out | refine below_set ?_ GE507.out | refine below_set ?_ GE524.out) | exact HB.out))⟩)
              · skip
                refine box_step ?hg (N := 21) ?hd (cs := #[.int .i64 0, .int .i64 0, .bool false]) (t := 37) ?hr ?_; (case hd => rfl); (case hg => rfl); (case hr => first | (go_simp; done) | (go_simp; rfl))
                intro gb524 hg w44 hbox hb
                have n0_ := Aside0.mk (Kd.R_below (by (with_reducible repeat (first | apply Kd.R_alloc | apply Kd.R_drewN | apply Kd.R_drew)); exact HO495.out) hb)
                have n1_ := Aside0.mk (Kd.R_below (by (with_reducible repeat (first | apply Kd.R_alloc | apply Kd.R_drewN | apply Kd.R_drew)); exact HO502.out) hb)
                have n2_ := Aside0.mk (Kd.R_below (by (with_reducible repeat (first | apply Kd.R_alloc | apply Kd.R_drewN | apply Kd.R_drew)); exact HO512.out) hb)
                have n3_ := Aside0.mk (Kd.R_below (by (with_reducible repeat (first | apply Kd.R_alloc | apply Kd.R_drewN | apply Kd.R_drew)); exact HO519.out) hb)
                have n4_ := Aside0.mk (blk_below (g := gb473) (o := .cells #[.int .i64 x474000_1, .int .i64 x474001_1, .bool x474002_1] 37 (0, 0)) (by (with_reducible repeat (first | refine blk_drewN ?_ _ | refine blk_drew ?_ | refine blk_alloc ?_ _)); exact BK473.out) hb)
                have n5_ := Aside0.mk (blk_below (g := gb507) (o := .cells #[.int .i64 t503, .int .i64 t504, .bool t505] 37 (0, 0)) (by (with_reducible repeat (first | refine blk_drewN ?_ _ | refine blk_drew ?_ | refine blk_alloc ?_ _)); exact BK507.out) hb)
                have n6_ := Aside0.mk (below_step (by repeat (first | (with_reducible first | exact HB.out | apply below_alloc | apply pw_below_drewN | apply below_drew1 | refine below_set ?_ GE473.out | refine below_set ?_ GE507.out) | exact HB.out)) hb)
                have n7_ := Aside0.mk (hbox)
                have n8_ := Aside0.mk ((by rw [hg]; exact (below_size (by repeat (first | (with_reducible first | exact HB.out | apply below_alloc | apply pw_below_drewN | apply below_drew1 | refine below_set ?_ GE473.out | refine below_set ?_ GE507.out) | exact HB.out))) : w.heap.size ≤ gb524))
                have n9_ := Aside0.mk ((by rw [hg]; exact (below_size (by repeat (first | (with_reducible first | exact HB.out | apply below_alloc | apply pw_below_drewN | apply below_drew1 | refine below_set ?_ GE473.out | refine below_set ?_ GE507.out) | exact HB.out))) : w.heap.size ≤ gb524))
                have n10_ := Aside0.mk ((by rw [hg]; exact Nat.ne_of_lt (blk_lt (g := gb473) (o := .cells #[.int .i64 x474000_1, .int .i64 x474001_1, .bool x474002_1] 37 (0, 0)) (by (with_reducible repeat (first | refine blk_drewN ?_ _ | refine blk_drew ?_ | refine blk_alloc ?_ _)); exact BK473.out)) : gb473 ≠ gb524))
                have n11_ := Aside0.mk ((by rw [hg]; exact Nat.ne_of_gt (blk_lt (g := gb473) (o := .cells #[.int .i64 x474000_1, .int .i64 x474001_1, .bool x474002_1] 37 (0, 0)) (by (with_reducible repeat (first | refine blk_drewN ?_ _ | refine blk_drew ?_ | refine blk_alloc ?_ _)); exact BK473.out)) : gb524 ≠ gb473))
                have n12_ := Aside0.mk ((by rw [hg]; exact Nat.ne_of_lt (blk_lt (g := gb507) (o := .cells #[.int .i64 t503, .int .i64 t504, .bool t505] 37 (0, 0)) (by (with_reducible repeat (first | refine blk_drewN ?_ _ | refine blk_drew ?_ | refine blk_alloc ?_ _)); exact BK507.out)) : gb507 ≠ gb524))
                have n13_ := Aside0.mk ((by rw [hg]; exact Nat.ne_of_gt (blk_lt (g := gb507) (o := .cells #[.int .i64 t503, .int .i64 t504, .bool t505] 37 (0, 0)) (by (with_reducible repeat (first | refine blk_drewN ?_ _ | refine blk_drew ?_ | refine blk_alloc ?_ _)); exact BK507.out)) : gb524 ≠ gb507))
                clear HO495
                clear HO502
                clear HO512
                clear HO519
                clear BK473
                clear BK507
                clear HB
                have HO495 := n0_
                have HO502 := n1_
                have HO512 := n2_
                have HO519 := n3_
                have BK473 := n4_
                have BK507 := n5_
                have HB := n6_
                have BK524 := n7_
                have GW524 := n8_
                have GE524 := n9_
                have NB473_524 := n10_
                have NB524_473 := n11_
                have NB507_524 := n12_
                have NB524_507 := n13_
                clear n0_ n1_ n2_ n3_ n4_ n5_ n6_ n7_ n8_ n9_ n10_ n11_ n12_ n13_
                clear hb hbox hg
                obtain ⟨Ao45, co45, eo45⟩ := Kd.R_slice HO512.out
                (first | subst eo45 | (injection eo45 with f1_ f2_ f3_; have f4_ := f1_.symm; have f5_ := f3_.symm; clear f1_ f2_ f3_; subst f4_; subst f5_))
                obtain ⟨Ao46, co46, eo46⟩ := Kd.R_slice HO519.out
                (first | subst eo46 | (injection eo46 with f1_ f2_ f3_; have f4_ := f1_.symm; have f5_ := f3_.symm; clear f1_ f2_ f3_; subst f4_; subst f5_))
                refine hK.out _ _ ⟨(blk_cell BK507.out 0).trans rfl, (blk_cell BK507.out 1).trans rfl, (blk_cell BK507.out 2).trans rfl⟩ (fun hHeld => ?_)
                clear hK K
                refine norm_ (a' := ?_) ?_ ?_
                rotate_left
                · show Act.put _ (some 21) _ = _
                  simp only [Act.put, List.setIfInBounds_toArray, List.set_cons_zero, List.set_cons_succ, i64_w, i32_w]
                  rfl
                refine one_ (i := 5) (N := some 67) #[true, true, true, true, true, true, false, false, false, true, false, false] rfl rfl (one_of HT_.out (by kernel_rfl)) (by decide) (fun K hK => ?_)
                refine goes_ Try.func22 (by kernel_rfl) rfl #[.agg #[.int .i64 t508, .int .i64 t509, .slice Ao45 t510.length co45, .int .i64 t513, .int .i64 t514, .int .i64 t515, .int .i64 t516, .slice Ao46 t517.length co46], .agg #[.int .i64 t503, .int .i64 t504, .bool t505], .int .i64 a4] (by rfl) rfl rfl (by (try simp only [List.map_toArray, List.map_cons, List.map_nil]); first | done | rfl | (simp only [List.length_drop, List.length_take]; rfl)) ?_
                with_reducible refine (pid_Next.calls k1 t508 t509 _ _ t510 t513 t514 t515 t516 _ _ t517 t503 t504 t505 a4 t520 t521 t522 t523 _ ?side1 ?side2 ?side3 ?side4 A32.out).mono ?_
                (case side1 => repeat (first | exact (Kd.R_reads' HO512.out).2.2 | (with_reducible refine Kd.C_alloc ?_ _) | (with_reducible refine Kd.C_drewN ?_ _) | (with_reducible refine Kd.C_drew ?_)))
                (case side2 => exact (Kd.R_reads' HO512.out).2.1)
                (case side3 => repeat (first | exact (Kd.R_reads' HO519.out).2.2 | (with_reducible refine Kd.C_alloc ?_ _) | (with_reducible refine Kd.C_drewN ?_ _) | (with_reducible refine Kd.C_drew ?_)))
                (case side4 => exact (Kd.R_reads' HO519.out).2.1)
                rintro e w47 ⟨rfl, hb⟩
                refine ⟨_, rfl, ?_⟩
                have n0_ := Aside0.mk (Kd.R_below (by (with_reducible repeat (first | apply Kd.R_alloc | apply Kd.R_drewN | apply Kd.R_drew)); exact HO495.out) hb)
                have n1_ := Aside0.mk (Kd.R_below (by (with_reducible repeat (first | apply Kd.R_alloc | apply Kd.R_drewN | apply Kd.R_drew)); exact HO502.out) hb)
                have n2_ := Aside0.mk (Kd.R_below (by (with_reducible repeat (first | apply Kd.R_alloc | apply Kd.R_drewN | apply Kd.R_drew)); exact HO512.out) hb)
                have n3_ := Aside0.mk (Kd.R_below (by (with_reducible repeat (first | apply Kd.R_alloc | apply Kd.R_drewN | apply Kd.R_drew)); exact HO519.out) hb)
                have n4_ := Aside0.mk (blk_below (g := gb473) (o := .cells #[.int .i64 x474000_1, .int .i64 x474001_1, .bool x474002_1] 37 (0, 0)) (by (with_reducible repeat (first | refine blk_drewN ?_ _ | refine blk_drew ?_ | refine blk_alloc ?_ _)); exact BK473.out) hb)
                have n5_ := Aside0.mk (blk_below (g := gb507) (o := .cells #[.int .i64 t503, .int .i64 t504, .bool t505] 37 (0, 0)) (by (with_reducible repeat (first | refine blk_drewN ?_ _ | refine blk_drew ?_ | refine blk_alloc ?_ _)); exact BK507.out) hb)
                have n6_ := Aside0.mk (blk_below (g := gb524) (o := .cells #[.int .i64 0, .int .i64 0, .bool false] 37 (0, 0)) (by (with_reducible repeat (first | refine blk_drewN ?_ _ | refine blk_drew ?_ | refine blk_alloc ?_ _)); exact BK524.out) hb)
                have n7_ := Aside0.mk (below_step (by repeat (first | (with_reducible first | exact HB.out | apply below_alloc | apply pw_below_drewN | apply below_drew1 | refine below_set ?_ GE473.out | refine below_set ?_ GE507.out | refine below_set ?_ GE524.out) | exact HB.out)) hb)
                clear HO495
                clear HO502
                clear HO512
                clear HO519
                clear BK473
                clear BK507
                clear BK524
                clear HB
                have HO495 := n0_
                have HO502 := n1_
                have HO512 := n2_
                have HO519 := n3_
                have BK473 := n4_
                have BK507 := n5_
                have BK524 := n6_
                have HB := n7_
                clear n0_ n1_ n2_ n3_ n4_ n5_ n6_ n7_
                (try clear hb)
                (try clear hb2)
                (try clear hk)
                (try clear hi)
                refine hK.out _ _ ⟨(blk_cell BK507.out 0).trans rfl, (blk_cell BK507.out 1).trans rfl, (blk_cell BK507.out 2).trans rfl⟩ (fun hHeld => ?_)
                clear hK K
                refine norm_ (a' := ?_) ?_ ?_
                rotate_left
                · show Act.put _ (some 67) _ = _
                  simp only [Act.put, List.setIfInBounds_toArray, List.set_cons_zero, List.set_cons_succ, i64_w, i32_w]
                  rfl
                refine pure_ (i := 6) (N := some 61) (v := ?_) (a' := ?_) #[true, true, true, true, true, true, true, false, false, true, false, false] rfl rfl (any_of HT_.out (by kernel_rfl)) (fun _ _ _ h => h) (Or.inl ⟨by rfl, ?_⟩) ?_ ?_
                rotate_left
                · intro w'
                  go_simp
                  with_reducible rfl
                rotate_left
                · simp only [Act.put, List.setIfInBounds_toArray, List.set_cons_zero, List.set_cons_succ, i64_w, i32_w]
                  rfl
                refine pure_ (i := 7) (N := some 68) (v := ?_) (a' := ?_) #[true, true, true, true, true, true, true, true, false, true, false, false] rfl rfl (any_of HT_.out (by kernel_rfl)) (fun _ _ _ h => h) (Or.inl ⟨by rfl, ?_⟩) ?_ ?_
                rotate_left
                · intro w'
                  go_simp
                  with_reducible rfl
                rotate_left
                · simp only [Act.put, List.setIfInBounds_toArray, List.set_cons_zero, List.set_cons_succ, i64_w, i32_w]
                  rfl
                refine pure_ (i := 8) (N := some 69) (v := ?_) (a' := ?_) #[true, true, true, true, true, true, true, true, true, true, false, false] rfl rfl (any_of HT_.out (by kernel_rfl)) (fun _ _ _ h => h) (Or.inl ⟨by rfl, ?_⟩) ?_ ?_
                rotate_left
                · intro w'
                  go_simp
                  with_reducible rfl
                rotate_left
                · simp only [Act.put, List.setIfInBounds_toArray, List.set_cons_zero, List.set_cons_succ, i64_w, i32_w]
                  rfl
                exact norm_ (by simp only [putAll, Act.put, List.setIfInBounds_toArray, List.set_cons_zero, List.set_cons_succ]) (hCont (.slice Ao45 t510.length co45, .slice Ao46 t517.length co46, gb524) _ ⟨hHeld, (by (with_reducible repeat (first | apply Kd.R_alloc | apply Kd.R_drewN | apply Kd.R_drew)); exact Kd.R_mono HO495.out (fun _ hk => hk.2)), (by (with_reducible repeat (first | apply Kd.R_alloc | apply Kd.R_drewN | apply Kd.R_drew)); exact Kd.R_mono HO502.out (fun _ hk => hk.2)), (by (with_reducible repeat (first | apply Kd.R_alloc | apply Kd.R_drewN | apply Kd.R_drew)); exact Kd.R_mono HO512.out (fun _ hk => hk.2)), (by (with_reducible repeat (first | apply Kd.R_alloc | apply Kd.R_drewN | apply Kd.R_drew)); exact Kd.R_mono HO519.out (fun _ hk => hk.2)), (by (with_reducible repeat (first | refine blk_drewN ?_ _ | refine blk_drew ?_ | refine blk_alloc ?_ _)); exact BK473.out), (by (with_reducible repeat (first | refine blk_drewN ?_ _ | refine blk_drew ?_ | refine blk_alloc ?_ _)); exact BK507.out), (by (with_reducible repeat (first | refine blk_drewN ?_ _ | refine blk_drew ?_ | refine blk_alloc ?_ _)); exact BK524.out), GW524.out, GE524.out, NB473_524.out, NB524_473.out, NB507_524.out, NB524_507.out, (by repeat (first | (with_reducible first | exact HB.out | apply below_alloc | apply pw_below_drewN | apply below_drew1 | refine below_set ?_ GE473.out | refine below_set ?_ GE507.out | refine below_set ?_ GE524.out) | exact HB.out))⟩)
            · skip
              refine box_step ?hg (N := 21) ?hd (cs := #[.int .i64 0, .int .i64 0, .bool false]) (t := 37) ?hr ?_; (case hd => rfl); (case hg => rfl); (case hr => first | (go_simp; done) | (go_simp; rfl))
              intro gb524 hg w43 hbox hb
              have n0_ := Aside0.mk (Kd.R_below (by (with_reducible repeat (first | apply Kd.R_alloc | apply Kd.R_drewN | apply Kd.R_drew)); exact HO495.out) hb)
              have n1_ := Aside0.mk (Kd.R_below (by (with_reducible repeat (first | apply Kd.R_alloc | apply Kd.R_drewN | apply Kd.R_drew)); exact HO502.out) hb)
              have n2_ := Aside0.mk (blk_below (g := gb473) (o := .cells #[.int .i64 x474000_1, .int .i64 x474001_1, .bool x474002_1] 37 (0, 0)) (by (with_reducible repeat (first | refine blk_drewN ?_ _ | refine blk_drew ?_ | refine blk_alloc ?_ _)); exact BK473.out) hb)
              have n3_ := Aside0.mk (blk_below (g := gb507) (o := .cells #[.int .i64 t503, .int .i64 t504, .bool t505] 37 (0, 0)) (by (with_reducible repeat (first | refine blk_drewN ?_ _ | refine blk_drew ?_ | refine blk_alloc ?_ _)); exact BK507.out) hb)
              have n4_ := Aside0.mk (below_step (by repeat (first | (with_reducible first | exact HB.out | apply below_alloc | apply pw_below_drewN | apply below_drew1 | refine below_set ?_ GE473.out | refine below_set ?_ GE507.out) | exact HB.out)) hb)
              have n5_ := Aside0.mk (hbox)
              have n6_ := Aside0.mk ((by rw [hg]; exact (below_size (by repeat (first | (with_reducible first | exact HB.out | apply below_alloc | apply pw_below_drewN | apply below_drew1 | refine below_set ?_ GE473.out | refine below_set ?_ GE507.out) | exact HB.out))) : w.heap.size ≤ gb524))
              have n7_ := Aside0.mk ((by rw [hg]; exact (below_size (by repeat (first | (with_reducible first | exact HB.out | apply below_alloc | apply pw_below_drewN | apply below_drew1 | refine below_set ?_ GE473.out | refine below_set ?_ GE507.out) | exact HB.out))) : w.heap.size ≤ gb524))
              have n8_ := Aside0.mk ((by rw [hg]; exact Nat.ne_of_lt (blk_lt (g := gb473) (o := .cells #[.int .i64 x474000_1, .int .i64 x474001_1, .bool x474002_1] 37 (0, 0)) (by (with_reducible repeat (first | refine blk_drewN ?_ _ | refine blk_drew ?_ | refine blk_alloc ?_ _)); exact BK473.out)) : gb473 ≠ gb524))
              have n9_ := Aside0.mk ((by rw [hg]; exact Nat.ne_of_gt (blk_lt (g := gb473) (o := .cells #[.int .i64 x474000_1, .int .i64 x474001_1, .bool x474002_1] 37 (0, 0)) (by (with_reducible repeat (first | refine blk_drewN ?_ _ | refine blk_drew ?_ | refine blk_alloc ?_ _)); exact BK473.out)) : gb524 ≠ gb473))
              have n10_ := Aside0.mk ((by rw [hg]; exact Nat.ne_of_lt (blk_lt (g := gb507) (o := .cells #[.int .i64 t503, .int .i64 t504, .bool t505] 37 (0, 0)) (by (with_reducible repeat (first | refine blk_drewN ?_ _ | refine blk_drew ?_ | refine blk_alloc ?_ _)); exact BK507.out)) : gb507 ≠ gb524))
              have n11_ := Aside0.mk ((by rw [hg]; exact Nat.ne_of_gt (blk_lt (g := gb507) (o := .cells #[.int .i64 t503, .int .i64 t504, .bool t505] 37 (0, 0)) (by (with_reducible repeat (first | refine blk_drewN ?_ _ | refine blk_drew ?_ | refine blk_alloc ?_ _)); exact BK507.out)) : gb524 ≠ gb507))
              clear HO495
              clear HO502
              clear BK473
              clear BK507
              clear HB
              have HO495 := n0_
              have HO502 := n1_
              have BK473 := n2_
              have BK507 := n3_
              have HB := n4_
              have BK524 := n5_
              have GW524 := n6_
              have GE524 := n7_
              have NB473_524 := n8_
              have NB524_473 := n9_
              have NB507_524 := n10_
              have NB524_507 := n11_
              clear n0_ n1_ n2_ n3_ n4_ n5_ n6_ n7_ n8_ n9_ n10_ n11_
              clear hb hbox hg
              refine hK.out _ _ ⟨(blk_cell BK507.out 0).trans rfl, (blk_cell BK507.out 1).trans rfl, (blk_cell BK507.out 2).trans rfl⟩ (fun hHeld => ?_)
              clear hK K
              refine norm_ (a' := ?_) ?_ ?_
              rotate_left
              · show Act.put _ (some 21) _ = _
                simp only [Act.put, List.setIfInBounds_toArray, List.set_cons_zero, List.set_cons_succ, i64_w, i32_w]
                rfl
              refine one_ (i := 2) (N := some 64) #[true, true, true, true, true, false, false, false, false, true, false, false] rfl rfl (one_of HT_.out (by kernel_rfl)) (by decide) (fun K hK => ?_)
              refine goes_ Try.func23 (by kernel_rfl) rfl #[.int .i64 t472, .int .i64 0, .int .i64 0, .int .i64 a3] (by rfl) rfl rfl (by (try simp only [List.map_toArray, List.map_cons, List.map_nil]); first | done | rfl | (simp only [List.length_drop, List.length_take]; rfl)) ?_
              with_reducible refine (governorlaw12_Of.calls t472 0 0 a3 t508 t509 t510 t513 t514 t515 t516 t517 _ A31.out).mono ?_
              rintro e w44 ⟨v511, v518, rfl, ho0, ho1, hb⟩
              refine ⟨_, rfl, ?_⟩
              have n0_ := Aside0.mk (Kd.R_elder' (by (with_reducible repeat (first | apply Kd.R_alloc | apply Kd.R_drewN | apply Kd.R_drew)); exact HO495.out) (Kd.R_base ho0) hb)
              have n1_ := Aside0.mk (Kd.R_elder' (by (with_reducible repeat (first | apply Kd.R_alloc | apply Kd.R_drewN | apply Kd.R_drew)); exact HO502.out) (Kd.R_base ho1) hb)
              have n2_ := Aside0.mk (Kd.R_lower (Kd.R_new' ho0 (Kd.R_lt (by (with_reducible repeat (first | apply Kd.R_alloc | apply Kd.R_drewN | apply Kd.R_drew)); exact HO495.out))) (below_size (by repeat (first | (with_reducible first | exact HB.out | apply below_alloc | apply pw_below_drewN | apply below_drew1 | refine below_set ?_ GE473.out | refine below_set ?_ GE507.out | refine below_set ?_ GE524.out) | exact HB.out))))
              have n3_ := Aside0.mk (Kd.R_lower (Kd.R_new' ho1 (Kd.R_lt (by (with_reducible repeat (first | apply Kd.R_alloc | apply Kd.R_drewN | apply Kd.R_drew)); exact HO502.out))) (below_size (by repeat (first | (with_reducible first | exact HB.out | apply below_alloc | apply pw_below_drewN | apply below_drew1 | refine below_set ?_ GE473.out | refine below_set ?_ GE507.out | refine below_set ?_ GE524.out) | exact HB.out))))
              have n4_ := Aside0.mk (blk_below (g := gb473) (o := .cells #[.int .i64 x474000_1, .int .i64 x474001_1, .bool x474002_1] 37 (0, 0)) (by (with_reducible repeat (first | refine blk_drewN ?_ _ | refine blk_drew ?_ | refine blk_alloc ?_ _)); exact BK473.out) hb)
              have n5_ := Aside0.mk (blk_below (g := gb507) (o := .cells #[.int .i64 t503, .int .i64 t504, .bool t505] 37 (0, 0)) (by (with_reducible repeat (first | refine blk_drewN ?_ _ | refine blk_drew ?_ | refine blk_alloc ?_ _)); exact BK507.out) hb)
              have n6_ := Aside0.mk (blk_below (g := gb524) (o := .cells #[.int .i64 0, .int .i64 0, .bool false] 37 (0, 0)) (by (with_reducible repeat (first | refine blk_drewN ?_ _ | refine blk_drew ?_ | refine blk_alloc ?_ _)); exact BK524.out) hb)
              have n7_ := Aside0.mk (below_step (by repeat (first | (with_reducible first | exact HB.out | apply below_alloc | apply pw_below_drewN | apply below_drew1 | refine below_set ?_ GE473.out | refine below_set ?_ GE507.out | refine below_set ?_ GE524.out) | exact HB.out)) hb)
              clear HO495
              clear HO502
              clear BK473
              clear BK507
              clear BK524
              clear HB
              have HO495 := n0_
              have HO502 := n1_
              have HO512 := n2_
              have HO519 := n3_
              have BK473 := n4_
              have BK507 := n5_
              have BK524 := n6_
              have HB := n7_
              clear n0_ n1_ n2_ n3_ n4_ n5_ n6_ n7_
              (try clear hb)
              (try clear hb2)
              (try clear hk)
              (try clear hi)
              (try clear ho0)
              (try clear ho1)
              clear A31
              obtain ⟨Ao45, co45, eo45⟩ := Kd.R_slice HO512.out
              (first | subst eo45 | (injection eo45 with f1_ f2_ f3_; have f4_ := f1_.symm; have f5_ := f3_.symm; clear f1_ f2_ f3_; subst f4_; subst f5_))
              obtain ⟨Ao46, co46, eo46⟩ := Kd.R_slice HO519.out
              (first | subst eo46 | (injection eo46 with f1_ f2_ f3_; have f4_ := f1_.symm; have f5_ := f3_.symm; clear f1_ f2_ f3_; subst f4_; subst f5_))
              refine hK.out _ _ ⟨(blk_cell BK507.out 0).trans rfl, (blk_cell BK507.out 1).trans rfl, (blk_cell BK507.out 2).trans rfl⟩ (fun hHeld => ?_)
              clear hK K
              refine norm_ (a' := ?_) ?_ ?_
              rotate_left
              · show Act.put _ (some 64) _ = _
                simp only [Act.put, List.setIfInBounds_toArray, List.set_cons_zero, List.set_cons_succ, i64_w, i32_w]
                rfl
              refine one_ (i := 5) (N := some 67) #[true, true, true, true, true, true, false, false, false, true, false, false] rfl rfl (one_of HT_.out (by kernel_rfl)) (by decide) (fun K hK => ?_)
              refine goes_ Try.func22 (by kernel_rfl) rfl #[.agg #[.int .i64 t508, .int .i64 t509, .slice Ao45 t510.length co45, .int .i64 t513, .int .i64 t514, .int .i64 t515, .int .i64 t516, .slice Ao46 t517.length co46], .agg #[.int .i64 t503, .int .i64 t504, .bool t505], .int .i64 a4] (by rfl) rfl rfl (by (try simp only [List.map_toArray, List.map_cons, List.map_nil]); first | done | rfl | (simp only [List.length_drop, List.length_take]; rfl)) ?_
              with_reducible refine (pid_Next.calls k1 t508 t509 _ _ t510 t513 t514 t515 t516 _ _ t517 t503 t504 t505 a4 t520 t521 t522 t523 _ ?side1 ?side2 ?side3 ?side4 A32.out).mono ?_
              (case side1 => repeat (first | exact (Kd.R_reads' HO512.out).2.2 | (with_reducible refine Kd.C_alloc ?_ _) | (with_reducible refine Kd.C_drewN ?_ _) | (with_reducible refine Kd.C_drew ?_)))
              (case side2 => exact (Kd.R_reads' HO512.out).2.1)
              (case side3 => repeat (first | exact (Kd.R_reads' HO519.out).2.2 | (with_reducible refine Kd.C_alloc ?_ _) | (with_reducible refine Kd.C_drewN ?_ _) | (with_reducible refine Kd.C_drew ?_)))
              (case side4 => exact (Kd.R_reads' HO519.out).2.1)
              rintro e w47 ⟨rfl, hb⟩
              refine ⟨_, rfl, ?_⟩
              have n0_ := Aside0.mk (Kd.R_below (by (with_reducible repeat (first | apply Kd.R_alloc | apply Kd.R_drewN | apply Kd.R_drew)); exact HO495.out) hb)
              have n1_ := Aside0.mk (Kd.R_below (by (with_reducible repeat (first | apply Kd.R_alloc | apply Kd.R_drewN | apply Kd.R_drew)); exact HO502.out) hb)
              have n2_ := Aside0.mk (Kd.R_below (by (with_reducible repeat (first | apply Kd.R_alloc | apply Kd.R_drewN | apply Kd.R_drew)); exact HO512.out) hb)
              have n3_ := Aside0.mk (Kd.R_below (by (with_reducible repeat (first | apply Kd.R_alloc | apply Kd.R_drewN | apply Kd.R_drew)); exact HO519.out) hb)
              have n4_ := Aside0.mk (blk_below (g := gb473) (o := .cells #[.int .i64 x474000_1, .int .i64 x474001_1, .bool x474002_1] 37 (0, 0)) (by (with_reducible repeat (first | refine blk_drewN ?_ _ | refine blk_drew ?_ | refine blk_alloc ?_ _)); exact BK473.out) hb)
              have n5_ := Aside0.mk (blk_below (g := gb507) (o := .cells #[.int .i64 t503, .int .i64 t504, .bool t505] 37 (0, 0)) (by (with_reducible repeat (first | refine blk_drewN ?_ _ | refine blk_drew ?_ | refine blk_alloc ?_ _)); exact BK507.out) hb)
              have n6_ := Aside0.mk (blk_below (g := gb524) (o := .cells #[.int .i64 0, .int .i64 0, .bool false] 37 (0, 0)) (by (with_reducible repeat (first | refine blk_drewN ?_ _ | refine blk_drew ?_ | refine blk_alloc ?_ _)); exact BK524.out) hb)
              have n7_ := Aside0.mk (below_step (by repeat (first | (with_reducible first | exact HB.out | apply below_alloc | apply pw_below_drewN | apply below_drew1 | refine below_set ?_ GE473.out | refine below_set ?_ GE507.out | refine below_set ?_ GE524.out) | exact HB.out)) hb)
              clear HO495
              clear HO502
              clear HO512
              clear HO519
              clear BK473
              clear BK507
              clear BK524
              clear HB
              have HO495 := n0_
              have HO502 := n1_
              have HO512 := n2_
              have HO519 := n3_
              have BK473 := n4_
              have BK507 := n5_
              have BK524 := n6_
              have HB := n7_
              clear n0_ n1_ n2_ n3_ n4_ n5_ n6_ n7_
              (try clear hb)
              (try clear hb2)
              (try clear hk)
              (try clear hi)
              refine hK.out _ _ ⟨(blk_cell BK507.out 0).trans rfl, (blk_cell BK507.out 1).trans rfl, (blk_cell BK507.out 2).trans rfl⟩ (fun hHeld => ?_)
              clear hK K
              refine norm_ (a' := ?_) ?_ ?_
              rotate_left
              · show Act.put _ (some 67) _ = _
                simp only [Act.put, List.setIfInBounds_toArray, List.set_cons_zero, List.set_cons_succ, i64_w, i32_w]
                rfl
              refine pure_ (i := 6) (N := some 61) (v := ?_) (a' := ?_) #[true, true, true, true, true, true, true, false, false, true, false, false] rfl rfl (any_of HT_.out (by kernel_rfl)) (fun _ _ _ h => h) (Or.inl ⟨by rfl, ?_⟩) ?_ ?_
              rotate_left
              · intro w'
                go_simp
                with_reducible rfl
              rotate_left
              · simp only [Act.put, List.setIfInBounds_toArray, List.set_cons_zero, List.set_cons_succ, i64_w, i32_w]
                rfl
              refine pure_ (i := 7) (N := some 68) (v := ?_) (a' := ?_) #[true, true, true, true, true, true, true, true, false, true, false, false] rfl rfl (any_of HT_.out (by kernel_rfl)) (fun _ _ _ h => h) (Or.inl ⟨by rfl, ?_⟩) ?_ ?_
              rotate_left
              · intro w'
                go_simp
                with_reducible rfl
              rotate_left
              · simp only [Act.put, List.setIfInBounds_toArray, List.set_cons_zero, List.set_cons_succ, i64_w, i32_w]
                rfl
              refine pure_ (i := 8) (N := some 69) (v := ?_) (a' := ?_) #[true, true, true, true, true, true, true, true, true, true, false, false] rfl rfl (any_of HT_.out (by kernel_rfl)) (fun _ _ _ h => h) (Or.inl ⟨by rfl, ?_⟩) ?_ ?_
              rotate_left
              · intro w'
                go_simp
                with_reducible rfl
              rotate_left
              · simp only [Act.put, List.setIfInBounds_toArray, List.set_cons_zero, List.set_cons_succ, i64_w, i32_w]
                rfl
              exact norm_ (by simp only [putAll, Act.put, List.setIfInBounds_toArray, List.set_cons_zero, List.set_cons_succ]) (hCont (.slice Ao45 t510.length co45, .slice Ao46 t517.length co46, gb524) _ ⟨hHeld, (by (with_reducible repeat (first | apply Kd.R_alloc | apply Kd.R_drewN | apply Kd.R_drew)); exact Kd.R_mono HO495.out (fun _ hk => hk.2)), (by (with_reducible repeat (first | apply Kd.R_alloc | apply Kd.R_drewN | apply Kd.R_drew)); exact Kd.R_mono HO502.out (fun _ hk => hk.2)), (by (with_reducible repeat (first | apply Kd.R_alloc | apply Kd.R_drewN | apply Kd.R_drew)); exact Kd.R_mono HO512.out (fun _ hk => hk.2)), (by (with_reducible repeat (first | apply Kd.R_alloc | apply Kd.R_drewN | apply Kd.R_drew)); exact Kd.R_mono HO519.out (fun _ hk => hk.2)), (by (with_reducible repeat (first | refine blk_drewN ?_ _ | refine blk_drew ?_ | refine blk_alloc ?_ _)); exact BK473.out), (by (with_reducible repeat (first | refine blk_drewN ?_ _ | refine blk_drew ?_ | refine blk_alloc ?_ _)); exact BK507.out), (by (with_reducible repeat (first | refine blk_drewN ?_ _ | refine blk_drew ?_ | refine blk_alloc ?_ _)); exact BK524.out), GW524.out, GE524.out, NB473_524.out, NB524_473.out, NB507_524.out, NB524_507.out, (by repeat (first | (with_reducible first | exact HB.out | apply below_alloc | apply pw_below_drewN | apply below_drew1 | refine below_set ?_ GE473.out | refine below_set ?_ GE507.out | refine below_set ?_ GE524.out) | exact HB.out))⟩)
          rintro ⟨v511, v518, gb524⟩ w48 ⟨hS_, h0_, h1_, h2_, h3_, h4_, h5_, h6_, h7_, h8_, h9_, h10_, h11_, h12_, h13_⟩
          have n0_ : Aside0 (Kd.R k29 29 w48 w.heap.size (fun k_ => some k_ ≠ (v511 : Value).ownBlock) (.slice Ao35 t493.length co35) t493) := ⟨h0_⟩
          have n1_ : Aside0 (Kd.R k71 71 w48 w.heap.size (fun k_ => some k_ ≠ (v518 : Value).ownBlock) (.slice Ao36 t500.length co36) t500) := ⟨h1_⟩
          have n2_ : Aside0 (Kd.R k29 29 w48 w.heap.size (fun k_ => some k_ ≠ (.slice Ao35 t493.length co35 : Value).ownBlock) v511 t510) := ⟨h2_⟩
          have n3_ : Aside0 (Kd.R k71 71 w48 w.heap.size (fun k_ => some k_ ≠ (.slice Ao36 t500.length co36 : Value).ownBlock) v518 t517) := ⟨h3_⟩
          have n4_ : Aside0 (w48.heap[gb473]? = some (.cells #[.int .i64 x474000_1, .int .i64 x474001_1, .bool x474002_1] 37 (0, 0))) := ⟨h4_⟩
          have n5_ : Aside0 (w48.heap[gb507]? = some (.cells #[.int .i64 t503, .int .i64 t504, .bool t505] 37 (0, 0))) := ⟨h5_⟩
          have n6_ : Aside0 (w48.heap[gb524]? = some (.cells #[.int .i64 0, .int .i64 0, .bool false] 37 (0, 0))) := ⟨h6_⟩
          have n7_ : Aside0 (w.heap.size ≤ gb524) := ⟨h7_⟩
          have n8_ : Aside0 (w.heap.size ≤ gb524) := ⟨h8_⟩
          have n9_ : Aside0 (gb473 ≠ gb524) := ⟨h9_⟩
          have n10_ : Aside0 (gb524 ≠ gb473) := ⟨h10_⟩
          have n11_ : Aside0 (gb507 ≠ gb524) := ⟨h11_⟩
          have n12_ : Aside0 (gb524 ≠ gb507) := ⟨h12_⟩
          have n13_ : Aside0 (Below w.heap.size w w48) := ⟨h13_⟩
          clear HO495
          clear HO502
          clear BK473
          clear BK507
          clear HB
          clear h0_ h1_ h2_ h3_ h4_ h5_ h6_ h7_ h8_ h9_ h10_ h11_ h12_ h13_
          have HO495 := n0_
          have HO502 := n1_
          have HO512 := n2_
          have HO519 := n3_
          have BK473 := n4_
          have BK507 := n5_
          have BK524 := n6_
          have GW524 := n7_
          have GE524 := n8_
          have NB473_524 := n9_
          have NB524_473 := n10_
          have NB507_524 := n11_
          have NB524_507 := n12_
          have HB := n13_
          clear n0_ n1_ n2_ n3_ n4_ n5_ n6_ n7_ n8_ n9_ n10_ n11_ n12_ n13_
          have hHeld : w48.cell? ⟨gb507, 0, none⟩ = some (.int .i64 t503) ∧ w48.cell? ⟨gb507, 1, none⟩ = some (.int .i64 t504) ∧ w48.cell? ⟨gb507, 2, none⟩ = some (.bool t505) := hS_
          refine norm_ (a' := ?_) ?_ ?_
          rotate_left
          · simp only [putAll, Act.put, List.setIfInBounds_toArray, List.set_cons_zero, List.set_cons_succ]
            rfl
          refine one_ (i := 10) (N := none) #[true, true, true, true, true, true, true, true, true, true, true, false] rfl rfl (one_of HT_.out (by kernel_rfl)) (by decide) (fun K hK => ?_)
          have hs49 : w48.cell? ⟨gb524, 0, none⟩ = some (.int .i64 0) := (blk_cell BK524.out 0).trans rfl
          have hfs49 := blk_frozen BK524.out 0
          have hns49_0 := NB473_524.out
          have hns49_1 := NB507_524.out
          have hms49_0 := NB524_473.out
          have hms49_1 := NB524_507.out
          have hs50 : w48.cell? ⟨gb524, 1, none⟩ = some (.int .i64 0) := (blk_cell BK524.out 1).trans rfl
          have hfs50 := blk_frozen BK524.out 1
          have hns50_0 := NB473_524.out
          have hns50_1 := NB507_524.out
          have hms50_0 := NB524_473.out
          have hms50_1 := NB524_507.out
          have hs51 : w48.cell? ⟨gb524, 2, none⟩ = some (.bool false) := (blk_cell BK524.out 2).trans rfl
          have hfs51 := blk_frozen BK524.out 2
          have hns51_0 := NB473_524.out
          have hns51_1 := NB507_524.out
          have hms51_0 := NB524_473.out
          have hms51_1 := NB524_507.out
          refine skip_ (w1 := ?_) (by rfl) rfl ?_ ?_
          rotate_left
          · go_simp
            rfl
          refine hK.out _ _ ⟨((cell_far (p := ⟨gb524, _, none⟩) NB507_524.out _).trans (((cell_far (p := ⟨gb524, _, none⟩) NB507_524.out _).trans (((cell_far (p := ⟨gb524, _, none⟩) NB507_524.out _).trans (hHeld.1)))))), ((cell_far (p := ⟨gb524, _, none⟩) NB507_524.out _).trans (((cell_far (p := ⟨gb524, _, none⟩) NB507_524.out _).trans (((cell_far (p := ⟨gb524, _, none⟩) NB507_524.out _).trans (hHeld.2.1)))))), ((cell_far (p := ⟨gb524, _, none⟩) NB507_524.out _).trans (((cell_far (p := ⟨gb524, _, none⟩) NB507_524.out _).trans (((cell_far (p := ⟨gb524, _, none⟩) NB507_524.out _).trans (hHeld.2.2))))))⟩ (fun hHeld => ?_)
          clear hK K
          refine pure_ (i := 11) (N := some 22) (v := ?_) (a' := ?_) #[true, true, true, true, true, true, true, true, true, true, true, true] rfl rfl (any_of HT_.out (by kernel_rfl)) (fun _ _ _ h => h) (Or.inl ⟨by rfl, ?_⟩) ?_ ?_
          rotate_left
          · intro w'
            go_simp
            with_reducible rfl
          rotate_left
          · simp only [Act.put, List.setIfInBounds_toArray, List.set_cons_zero, List.set_cons_succ, i64_w, i32_w]
            rfl
          refine done_ (done_of HT_.out (by kernel_rfl)) ?_
          try go_wp2
          go_ret
          exact ⟨by first | rfl | (simp [errW_none, errW_some] <;> rfl) | (simp [*, errW_none, errW_some] <;> rfl), by repeat (first | (with_reducible first | exact HB.out | apply below_alloc | apply pw_below_drewN | apply below_drew1 | refine below_set ?_ GE473.out | refine below_set ?_ GE507.out | refine below_set ?_ GE524.out) | exact HB.out)⟩
        · replace c33 := Bool.eq_false_iff.mpr c33
          subst c33
          have H1 : (some false) = some r := by rw [if_neg (show ¬ (false = true) by decide)] at H; exact H
          clear H
          have H := H1
          clear H1
          exact absurd (Option.some.inj H) (by rw [HRT.out]; decide)

end Go.Proofs.Ytjmmofedcadoiaa.PAll
