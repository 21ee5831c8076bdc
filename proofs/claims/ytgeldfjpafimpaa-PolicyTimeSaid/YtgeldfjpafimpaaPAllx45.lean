-- laid by a program of this session (tprint.py) out of the translation and of texts typed by hand; Lean checks it
import Derived.Test.YtgeldfjpafimpaaPAllx0
namespace Go.Proofs.Ytgeldfjpafimpaa.PAll
open Go.RowKit Go.Proofs.YtgeldfjpafimpaaW.PrintWords Go.Proofs.YtgeldfjpafimpaaW.PrintLast Go.Proofs.YtgeldfjpafimpaaW.PrintMore
attribute [local go_sem] max2_int min2_int max_two min_two max_three min_three max_four min_four   -- for this text's walks alone
set_option linter.unusedVariables false
set_option linter.unusedSimpArgs false

/-! ### governorref11_Find: function 52 -/
def governorref11_Find.l0 : Nat → List (S83) → Int → Int → Int → Option (Int)
  | 0, _, _, _, _ => none
  | k + 1, x0, x1, x5, x6 => if x6 < (x0.length : Int) then (if 0 ≤ x6 then (if ((rd_T83 x0 x6).f0) ≤ x1 then (governorref11_Find.l0 k x0 x1 x6 (wrap64 (x6 + 1))) else (governorref11_Find.l0 k x0 x1 x5 (wrap64 (x6 + 1)))) else (none)) else (some x5)
def governorref11_Find.f (k : Nat) (l0 : List (S83)) (a1 : Int) : Option (Int) := governorref11_Find.l0 k l0 a1 (-1) 0
theorem governorref11_Find.mono_l : ∀ k, (∀ y0 y1 y2 y3, LeO (governorref11_Find.l0 k y0 y1 y2 y3) (governorref11_Find.l0 (k + 1) y0 y1 y2 y3))
  | 0 => fun _ _ _ _ r h => by simp [governorref11_Find.l0] at h
  | k + 1 => by
    have ih0 := governorref11_Find.mono_l k
    · intro y0 y1 y2 y3
      unfold governorref11_Find.l0
      repeat' first
      | (with_reducible exact ih0 _ _ _ _)
      | (with_reducible exact LeO.refl _)
      | (with_reducible exact LeO.none _)
      | (with_reducible refine LeO.ite ?_ ?_)
      | (with_reducible refine LeO.bind ?_ (fun _ => ?_))
      | exact ih0 _ _ _ _
      | exact LeO.none _
      | refine LeO.ite ?_ ?_
      | refine LeO.bind ?_ (fun _ => ?_)
theorem governorref11_Find.mono : ∀ a0 a1 k, LeO (governorref11_Find.f k a0 a1) (governorref11_Find.f (k + 1) a0 a1) := by
  intro a0 a1 k
  have ih0 := governorref11_Find.mono_l k
  unfold governorref11_Find.f
  repeat' first
      | (with_reducible exact ih0 _ _ _ _)
      | (with_reducible exact LeO.refl _)
      | (with_reducible exact LeO.none _)
      | (with_reducible refine LeO.ite ?_ ?_)
      | (with_reducible refine LeO.bind ?_ (fun _ => ?_))
      | exact ih0 _ _ _ _
      | exact LeO.none _
      | refine LeO.ite ?_ ?_
      | refine LeO.bind ?_ (fun _ => ?_)
set_option maxHeartbeats 8000000 in
set_option maxRecDepth 100000 in
theorem governorref11_Find.calls (k : Nat) (A0 : Option Addr) (c0 : Nat) (l0 : List (S83)) (a1 : Int) (r : Int) (w : World) (hr0 : Kd.C k83 w A0 l0.length l0) (hc0 : l0.length ≤ c0) (h : governorref11_Find.f k l0 a1 = some r) :
    Calls Try.prog 52 #[.slice A0 l0.length c0, .int .i64 a1] w fun e w' => e = .returned (.int .i64 r) ∧ Drawn0 w w' := by
  have HR0 := Aside0.mk hr0
  have HC0 := Aside0.mk hc0
  clear hr0 hc0
  have H : (governorref11_Find.l0 k l0 a1 (-1) 0) = some r := h
  clear h
  have H' := Aside0.mk H
  clear H
  go_enter Try.func52, Try.ntmps52
  go_wp2
  go_loopg [5, 6] k (fun kq v5 v6 w' => ∃ (x5_1 : Int) (x6_1 : Int), v5 = .int .i64 x5_1 ∧ v6 = .int .i64 x6_1 ∧ Aside0 (governorref11_Find.l0 kq l0 a1 x5_1 x6_1 = some r) ∧ Aside0 (kq ≤ k) ∧ Drawn0 w w')
  case atStart => exact ⟨((-1)), (0), (by first | rfl | (simp; done) | (simp [*]; done)), (by first | rfl | (simp; done) | (simp [*]; done)), H', ⟨Nat.le_refl _⟩, by repeat (first | exact Drawn0.refl _ | apply Drawn0.step)⟩
  case round =>
    clear H'
    try clear p2
    obtain ⟨x5_1, x6_1, rfl, rfl, HA, HK1, ⟨m1, rfl⟩⟩ := hrel
    cases gk with
    | zero => exact absurd HA.out (by simp [governorref11_Find.l0])
    | succ k1 =>
      have H := HA.out
      clear HA
      simp only [governorref11_Find.l0] at H
      by_cases c3 : x6_1 < (l0.length : Int)
      · rw [if_pos c3] at H
        have c3b0 : decide (x6_1 < (l0.length : Int)) = true := decide_eq_true c3
        clear c3
        by_cases c4 : 0 ≤ x6_1
        · rw [if_pos c4] at H
          have c4b0 : decide (0 ≤ x6_1) = true := decide_eq_true c4
          clear c4
          by_cases c5 : ((rd_T83 l0 x6_1).f0) ≤ a1
          · rw [if_pos c5] at H
            have c5b0 : decide (((rd_T83 l0 x6_1).f0) ≤ a1) = true := decide_eq_true c5
            clear c5
            have H' := Aside0.mk H
            clear H
            have p321 : 0 ≤ (x6_1 : Int) := of_decide_eq_true (by first | (with_reducible assumption) | assumption)
            have q321 : x6_1 < (l0.length : Int) := of_decide_eq_true (by first | (with_reducible assumption) | assumption)
            obtain ⟨ad321, e321, hx321_0, hx321_1⟩ := at_T83 HR0.out x6_1 p321 q321
            cases e321
            replace p321 := eq_true p321
            replace q321 := eq_true q321
            go_wp2
            go_roundg k1
            case measure => have := HK1.out; omega
            case rel => exact ⟨(x6_1), (wrap64 (x6_1 + 1)), (by first | rfl | (simp; done) | (simp [*]; done)), (by first | rfl | (simp; done) | (simp [*]; done)), H', ⟨by have := HK1.out; omega⟩, by repeat (first | exact Drawn0.refl _ | apply Drawn0.step)⟩
          · rw [if_neg c5] at H
            have c5b0 : decide (((rd_T83 l0 x6_1).f0) ≤ a1) = false := decide_eq_false c5
            clear c5
            have H' := Aside0.mk H
            clear H
            have p321 : 0 ≤ (x6_1 : Int) := of_decide_eq_true (by first | (with_reducible assumption) | assumption)
            have q321 : x6_1 < (l0.length : Int) := of_decide_eq_true (by first | (with_reducible assumption) | assumption)
            obtain ⟨ad321, e321, hx321_0, hx321_1⟩ := at_T83 HR0.out x6_1 p321 q321
            cases e321
            replace p321 := eq_true p321
            replace q321 := eq_true q321
            go_wp2
            go_roundg k1
            case measure => have := HK1.out; omega
            case rel => exact ⟨(x5_1), (wrap64 (x6_1 + 1)), (by first | rfl | (simp; done) | (simp [*]; done)), (by first | rfl | (simp; done) | (simp [*]; done)), H', ⟨by have := HK1.out; omega⟩, by repeat (first | exact Drawn0.refl _ | apply Drawn0.step)⟩
        · rw [if_neg c4] at H
          exact absurd H (by simp)
      · rw [if_neg c3] at H
        have c3b0 : decide (x6_1 < (l0.length : Int)) = false := decide_eq_false c3
        clear c3
        obtain rfl := Option.some.inj H
        go_wp2
        go_ret
        exact ⟨by first | rfl | (simp; done) | (simp [*]; done), by repeat (first | exact Drawn0.refl _ | apply Drawn0.step)⟩

/-! ### governorref11_Want: function 32 -/
def governorref11_Want.f (k : Nat) (l0 : List (S83)) (a1 : Int) (a2 : Int) : Option (Int) := (governorref11_Find.f k l0 a2).bind fun t322 => (if t322 ≥ 0 then (if 0 ≤ t322 then (if t322 < (l0.length : Int) then (some (mn (mx (wrap64 ((mn (mx a1 0) 1000) + ((rd_T83 l0 t322).f1))) 0) 1000)) else (none)) else (none)) else (some (mn (mx (mn (mx a1 0) 1000) 0) 1000)))
theorem governorref11_Want.mono : ∀ a0 a1 a2 k, LeO (governorref11_Want.f k a0 a1 a2) (governorref11_Want.f (k + 1) a0 a1 a2) := by
  intro a0 a1 a2 k
  unfold governorref11_Want.f
  repeat' first
      | (with_reducible exact governorref11_Find.mono _ _ _)
      | (with_reducible exact LeO.refl _)
      | (with_reducible exact LeO.none _)
      | (with_reducible refine LeO.ite ?_ ?_)
      | (with_reducible refine LeO.bind ?_ (fun _ => ?_))
      | exact governorref11_Find.mono _ _ _
      | exact LeO.none _
      | refine LeO.ite ?_ ?_
      | refine LeO.bind ?_ (fun _ => ?_)
set_option maxHeartbeats 8000000 in
set_option maxRecDepth 100000 in
theorem governorref11_Want.calls (k : Nat) (A0 : Option Addr) (c0 : Nat) (l0 : List (S83)) (a1 : Int) (a2 : Int) (r : Int) (w : World) (hr0 : Kd.C k83 w A0 l0.length l0) (hc0 : l0.length ≤ c0) (h : governorref11_Want.f k l0 a1 a2 = some r) :
    Calls Try.prog 32 #[.slice A0 l0.length c0, .int .i64 a1, .int .i64 a2] w fun e w' => e = .returned (.int .i64 r) ∧ Below w.heap.size w w' := by
  have HR0 := Aside0.mk hr0
  have HC0 := Aside0.mk hc0
  clear hr0 hc0
  have HB := Aside0.mk (Below.refl w.heap.size w)
  have H : ((governorref11_Find.f k l0 a2).bind fun t322 => (if t322 ≥ 0 then (if 0 ≤ t322 then (if t322 < (l0.length : Int) then (some (mn (mx (wrap64 ((mn (mx a1 0) 1000) + ((rd_T83 l0 t322).f1))) 0) 1000)) else (none)) else (none)) else (some (mn (mx (mn (mx a1 0) 1000) 0) 1000)))) = some r := h
  clear h
  obtain ⟨ji4, hji4⟩ : ∃ j_ : Int, (mx a1 0) = j_ := ⟨_, rfl⟩
  replace H : ((governorref11_Find.f k l0 a2).bind fun t322 => (if t322 ≥ 0 then (if 0 ≤ t322 then (if t322 < (l0.length : Int) then (some (mn (mx (wrap64 ((mn (ji4) 1000) + ((rd_T83 l0 t322).f1))) 0) 1000)) else (none)) else (none)) else (some (mn (mx (mn (ji4) 1000) 0) 1000)))) = some r := by first | (rw [hji4] at H; exact H) | (simp only [hji4] at H ⊢; exact H)
  (try (have hji4l : 0 ≤ ji4 := by (rw [← hji4]; unfold mx; (repeat' split) <;> omega)))
  (try (have hji4m : 0 ≤ ji4 := by omega))
  have hji4_ : (if a1 < 0 then 0 else a1) = ji4 := hji4
  obtain ⟨ji5, hji5⟩ : ∃ j_ : Int, (mn (ji4) 1000) = j_ := ⟨_, rfl⟩
  replace H : ((governorref11_Find.f k l0 a2).bind fun t322 => (if t322 ≥ 0 then (if 0 ≤ t322 then (if t322 < (l0.length : Int) then (some (mn (mx (wrap64 ((ji5) + ((rd_T83 l0 t322).f1))) 0) 1000)) else (none)) else (none)) else (some (mn (mx (ji5) 0) 1000)))) = some r := by first | (rw [hji5] at H; exact H) | (simp only [hji5] at H ⊢; exact H)
  have hji5_ : (if 1000 < (ji4) then 1000 else (ji4)) = ji5 := hji5
  replace H := Option.bind_eq_some_iff.mp H
  obtain ⟨t322, A60, H⟩ := H
  replace H : (if t322 ≥ 0 then (if 0 ≤ t322 then (if t322 < (l0.length : Int) then (some (mn (mx (wrap64 ((ji5) + ((rd_T83 l0 t322).f1))) 0) 1000)) else (none)) else (none)) else (some (mn (mx (ji5) 0) 1000))) = some r := H
  have A6 := Aside0.mk A60
  clear A60
  by_cases c7 : t322 ≥ 0
  · rw [if_pos c7] at H
    have c7b0 : decide (0 ≤ t322) = true := decide_eq_true c7
    clear c7
    by_cases c8 : 0 ≤ t322
    · rw [if_pos c8] at H
      have c8b0 : decide (0 ≤ t322) = true := decide_eq_true c8
      clear c8
      by_cases c9 : t322 < (l0.length : Int)
      · rw [if_pos c9] at H
        have c9b0 : decide (t322 < (l0.length : Int)) = true := decide_eq_true c9
        clear c9
        obtain ⟨ji10, hji10⟩ : ∃ j_ : Int, (mx (wrap64 ((ji5) + ((rd_T83 l0 t322).f1))) 0) = j_ := ⟨_, rfl⟩
        replace H : (some (mn (ji10) 1000)) = some r := by first | (rw [hji10] at H; exact H) | (simp only [hji10] at H ⊢; exact H)
        (try rw [hji10] at A6)
        have hji10_ : (if (wrap64 ((ji5) + ((rd_T83 l0 t322).f1))) < 0 then 0 else (wrap64 ((ji5) + ((rd_T83 l0 t322).f1)))) = ji10 := hji10
        obtain ⟨ji11, hji11⟩ : ∃ j_ : Int, (mn (ji10) 1000) = j_ := ⟨_, rfl⟩
        replace H : (some ji11) = some r := by first | (rw [hji11] at H; exact H) | (simp only [hji11] at H ⊢; exact H)
        (try rw [hji11] at A6)
        have hji11_ : (if 1000 < (ji10) then 1000 else (ji10)) = ji11 := hji11
        obtain rfl := Option.some.inj H
        go_enter Try.func32, Try.ntmps32
        go_wp2_with (first | ((with_reducible refine gate_callee (f := 52) rfl ?_); refine goesL_ (some 14) rfl rfl Try.func52 (by kernel_rfl) rfl #[.slice A0 l0.length c0, .int .i64 a2] rfl (by (try simp only [List.map_toArray, List.map_cons, List.map_nil]); first | done | rfl | (simp only [List.length_drop, List.length_take]; rfl)) ?_; (with_reducible refine (governorref11_Find.calls k _ _ l0 a2 t322 _ ?side1 ?side2 A6.out).mono ?_); (case side1 => repeat (first | exact HR0.out | (with_reducible refine Kd.C_alloc ?_ _) | (with_reducible refine Kd.C_drewN ?_ _) | (with_reducible refine Kd.C_drew ?_))); (case side2 => exact HC0.out); rintro e w' ⟨rfl, ⟨nd, rfl⟩⟩; refine ⟨_, rfl, ?_⟩; have p323 : 0 ≤ (t322 : Int) := of_decide_eq_true (by first | (with_reducible assumption) | assumption); have q323 : t322 < (l0.length : Int) := of_decide_eq_true (by first | (with_reducible assumption) | assumption); obtain ⟨ad323, e323, hx323_0, hx323_1⟩ := at_T83 HR0.out t322 p323 q323; cases e323; replace p323 := eq_true p323; replace q323 := eq_true q323))
        go_ret
        exact ⟨by first | rfl | (simp [errW_none, errW_some] <;> rfl) | (simp only [← hji4, ← hji5, ← hji10, ← hji11]; first | rfl | (simp [errW_none, errW_some] <;> rfl)) | (simp [*, errW_none, errW_some] <;> rfl) | (have e_ : ji10 = ji11 := (by omega); subst e_; rfl) | (have e_ : ji5 = ji11 := (by omega); subst e_; rfl) | (have e_ : ji4 = ji11 := (by omega); subst e_; rfl), by repeat (first | (with_reducible first | exact HB.out | apply below_alloc | apply pw_below_drewN | apply below_drew1) | exact HB.out)⟩
      · rw [if_neg c9] at H
        exact absurd H (by simp)
    · rw [if_neg c8] at H
      exact absurd H (by simp)
  · rw [if_neg c7] at H
    have c7b0 : decide (0 ≤ t322) = false := decide_eq_false c7
    clear c7
    obtain ⟨ji12, hji12⟩ : ∃ j_ : Int, (mx (ji5) 0) = j_ := ⟨_, rfl⟩
    replace H : (some (mn (ji12) 1000)) = some r := by first | (rw [hji12] at H; exact H) | (simp only [hji12] at H ⊢; exact H)
    (try rw [hji12] at A6)
    have hji12_ : (if (ji5) < 0 then 0 else (ji5)) = ji12 := hji12
    obtain ⟨ji13, hji13⟩ : ∃ j_ : Int, (mn (ji12) 1000) = j_ := ⟨_, rfl⟩
    replace H : (some ji13) = some r := by first | (rw [hji13] at H; exact H) | (simp only [hji13] at H ⊢; exact H)
    (try rw [hji13] at A6)
    have hji13_ : (if 1000 < (ji12) then 1000 else (ji12)) = ji13 := hji13
    obtain rfl := Option.some.inj H
    go_enter Try.func32, Try.ntmps32
    go_wp2_with (first | ((with_reducible refine gate_callee (f := 52) rfl ?_); refine goesL_ (some 14) rfl rfl Try.func52 (by kernel_rfl) rfl #[.slice A0 l0.length c0, .int .i64 a2] rfl (by (try simp only [List.map_toArray, List.map_cons, List.map_nil]); first | done | rfl | (simp only [List.length_drop, List.length_take]; rfl)) ?_; (with_reducible refine (governorref11_Find.calls k _ _ l0 a2 t322 _ ?side1 ?side2 A6.out).mono ?_); (case side1 => repeat (first | exact HR0.out | (with_reducible refine Kd.C_alloc ?_ _) | (with_reducible refine Kd.C_drewN ?_ _) | (with_reducible refine Kd.C_drew ?_))); (case side2 => exact HC0.out); rintro e w' ⟨rfl, ⟨nd, rfl⟩⟩; refine ⟨_, rfl, ?_⟩))
    go_ret
    exact ⟨by first | rfl | (simp [errW_none, errW_some] <;> rfl) | (simp only [← hji4, ← hji5, ← hji12, ← hji13]; first | rfl | (simp [errW_none, errW_some] <;> rfl)) | (simp [*, errW_none, errW_some] <;> rfl) | (have e_ : ji12 = ji13 := (by omega); subst e_; rfl) | (have e_ : ji5 = ji13 := (by omega); subst e_; rfl) | (have e_ : ji4 = ji13 := (by omega); subst e_; rfl), by repeat (first | (with_reducible first | exact HB.out | apply below_alloc | apply pw_below_drewN | apply below_drew1) | exact HB.out)⟩

end Go.Proofs.Ytgeldfjpafimpaa.PAll
