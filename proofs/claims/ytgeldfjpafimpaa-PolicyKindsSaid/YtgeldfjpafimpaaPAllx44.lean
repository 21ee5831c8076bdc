-- laid by a program of this session (tprint.py) out of the translation and of texts typed by hand; Lean checks it
import Derived.Test.YtgeldfjpafimpaaPAllx0
import Derived.Test.YtgeldfjpafimpaaPAllx14
import Derived.Test.YtgeldfjpafimpaaPAllx43
namespace Go.Proofs.Ytgeldfjpafimpaa.PAll
open Go.RowKit Go.Proofs.YtgeldfjpafimpaaW.PrintWords Go.Proofs.YtgeldfjpafimpaaW.PrintLast Go.Proofs.YtgeldfjpafimpaaW.PrintMore
attribute [local go_sem] max2_int min2_int max_two min_two max_three min_three max_four min_four   -- for this text's walks alone
set_option linter.unusedVariables false
set_option linter.unusedSimpArgs false

/-! ### governorref10_Want: function 31 -/
def governorref10_Want.f (k : Nat) (a0 : Int) (a1 : Int) (a2 : Int) : Option (Int) := (governorref08_Mul.f (1000 * (mn (mx a1 0) 1000)) (mn (mx a2 0) 1000000000)).bind fun t318 => ((governorref08_Div.f k t318 (mn (mx a0 1) 1000000000)).bind fun t319 => ((governorref08_Up.f t319).bind fun t320 => (some (mn (mx t320 0) 1000))))
theorem governorref10_Want.mono : ∀ a0 a1 a2 k, LeO (governorref10_Want.f k a0 a1 a2) (governorref10_Want.f (k + 1) a0 a1 a2) := by
  intro a0 a1 a2 k
  unfold governorref10_Want.f
  repeat' first
      | (with_reducible exact governorref08_Div.mono _ _ _)
      | (with_reducible exact LeO.refl _)
      | (with_reducible exact LeO.none _)
      | (with_reducible refine LeO.ite ?_ ?_)
      | (with_reducible refine LeO.bind ?_ (fun _ => ?_))
      | exact governorref08_Div.mono _ _ _
      | exact LeO.none _
      | refine LeO.ite ?_ ?_
      | refine LeO.bind ?_ (fun _ => ?_)
set_option maxHeartbeats 8000000 in
set_option maxRecDepth 100000 in
theorem governorref10_Want.calls (k : Nat) (a0 : Int) (a1 : Int) (a2 : Int) (r : Int) (w : World) (h : governorref10_Want.f k a0 a1 a2 = some r) :
    Calls Try.prog 31 #[.int .i64 a0, .int .i64 a1, .int .i64 a2] w fun e w' => e = .returned (.int .i64 r) ∧ Below w.heap.size w w' := by
  have HB := Aside0.mk (Below.refl w.heap.size w)
  have H : ((governorref08_Mul.f (1000 * (mn (mx a1 0) 1000)) (mn (mx a2 0) 1000000000)).bind fun t318 => ((governorref08_Div.f k t318 (mn (mx a0 1) 1000000000)).bind fun t319 => ((governorref08_Up.f t319).bind fun t320 => (some (mn (mx t320 0) 1000))))) = some r := h
  clear h
  obtain ⟨ji4, hji4⟩ : ∃ j_ : Int, (mx a1 0) = j_ := ⟨_, rfl⟩
  replace H : ((governorref08_Mul.f (1000 * (mn (ji4) 1000)) (mn (mx a2 0) 1000000000)).bind fun t318 => ((governorref08_Div.f k t318 (mn (mx a0 1) 1000000000)).bind fun t319 => ((governorref08_Up.f t319).bind fun t320 => (some (mn (mx t320 0) 1000))))) = some r := by first | (rw [hji4] at H; exact H) | (simp only [hji4] at H ⊢; exact H)
  (try (have hji4l : 0 ≤ ji4 := by (rw [← hji4]; unfold mx; (repeat' split) <;> omega)))
  (try (have hji4m : 0 ≤ ji4 := by omega))
  have hji4_ : (if a1 < 0 then 0 else a1) = ji4 := hji4
  obtain ⟨ji5, hji5⟩ : ∃ j_ : Int, (mn (ji4) 1000) = j_ := ⟨_, rfl⟩
  replace H : ((governorref08_Mul.f (1000 * (ji5)) (mn (mx a2 0) 1000000000)).bind fun t318 => ((governorref08_Div.f k t318 (mn (mx a0 1) 1000000000)).bind fun t319 => ((governorref08_Up.f t319).bind fun t320 => (some (mn (mx t320 0) 1000))))) = some r := by first | (rw [hji5] at H; exact H) | (simp only [hji5] at H ⊢; exact H)
  have hji5_ : (if 1000 < (ji4) then 1000 else (ji4)) = ji5 := hji5
  obtain ⟨ji6, hji6⟩ : ∃ j_ : Int, (mx a2 0) = j_ := ⟨_, rfl⟩
  replace H : ((governorref08_Mul.f (1000 * (ji5)) (mn (ji6) 1000000000)).bind fun t318 => ((governorref08_Div.f k t318 (mn (mx a0 1) 1000000000)).bind fun t319 => ((governorref08_Up.f t319).bind fun t320 => (some (mn (mx t320 0) 1000))))) = some r := by first | (rw [hji6] at H; exact H) | (simp only [hji6] at H ⊢; exact H)
  (try (have hji6l : 0 ≤ ji6 := by (rw [← hji6]; unfold mx; (repeat' split) <;> omega)))
  (try (have hji6m : 0 ≤ ji6 := by omega))
  have hji6_ : (if a2 < 0 then 0 else a2) = ji6 := hji6
  obtain ⟨ji7, hji7⟩ : ∃ j_ : Int, (mn (ji6) 1000000000) = j_ := ⟨_, rfl⟩
  replace H : ((governorref08_Mul.f (1000 * (ji5)) (ji7)).bind fun t318 => ((governorref08_Div.f k t318 (mn (mx a0 1) 1000000000)).bind fun t319 => ((governorref08_Up.f t319).bind fun t320 => (some (mn (mx t320 0) 1000))))) = some r := by first | (rw [hji7] at H; exact H) | (simp only [hji7] at H ⊢; exact H)
  have hji7_ : (if 1000000000 < (ji6) then 1000000000 else (ji6)) = ji7 := hji7
  obtain ⟨ji8, hji8⟩ : ∃ j_ : Int, (mx a0 1) = j_ := ⟨_, rfl⟩
  replace H : ((governorref08_Mul.f (1000 * (ji5)) (ji7)).bind fun t318 => ((governorref08_Div.f k t318 (mn (ji8) 1000000000)).bind fun t319 => ((governorref08_Up.f t319).bind fun t320 => (some (mn (mx t320 0) 1000))))) = some r := by first | (rw [hji8] at H; exact H) | (simp only [hji8] at H ⊢; exact H)
  (try (have hji8l : 1 ≤ ji8 := by (rw [← hji8]; unfold mx; (repeat' split) <;> omega)))
  (try (have hji8m : 0 ≤ ji8 := by omega))
  have hji8_ : (if a0 < 1 then 1 else a0) = ji8 := hji8
  obtain ⟨ji9, hji9⟩ : ∃ j_ : Int, (mn (ji8) 1000000000) = j_ := ⟨_, rfl⟩
  replace H : ((governorref08_Mul.f (1000 * (ji5)) (ji7)).bind fun t318 => ((governorref08_Div.f k t318 (ji9)).bind fun t319 => ((governorref08_Up.f t319).bind fun t320 => (some (mn (mx t320 0) 1000))))) = some r := by first | (rw [hji9] at H; exact H) | (simp only [hji9] at H ⊢; exact H)
  have hji9_ : (if 1000000000 < (ji8) then 1000000000 else (ji8)) = ji9 := hji9
  replace H := Option.bind_eq_some_iff.mp H
  obtain ⟨t318, A100, H⟩ := H
  replace H : ((governorref08_Div.f k t318 (ji9)).bind fun t319 => ((governorref08_Up.f t319).bind fun t320 => (some (mn (mx t320 0) 1000)))) = some r := H
  have A10 := Aside0.mk A100
  clear A100
  replace H := Option.bind_eq_some_iff.mp H
  obtain ⟨t319, A110, H⟩ := H
  replace H : ((governorref08_Up.f t319).bind fun t320 => (some (mn (mx t320 0) 1000))) = some r := H
  have A11 := Aside0.mk A110
  clear A110
  replace H := Option.bind_eq_some_iff.mp H
  obtain ⟨t320, A120, H⟩ := H
  replace H : (some (mn (mx t320 0) 1000)) = some r := H
  have A12 := Aside0.mk A120
  clear A120
  obtain ⟨ji13, hji13⟩ : ∃ j_ : Int, (mx t320 0) = j_ := ⟨_, rfl⟩
  replace H : (some (mn (ji13) 1000)) = some r := by first | (rw [hji13] at H; exact H) | (simp only [hji13] at H ⊢; exact H)
  (try rw [hji13] at A10)
  (try rw [hji13] at A11)
  (try rw [hji13] at A12)
  (try (have hji13l : 0 ≤ ji13 := by (rw [← hji13]; unfold mx; (repeat' split) <;> omega)))
  (try (have hji13m : 0 ≤ ji13 := by omega))
  have hji13_ : (if t320 < 0 then 0 else t320) = ji13 := hji13
  obtain ⟨ji14, hji14⟩ : ∃ j_ : Int, (mn (ji13) 1000) = j_ := ⟨_, rfl⟩
  replace H : (some ji14) = some r := by first | (rw [hji14] at H; exact H) | (simp only [hji14] at H ⊢; exact H)
  (try rw [hji14] at A10)
  (try rw [hji14] at A11)
  (try rw [hji14] at A12)
  have hji14_ : (if 1000 < (ji13) then 1000 else (ji13)) = ji14 := hji14
  obtain rfl := Option.some.inj H
  go_enter Try.func31, Try.ntmps31
  go_wp2_with (first | ((with_reducible refine gate_callee (f := 51) rfl ?_); refine goesL_ (some 23) rfl rfl Try.func51 (by kernel_rfl) rfl #[.int .i64 (1000 * (ji5)), .int .i64 ji7] rfl (by (try simp only [List.map_toArray, List.map_cons, List.map_nil]); first | done | (simp only [hji5, hji7]; rfl) | rfl | (simp only [List.length_drop, List.length_take]; rfl)) ?_; (with_reducible refine (governorref08_Mul.calls (1000 * (ji5)) ji7 t318 _ A10.out).mono ?_); rintro e w' ⟨rfl, ⟨nd, rfl⟩⟩; refine ⟨_, rfl, ?_⟩) | ((with_reducible refine gate_callee (f := 45) rfl ?_); refine goesL_ (some 25) rfl rfl Try.func45 (by kernel_rfl) rfl #[.int .i64 t318, .int .i64 ji9] rfl (by (try simp only [List.map_toArray, List.map_cons, List.map_nil]); first | done | (simp only [hji9]; rfl) | rfl | (simp only [List.length_drop, List.length_take]; rfl)) ?_; (with_reducible refine (governorref08_Div.calls k t318 ji9 t319 _ A11.out).mono ?_); rintro e w' ⟨rfl, ⟨nd, rfl⟩⟩; refine ⟨_, rfl, ?_⟩) | ((with_reducible refine gate_callee (f := 50) rfl ?_); refine goesL_ (some 26) rfl rfl Try.func50 (by kernel_rfl) rfl #[.int .i64 t319] rfl (by (try simp only [List.map_toArray, List.map_cons, List.map_nil]); first | done | rfl | (simp only [List.length_drop, List.length_take]; rfl)) ?_; (with_reducible refine (governorref08_Up.calls t319 t320 _ A12.out).mono ?_); rintro e w' ⟨rfl, ⟨nd, rfl⟩⟩; refine ⟨_, rfl, ?_⟩))
  go_ret
  exact ⟨by first | rfl | (simp [errW_none, errW_some] <;> rfl) | (simp only [← hji4, ← hji5, ← hji6, ← hji7, ← hji8, ← hji9, ← hji13, ← hji14]; first | rfl | (simp [errW_none, errW_some] <;> rfl)) | (simp [*, errW_none, errW_some] <;> rfl) | (have e_ : ji13 = ji14 := (by omega); subst e_; rfl) | (have e_ : ji9 = ji14 := (by omega); subst e_; rfl) | (have e_ : ji8 = ji14 := (by omega); subst e_; rfl) | (have e_ : ji7 = ji14 := (by omega); subst e_; rfl) | (have e_ : ji6 = ji14 := (by omega); subst e_; rfl) | (have e_ : ji5 = ji14 := (by omega); subst e_; rfl) | (have e_ : ji4 = ji14 := (by omega); subst e_; rfl), by repeat (first | (with_reducible first | exact HB.out | apply below_alloc | apply pw_below_drewN | apply below_drew1) | exact HB.out)⟩

end Go.Proofs.Ytgeldfjpafimpaa.PAll
