-- laid by a program of this session (tprint.py) out of the translation and of texts typed by hand; Lean checks it
import Derived.Test.YtmdkcadngkbphaaPAllx0
import Derived.Test.YtmdkcadngkbphaaPAllx1
import Derived.Test.YtmdkcadngkbphaaPAllx3
import Derived.Test.YtmdkcadngkbphaaPAllx4
import Derived.Test.YtmdkcadngkbphaaPAllx5
import Derived.Test.YtmdkcadngkbphaaPAllx16
import Derived.Test.YtmdkcadngkbphaaPAllx17
import Derived.Test.YtmdkcadngkbphaaPAllx18
import Derived.Test.YtmdkcadngkbphaaPAllx20
import Derived.Test.YtmdkcadngkbphaaPAllx21
import Derived.Test.YtmdkcadngkbphaaPAllx24
namespace Go.Proofs.Ytmdkcadngkbphaa.PAll
open Go.RowKit Go.Proofs.YtmdkcadngkbphaaW.PrintWords Go.Proofs.YtmdkcadngkbphaaW.PrintLast Go.Proofs.YtmdkcadngkbphaaW.PrintMore
attribute [local go_sem] max2_int min2_int max_two min_two max_three min_three max_four min_four   -- for this text's walks alone
set_option linter.unusedVariables false
set_option linter.unusedSimpArgs false

/-! ### governorlaw08_FixedBounds: function 10 -/
def governorlaw08_FixedBounds.j0 : Nat → Int → Int → Bool → Int → Bool → Option (Bool)
  | 0, _, _, _, _, _ => none
  | k + 1, x0, x1, x7, x8, x9 => if x7 = true then ((fixed_Sat.f x0).bind fun t198 => ((governorlaw08_right.f t198).bind fun t199 => (if t199 = true then ((fixed_Add.f x0 x1).bind fun t200 => ((governorlaw08_right.f t200).bind fun t201 => (if t201 = true then ((fixed_Sub.f x0 x1).bind fun t202 => ((governorlaw08_right.f t202).bind fun t203 => (if t203 = true then ((fixed_Mul.f x0 x1).bind fun t204 => ((governorlaw08_right.f t204).bind fun t205 => (if t205 = true then ((fixed_Div.f x0 x1).bind fun t206 => ((governorlaw08_right.f t206).bind fun t207 => (if t207 = true then ((governorlaw08_right.f x8).bind fun t208 => (if t208 = true then (if x9 = true then ((fixed_Up.f x0).bind fun t209 => ((governorlaw08_right.f t209).bind fun t210 => (if t210 = true then ((fixed_Near.f x0).bind fun t211 => ((governorlaw08_right.f t211).bind fun t212 => (if t212 = true then ((governorlaw08_right.f x0).bind fun t213 => (if t213 = true then ((fixed_Sat.f x0).bind fun t214 => (some (t214 == x0))) else (some true))) else (some false)))) else (some false)))) else (some false)) else (some false))) else (some false)))) else (some false)))) else (some false)))) else (some false)))) else (some false)))) else (some false)
def governorlaw08_FixedBounds.f (k : Nat) (a0 : Int) (a1 : Int) (a2 : Int) : Option (Bool) := (governorlaw08_head.f).bind fun t192 => ((fixed_Clamp.f a0 a1 a2).bind fun t193 => ((fixed_Sat.f a1).bind fun t194 => ((fixed_Sat.f a2).bind fun t195 => (if t194 > t195 then (governorlaw08_FixedBounds.j0 k a0 a1 t192 t193 true) else ((fixed_Sat.f a1).bind fun t196 => (if t193 ≥ t196 then ((fixed_Sat.f a2).bind fun t197 => (governorlaw08_FixedBounds.j0 k a0 a1 t192 t193 (decide (t193 ≤ t197)))) else (governorlaw08_FixedBounds.j0 k a0 a1 t192 t193 false)))))))
theorem governorlaw08_FixedBounds.mono_l : ∀ k, (∀ y0 y1 y2 y3 y4, LeO (governorlaw08_FixedBounds.j0 k y0 y1 y2 y3 y4) (governorlaw08_FixedBounds.j0 (k + 1) y0 y1 y2 y3 y4))
  | 0 => fun _ _ _ _ _ r h => by simp [governorlaw08_FixedBounds.j0] at h
  | k + 1 => by
    have ih0 := governorlaw08_FixedBounds.mono_l k
    · intro y0 y1 y2 y3 y4
      unfold governorlaw08_FixedBounds.j0
      repeat' first
      | (with_reducible exact ih0 _ _ _ _ _)
      | (with_reducible exact LeO.refl _)
      | (with_reducible exact LeO.none _)
      | (with_reducible refine LeO.ite ?_ ?_)
      | (with_reducible refine LeO.bind ?_ (fun _ => ?_))
      | exact ih0 _ _ _ _ _
      | exact LeO.none _
      | refine LeO.ite ?_ ?_
      | refine LeO.bind ?_ (fun _ => ?_)
theorem governorlaw08_FixedBounds.mono : ∀ a0 a1 a2 k, LeO (governorlaw08_FixedBounds.f k a0 a1 a2) (governorlaw08_FixedBounds.f (k + 1) a0 a1 a2) := by
  intro a0 a1 a2 k
  have ih0 := governorlaw08_FixedBounds.mono_l k
  unfold governorlaw08_FixedBounds.f
  repeat' first
      | (with_reducible exact ih0 _ _ _ _ _)
      | (with_reducible exact LeO.refl _)
      | (with_reducible exact LeO.none _)
      | (with_reducible refine LeO.ite ?_ ?_)
      | (with_reducible refine LeO.bind ?_ (fun _ => ?_))
      | exact ih0 _ _ _ _ _
      | exact LeO.none _
      | refine LeO.ite ?_ ?_
      | refine LeO.bind ?_ (fun _ => ?_)
set_option maxHeartbeats 8000000 in
set_option maxRecDepth 100000 in
theorem governorlaw08_FixedBounds.calls (k : Nat) (a0 : Int) (a1 : Int) (a2 : Int) (r : Bool) (w : World) (hrT : r = true) (h : governorlaw08_FixedBounds.f k a0 a1 a2 = some r) :
    Calls Try.prog 10 #[.int .i64 a0, .int .i64 a1, .int .i64 a2] w fun e w' => e = .returned (.bool r) ∧ Drawn0 w w' := by
  have HRT := Aside0.mk hrT
  clear hrT
  have H : ((governorlaw08_head.f).bind fun t192 => ((fixed_Clamp.f a0 a1 a2).bind fun t193 => ((fixed_Sat.f a1).bind fun t194 => ((fixed_Sat.f a2).bind fun t195 => (if t194 > t195 then (governorlaw08_FixedBounds.j0 k a0 a1 t192 t193 true) else ((fixed_Sat.f a1).bind fun t196 => (if t193 ≥ t196 then ((fixed_Sat.f a2).bind fun t197 => (governorlaw08_FixedBounds.j0 k a0 a1 t192 t193 (decide (t193 ≤ t197)))) else (governorlaw08_FixedBounds.j0 k a0 a1 t192 t193 false)))))))) = some r := h
  clear h
  replace H := Option.bind_eq_some_iff.mp H
  obtain ⟨t192, A40, H⟩ := H
  replace H : ((fixed_Clamp.f a0 a1 a2).bind fun t193 => ((fixed_Sat.f a1).bind fun t194 => ((fixed_Sat.f a2).bind fun t195 => (if t194 > t195 then (governorlaw08_FixedBounds.j0 k a0 a1 t192 t193 true) else ((fixed_Sat.f a1).bind fun t196 => (if t193 ≥ t196 then ((fixed_Sat.f a2).bind fun t197 => (governorlaw08_FixedBounds.j0 k a0 a1 t192 t193 (decide (t193 ≤ t197)))) else (governorlaw08_FixedBounds.j0 k a0 a1 t192 t193 false))))))) = some r := H
  have A4 := Aside0.mk A40
  clear A40
  replace H := Option.bind_eq_some_iff.mp H
  obtain ⟨t193, A50, H⟩ := H
  replace H : ((fixed_Sat.f a1).bind fun t194 => ((fixed_Sat.f a2).bind fun t195 => (if t194 > t195 then (governorlaw08_FixedBounds.j0 k a0 a1 t192 t193 true) else ((fixed_Sat.f a1).bind fun t196 => (if t193 ≥ t196 then ((fixed_Sat.f a2).bind fun t197 => (governorlaw08_FixedBounds.j0 k a0 a1 t192 t193 (decide (t193 ≤ t197)))) else (governorlaw08_FixedBounds.j0 k a0 a1 t192 t193 false)))))) = some r := H
  have A5 := Aside0.mk A50
  clear A50
  have HC6 := Aside0.mk H
  clear H
  go_enter Try.func10, Try.ntmps10
  go_upto_region 3 with (first | ((with_reducible refine gate_callee (f := 18) rfl ?_); refine goesL_ (some 10) rfl rfl Try.func18 (by kernel_rfl) rfl #[] rfl (by (try simp only [List.map_toArray, List.map_cons, List.map_nil]); first | done | rfl | (simp only [List.length_drop, List.length_take]; rfl)) ?_; (with_reducible refine (governorlaw08_head.calls  t192 _ A4.out).mono ?_); rintro e w' ⟨rfl, ⟨nd, rfl⟩⟩; refine ⟨_, rfl, ?_⟩) | ((with_reducible refine gate_callee (f := 29) rfl ?_); refine goesL_ (some 14) rfl rfl Try.func29 (by kernel_rfl) rfl #[.int .i64 a0, .int .i64 a1, .int .i64 a2] rfl (by (try simp only [List.map_toArray, List.map_cons, List.map_nil]); first | done | rfl | (simp only [List.length_drop, List.length_take]; rfl)) ?_; (with_reducible refine (fixed_Clamp.calls a0 a1 a2 t193 _ A5.out).mono ?_); rintro e w' ⟨rfl, ⟨nd, rfl⟩⟩; refine ⟨_, rfl, ?_⟩))
  (try simp only [Act.put, List.setIfInBounds_toArray, List.set_cons_zero, List.set_cons_succ])
  go_cut [9] (fun v9 wc => ∃ (kq : Nat) (x9_5 : Bool), v9 = .bool x9_5 ∧ Aside0 (governorlaw08_FixedBounds.j0 kq a0 a1 t192 t193 x9_5 = some r) ∧ Aside0 (kq ≤ k) ∧ Drawn0 w wc)
  case first =>
    have H := HC6.out
    clear HC6
    replace H := Option.bind_eq_some_iff.mp H
    obtain ⟨t194, A70, H⟩ := H
    replace H : ((fixed_Sat.f a2).bind fun t195 => (if t194 > t195 then (governorlaw08_FixedBounds.j0 k a0 a1 t192 t193 true) else ((fixed_Sat.f a1).bind fun t196 => (if t193 ≥ t196 then ((fixed_Sat.f a2).bind fun t197 => (governorlaw08_FixedBounds.j0 k a0 a1 t192 t193 (decide (t193 ≤ t197)))) else (governorlaw08_FixedBounds.j0 k a0 a1 t192 t193 false))))) = some r := H
    have A7 := Aside0.mk A70
    clear A70
    replace H := Option.bind_eq_some_iff.mp H
    obtain ⟨t195, A80, H⟩ := H
    replace H : (if t194 > t195 then (governorlaw08_FixedBounds.j0 k a0 a1 t192 t193 true) else ((fixed_Sat.f a1).bind fun t196 => (if t193 ≥ t196 then ((fixed_Sat.f a2).bind fun t197 => (governorlaw08_FixedBounds.j0 k a0 a1 t192 t193 (decide (t193 ≤ t197)))) else (governorlaw08_FixedBounds.j0 k a0 a1 t192 t193 false)))) = some r := H
    have A8 := Aside0.mk A80
    clear A80
    by_cases c9 : t194 > t195
    · rw [if_pos c9] at H
      have c9b0 : decide (t195 < t194) = true := decide_eq_true c9
      clear c9
      (first | rw [c9b0] | (simp only [i64_w, i32_w]; rw [c9b0]) | skip)
      have H' := Aside0.mk H
      clear H
      go_wp2_with (first | ((with_reducible refine gate_callee (f := 19) rfl ?_); refine goesL_ (some 16) rfl rfl Try.func19 (by kernel_rfl) rfl #[.int .i64 a1] rfl (by (try simp only [List.map_toArray, List.map_cons, List.map_nil]); first | done | rfl | (simp only [List.length_drop, List.length_take]; rfl)) ?_; (with_reducible refine (fixed_Sat.calls a1 t194 _ A7.out).mono ?_); rintro e w' ⟨rfl, ⟨nd, rfl⟩⟩; refine ⟨_, rfl, ?_⟩) | ((with_reducible refine gate_callee (f := 19) rfl ?_); refine goesL_ (some 18) rfl rfl Try.func19 (by kernel_rfl) rfl #[.int .i64 a2] rfl (by (try simp only [List.map_toArray, List.map_cons, List.map_nil]); first | done | rfl | (simp only [List.length_drop, List.length_take]; rfl)) ?_; (with_reducible refine (fixed_Sat.calls a2 t195 _ A8.out).mono ?_); rintro e w' ⟨rfl, ⟨nd, rfl⟩⟩; refine ⟨_, rfl, ?_⟩))
      go_meet
      case rel => exact ⟨_, (true), (by first | rfl | (simp; done) | (simp [*]; done)), H', ⟨by first | omega | exact Nat.le_refl _⟩, by repeat (first | exact Drawn0.refl _ | apply Drawn0.step)⟩
    · rw [if_neg c9] at H
      have c9b0 : decide (t195 < t194) = false := decide_eq_false c9
      clear c9
      (first | rw [c9b0] | (simp only [i64_w, i32_w]; rw [c9b0]) | skip)
      replace H := Option.bind_eq_some_iff.mp H
      obtain ⟨t196, A100, H⟩ := H
      replace H : (if t193 ≥ t196 then ((fixed_Sat.f a2).bind fun t197 => (governorlaw08_FixedBounds.j0 k a0 a1 t192 t193 (decide (t193 ≤ t197)))) else (governorlaw08_FixedBounds.j0 k a0 a1 t192 t193 false)) = some r := H
      have A10 := Aside0.mk A100
      clear A100
      by_cases c11 : t193 ≥ t196
      · rw [if_pos c11] at H
        have c11b0 : decide (t196 ≤ t193) = true := decide_eq_true c11
        clear c11
        replace H := Option.bind_eq_some_iff.mp H
        obtain ⟨t197, A120, H⟩ := H
        replace H : (governorlaw08_FixedBounds.j0 k a0 a1 t192 t193 (decide (t193 ≤ t197))) = some r := H
        have A12 := Aside0.mk A120
        clear A120
        have H' := Aside0.mk H
        clear H
        go_wp2_with (first | ((with_reducible refine gate_callee (f := 19) rfl ?_); refine goesL_ (some 16) rfl rfl Try.func19 (by kernel_rfl) rfl #[.int .i64 a1] rfl (by (try simp only [List.map_toArray, List.map_cons, List.map_nil]); first | done | rfl | (simp only [List.length_drop, List.length_take]; rfl)) ?_; (with_reducible refine (fixed_Sat.calls a1 t194 _ A7.out).mono ?_); rintro e w' ⟨rfl, ⟨nd, rfl⟩⟩; refine ⟨_, rfl, ?_⟩; clear A7) | ((with_reducible refine gate_callee (f := 19) rfl ?_); refine goesL_ (some 18) rfl rfl Try.func19 (by kernel_rfl) rfl #[.int .i64 a2] rfl (by (try simp only [List.map_toArray, List.map_cons, List.map_nil]); first | done | rfl | (simp only [List.length_drop, List.length_take]; rfl)) ?_; (with_reducible refine (fixed_Sat.calls a2 t195 _ A8.out).mono ?_); rintro e w' ⟨rfl, ⟨nd, rfl⟩⟩; refine ⟨_, rfl, ?_⟩; clear A8) | (go_at_call 19; (with_reducible refine (fixed_Sat.calls a1 t196 _ A10.out).mono ?_); rintro e w' ⟨rfl, ⟨nd, rfl⟩⟩; clear A10) | (go_at_call 19; (with_reducible refine (fixed_Sat.calls a2 t197 _ A12.out).mono ?_); rintro e w' ⟨rfl, ⟨nd, rfl⟩⟩; clear A12))
        go_meet
        case rel => exact ⟨_, (decide (t193 ≤ t197)), (by first | rfl | (simp; done) | (simp [*]; done)), H', ⟨by first | omega | exact Nat.le_refl _⟩, by repeat (first | exact Drawn0.refl _ | apply Drawn0.step)⟩
      · rw [if_neg c11] at H
        have c11b0 : decide (t196 ≤ t193) = false := decide_eq_false c11
        clear c11
        have H' := Aside0.mk H
        clear H
        go_wp2_with (first | ((with_reducible refine gate_callee (f := 19) rfl ?_); refine goesL_ (some 16) rfl rfl Try.func19 (by kernel_rfl) rfl #[.int .i64 a1] rfl (by (try simp only [List.map_toArray, List.map_cons, List.map_nil]); first | done | rfl | (simp only [List.length_drop, List.length_take]; rfl)) ?_; (with_reducible refine (fixed_Sat.calls a1 t194 _ A7.out).mono ?_); rintro e w' ⟨rfl, ⟨nd, rfl⟩⟩; refine ⟨_, rfl, ?_⟩; clear A7) | ((with_reducible refine gate_callee (f := 19) rfl ?_); refine goesL_ (some 18) rfl rfl Try.func19 (by kernel_rfl) rfl #[.int .i64 a2] rfl (by (try simp only [List.map_toArray, List.map_cons, List.map_nil]); first | done | rfl | (simp only [List.length_drop, List.length_take]; rfl)) ?_; (with_reducible refine (fixed_Sat.calls a2 t195 _ A8.out).mono ?_); rintro e w' ⟨rfl, ⟨nd, rfl⟩⟩; refine ⟨_, rfl, ?_⟩) | (go_at_call 19; (with_reducible refine (fixed_Sat.calls a1 t196 _ A10.out).mono ?_); rintro e w' ⟨rfl, ⟨nd, rfl⟩⟩; clear A10))
        go_meet
        case rel => exact ⟨_, (false), (by first | rfl | (simp; done) | (simp [*]; done)), H', ⟨by first | omega | exact Nat.le_refl _⟩, by repeat (first | exact Drawn0.refl _ | apply Drawn0.step)⟩
  case rest =>
    clear HC6
    try clear c1
    try clear c2
    try clear p2
    try clear c9
    try clear c9b0
    try clear c10
    try clear c11
    try clear c11b0
    obtain ⟨kq, x9_5, rfl, HA, HJ5, ⟨mc5, rfl⟩⟩ := hcut
    cases kq with
    | zero => exact absurd HA.out (by simp [governorlaw08_FixedBounds.j0])
    | succ kj5 =>
      have H := HA.out
      clear HA
      simp only [governorlaw08_FixedBounds.j0] at H
      by_cases c13 : t192 = true
      · subst c13
        have H1 : ((fixed_Sat.f a0).bind fun t198 => ((governorlaw08_right.f t198).bind fun t199 => (if t199 = true then ((fixed_Add.f a0 a1).bind fun t200 => ((governorlaw08_right.f t200).bind fun t201 => (if t201 = true then ((fixed_Sub.f a0 a1).bind fun t202 => ((governorlaw08_right.f t202).bind fun t203 => (if t203 = true then ((fixed_Mul.f a0 a1).bind fun t204 => ((governorlaw08_right.f t204).bind fun t205 => (if t205 = true then ((fixed_Div.f a0 a1).bind fun t206 => ((governorlaw08_right.f t206).bind fun t207 => (if t207 = true then ((governorlaw08_right.f t193).bind fun t208 => (if t208 = true then (if x9_5 = true then ((fixed_Up.f a0).bind fun t209 => ((governorlaw08_right.f t209).bind fun t210 => (if t210 = true then ((fixed_Near.f a0).bind fun t211 => ((governorlaw08_right.f t211).bind fun t212 => (if t212 = true then ((governorlaw08_right.f a0).bind fun t213 => (if t213 = true then ((fixed_Sat.f a0).bind fun t214 => (some (t214 == a0))) else (some true))) else (some false)))) else (some false)))) else (some false)) else (some false))) else (some false)))) else (some false)))) else (some false)))) else (some false)))) else (some false)))) = some r := by rw [if_pos rfl] at H; exact H
        clear H
        have H := H1
        clear H1
        replace H := Option.bind_eq_some_iff.mp H
        obtain ⟨t198, A140, H⟩ := H
        replace H : ((governorlaw08_right.f t198).bind fun t199 => (if t199 = true then ((fixed_Add.f a0 a1).bind fun t200 => ((governorlaw08_right.f t200).bind fun t201 => (if t201 = true then ((fixed_Sub.f a0 a1).bind fun t202 => ((governorlaw08_right.f t202).bind fun t203 => (if t203 = true then ((fixed_Mul.f a0 a1).bind fun t204 => ((governorlaw08_right.f t204).bind fun t205 => (if t205 = true then ((fixed_Div.f a0 a1).bind fun t206 => ((governorlaw08_right.f t206).bind fun t207 => (if t207 = true then ((governorlaw08_right.f t193).bind fun t208 => (if t208 = true then (if x9_5 = true then ((fixed_Up.f a0).bind fun t209 => ((governorlaw08_right.f t209).bind fun t210 => (if t210 = true then ((fixed_Near.f a0).bind fun t211 => ((governorlaw08_right.f t211).bind fun t212 => (if t212 = true then ((governorlaw08_right.f a0).bind fun t213 => (if t213 = true then ((fixed_Sat.f a0).bind fun t214 => (some (t214 == a0))) else (some true))) else (some false)))) else (some false)))) else (some false)) else (some false))) else (some false)))) else (some false)))) else (some false)))) else (some false)))) else (some false))) = some r := H
        have A14 := Aside0.mk A140
        clear A140
        replace H := Option.bind_eq_some_iff.mp H
        obtain ⟨t199, A150, H⟩ := H
        replace H : (if t199 = true then ((fixed_Add.f a0 a1).bind fun t200 => ((governorlaw08_right.f t200).bind fun t201 => (if t201 = true then ((fixed_Sub.f a0 a1).bind fun t202 => ((governorlaw08_right.f t202).bind fun t203 => (if t203 = true then ((fixed_Mul.f a0 a1).bind fun t204 => ((governorlaw08_right.f t204).bind fun t205 => (if t205 = true then ((fixed_Div.f a0 a1).bind fun t206 => ((governorlaw08_right.f t206).bind fun t207 => (if t207 = true then ((governorlaw08_right.f t193).bind fun t208 => (if t208 = true then (if x9_5 = true then ((fixed_Up.f a0).bind fun t209 => ((governorlaw08_right.f t209).bind fun t210 => (if t210 = true then ((fixed_Near.f a0).bind fun t211 => ((governorlaw08_right.f t211).bind fun t212 => (if t212 = true then ((governorlaw08_right.f a0).bind fun t213 => (if t213 = true then ((fixed_Sat.f a0).bind fun t214 => (some (t214 == a0))) else (some true))) else (some false)))) else (some false)))) else (some false)) else (some false))) else (some false)))) else (some false)))) else (some false)))) else (some false)))) else (some false)) = some r := H
        have A15 := Aside0.mk A150
        clear A150
        by_cases c16 : t199 = true
        · subst c16
          have H1 : ((fixed_Add.f a0 a1).bind fun t200 => ((governorlaw08_right.f t200).bind fun t201 => (if t201 = true then ((fixed_Sub.f a0 a1).bind fun t202 => ((governorlaw08_right.f t202).bind fun t203 => (if t203 = true then ((fixed_Mul.f a0 a1).bind fun t204 => ((governorlaw08_right.f t204).bind fun t205 => (if t205 = true then ((fixed_Div.f a0 a1).bind fun t206 => ((governorlaw08_right.f t206).bind fun t207 => (if t207 = true then ((governorlaw08_right.f t193).bind fun t208 => (if t208 = true then (if x9_5 = true then ((fixed_Up.f a0).bind fun t209 => ((governorlaw08_right.f t209).bind fun t210 => (if t210 = true then ((fixed_Near.f a0).bind fun t211 => ((governorlaw08_right.f t211).bind fun t212 => (if t212 = true then ((governorlaw08_right.f a0).bind fun t213 => (if t213 = true then ((fixed_Sat.f a0).bind fun t214 => (some (t214 == a0))) else (some true))) else (some false)))) else (some false)))) else (some false)) else (some false))) else (some false)))) else (some false)))) else (some false)))) else (some false)))) = some r := by rw [if_pos rfl] at H; exact H
          clear H
          have H := H1
          clear H1
          replace H := Option.bind_eq_some_iff.mp H
          obtain ⟨t200, A170, H⟩ := H
          replace H : ((governorlaw08_right.f t200).bind fun t201 => (if t201 = true then ((fixed_Sub.f a0 a1).bind fun t202 => ((governorlaw08_right.f t202).bind fun t203 => (if t203 = true then ((fixed_Mul.f a0 a1).bind fun t204 => ((governorlaw08_right.f t204).bind fun t205 => (if t205 = true then ((fixed_Div.f a0 a1).bind fun t206 => ((governorlaw08_right.f t206).bind fun t207 => (if t207 = true then ((governorlaw08_right.f t193).bind fun t208 => (if t208 = true then (if x9_5 = true then ((fixed_Up.f a0).bind fun t209 => ((governorlaw08_right.f t209).bind fun t210 => (if t210 = true then ((fixed_Near.f a0).bind fun t211 => ((governorlaw08_right.f t211).bind fun t212 => (if t212 = true then ((governorlaw08_right.f a0).bind fun t213 => (if t213 = true then ((fixed_Sat.f a0).bind fun t214 => (some (t214 == a0))) else (some true))) else (some false)))) else (some false)))) else (some false)) else (some false))) else (some false)))) else (some false)))) else (some false)))) else (some false))) = some r := H
          have A17 := Aside0.mk A170
          clear A170
          replace H := Option.bind_eq_some_iff.mp H
          obtain ⟨t201, A180, H⟩ := H
          replace H : (if t201 = true then ((fixed_Sub.f a0 a1).bind fun t202 => ((governorlaw08_right.f t202).bind fun t203 => (if t203 = true then ((fixed_Mul.f a0 a1).bind fun t204 => ((governorlaw08_right.f t204).bind fun t205 => (if t205 = true then ((fixed_Div.f a0 a1).bind fun t206 => ((governorlaw08_right.f t206).bind fun t207 => (if t207 = true then ((governorlaw08_right.f t193).bind fun t208 => (if t208 = true then (if x9_5 = true then ((fixed_Up.f a0).bind fun t209 => ((governorlaw08_right.f t209).bind fun t210 => (if t210 = true then ((fixed_Near.f a0).bind fun t211 => ((governorlaw08_right.f t211).bind fun t212 => (if t212 = true then ((governorlaw08_right.f a0).bind fun t213 => (if t213 = true then ((fixed_Sat.f a0).bind fun t214 => (some (t214 == a0))) else (some true))) else (some false)))) else (some false)))) else (some false)) else (some false))) else (some false)))) else (some false)))) else (some false)))) else (some false)) = some r := H
          have A18 := Aside0.mk A180
          clear A180
          by_cases c19 : t201 = true
          · subst c19
            have H1 : ((fixed_Sub.f a0 a1).bind fun t202 => ((governorlaw08_right.f t202).bind fun t203 => (if t203 = true then ((fixed_Mul.f a0 a1).bind fun t204 => ((governorlaw08_right.f t204).bind fun t205 => (if t205 = true then ((fixed_Div.f a0 a1).bind fun t206 => ((governorlaw08_right.f t206).bind fun t207 => (if t207 = true then ((governorlaw08_right.f t193).bind fun t208 => (if t208 = true then (if x9_5 = true then ((fixed_Up.f a0).bind fun t209 => ((governorlaw08_right.f t209).bind fun t210 => (if t210 = true then ((fixed_Near.f a0).bind fun t211 => ((governorlaw08_right.f t211).bind fun t212 => (if t212 = true then ((governorlaw08_right.f a0).bind fun t213 => (if t213 = true then ((fixed_Sat.f a0).bind fun t214 => (some (t214 == a0))) else (some true))) else (some false)))) else (some false)))) else (some false)) else (some false))) else (some false)))) else (some false)))) else (some false)))) = some r := by rw [if_pos rfl] at H; exact H
            clear H
            have H := H1
            clear H1
            replace H := Option.bind_eq_some_iff.mp H
            obtain ⟨t202, A200, H⟩ := H
            replace H : ((governorlaw08_right.f t202).bind fun t203 => (if t203 = true then ((fixed_Mul.f a0 a1).bind fun t204 => ((governorlaw08_right.f t204).bind fun t205 => (if t205 = true then ((fixed_Div.f a0 a1).bind fun t206 => ((governorlaw08_right.f t206).bind fun t207 => (if t207 = true then ((governorlaw08_right.f t193).bind fun t208 => (if t208 = true then (if x9_5 = true then ((fixed_Up.f a0).bind fun t209 => ((governorlaw08_right.f t209).bind fun t210 => (if t210 = true then ((fixed_Near.f a0).bind fun t211 => ((governorlaw08_right.f t211).bind fun t212 => (if t212 = true then ((governorlaw08_right.f a0).bind fun t213 => (if t213 = true then ((fixed_Sat.f a0).bind fun t214 => (some (t214 == a0))) else (some true))) else (some false)))) else (some false)))) else (some false)) else (some false))) else (some false)))) else (some false)))) else (some false))) = some r := H
            have A20 := Aside0.mk A200
            clear A200
            replace H := Option.bind_eq_some_iff.mp H
            obtain ⟨t203, A210, H⟩ := H
            replace H : (if t203 = true then ((fixed_Mul.f a0 a1).bind fun t204 => ((governorlaw08_right.f t204).bind fun t205 => (if t205 = true then ((fixed_Div.f a0 a1).bind fun t206 => ((governorlaw08_right.f t206).bind fun t207 => (if t207 = true then ((governorlaw08_right.f t193).bind fun t208 => (if t208 = true then (if x9_5 = true then ((fixed_Up.f a0).bind fun t209 => ((governorlaw08_right.f t209).bind fun t210 => (if t210 = true then ((fixed_Near.f a0).bind fun t211 => ((governorlaw08_right.f t211).bind fun t212 => (if t212 = true then ((governorlaw08_right.f a0).bind fun t213 => (if t213 = true then ((fixed_Sat.f a0).bind fun t214 => (some (t214 == a0))) else (some true))) else (some false)))) else (some false)))) else (some false)) else (some false))) else (some false)))) else (some false)))) else (some false)) = some r := H
            have A21 := Aside0.mk A210
            clear A210
            by_cases c22 : t203 = true
            · subst c22
              have H1 : ((fixed_Mul.f a0 a1).bind fun t204 => ((governorlaw08_right.f t204).bind fun t205 => (if t205 = true then ((fixed_Div.f a0 a1).bind fun t206 => ((governorlaw08_right.f t206).bind fun t207 => (if t207 = true then ((governorlaw08_right.f t193).bind fun t208 => (if t208 = true then (if x9_5 = true then ((fixed_Up.f a0).bind fun t209 => ((governorlaw08_right.f t209).bind fun t210 => (if t210 = true then ((fixed_Near.f a0).bind fun t211 => ((governorlaw08_right.f t211).bind fun t212 => (if t212 = true then ((governorlaw08_right.f a0).bind fun t213 => (if t213 = true then ((fixed_Sat.f a0).bind fun t214 => (some (t214 == a0))) else (some true))) else (some false)))) else (some false)))) else (some false)) else (some false))) else (some false)))) else (some false)))) = some r := by rw [if_pos rfl] at H; exact H
              clear H
              have H := H1
              clear H1
              replace H := Option.bind_eq_some_iff.mp H
              obtain ⟨t204, A230, H⟩ := H
              replace H : ((governorlaw08_right.f t204).bind fun t205 => (if t205 = true then ((fixed_Div.f a0 a1).bind fun t206 => ((governorlaw08_right.f t206).bind fun t207 => (if t207 = true then ((governorlaw08_right.f t193).bind fun t208 => (if t208 = true then (if x9_5 = true then ((fixed_Up.f a0).bind fun t209 => ((governorlaw08_right.f t209).bind fun t210 => (if t210 = true then ((fixed_Near.f a0).bind fun t211 => ((governorlaw08_right.f t211).bind fun t212 => (if t212 = true then ((governorlaw08_right.f a0).bind fun t213 => (if t213 = true then ((fixed_Sat.f a0).bind fun t214 => (some (t214 == a0))) else (some true))) else (some false)))) else (some false)))) else (some false)) else (some false))) else (some false)))) else (some false))) = some r := H
              have A23 := Aside0.mk A230
              clear A230
              replace H := Option.bind_eq_some_iff.mp H
              obtain ⟨t205, A240, H⟩ := H
              replace H : (if t205 = true then ((fixed_Div.f a0 a1).bind fun t206 => ((governorlaw08_right.f t206).bind fun t207 => (if t207 = true then ((governorlaw08_right.f t193).bind fun t208 => (if t208 = true then (if x9_5 = true then ((fixed_Up.f a0).bind fun t209 => ((governorlaw08_right.f t209).bind fun t210 => (if t210 = true then ((fixed_Near.f a0).bind fun t211 => ((governorlaw08_right.f t211).bind fun t212 => (if t212 = true then ((governorlaw08_right.f a0).bind fun t213 => (if t213 = true then ((fixed_Sat.f a0).bind fun t214 => (some (t214 == a0))) else (some true))) else (some false)))) else (some false)))) else (some false)) else (some false))) else (some false)))) else (some false)) = some r := H
              have A24 := Aside0.mk A240
              clear A240
              by_cases c25 : t205 = true
              · subst c25
                have H1 : ((fixed_Div.f a0 a1).bind fun t206 => ((governorlaw08_right.f t206).bind fun t207 => (if t207 = true then ((governorlaw08_right.f t193).bind fun t208 => (if t208 = true then (if x9_5 = true then ((fixed_Up.f a0).bind fun t209 => ((governorlaw08_right.f t209).bind fun t210 => (if t210 = true then ((fixed_Near.f a0).bind fun t211 => ((governorlaw08_right.f t211).bind fun t212 => (if t212 = true then ((governorlaw08_right.f a0).bind fun t213 => (if t213 = true then ((fixed_Sat.f a0).bind fun t214 => (some (t214 == a0))) else (some true))) else (some false)))) else (some false)))) else (some false)) else (some false))) else (some false)))) = some r := by rw [if_pos rfl] at H; exact H
                clear H
                have H := H1
                clear H1
                replace H := Option.bind_eq_some_iff.mp H
                obtain ⟨t206, A260, H⟩ := H
                replace H : ((governorlaw08_right.f t206).bind fun t207 => (if t207 = true then ((governorlaw08_right.f t193).bind fun t208 => (if t208 = true then (if x9_5 = true then ((fixed_Up.f a0).bind fun t209 => ((governorlaw08_right.f t209).bind fun t210 => (if t210 = true then ((fixed_Near.f a0).bind fun t211 => ((governorlaw08_right.f t211).bind fun t212 => (if t212 = true then ((governorlaw08_right.f a0).bind fun t213 => (if t213 = true then ((fixed_Sat.f a0).bind fun t214 => (some (t214 == a0))) else (some true))) else (some false)))) else (some false)))) else (some false)) else (some false))) else (some false))) = some r := H
                have A26 := Aside0.mk A260
                clear A260
                replace H := Option.bind_eq_some_iff.mp H
                obtain ⟨t207, A270, H⟩ := H
                replace H : (if t207 = true then ((governorlaw08_right.f t193).bind fun t208 => (if t208 = true then (if x9_5 = true then ((fixed_Up.f a0).bind fun t209 => ((governorlaw08_right.f t209).bind fun t210 => (if t210 = true then ((fixed_Near.f a0).bind fun t211 => ((governorlaw08_right.f t211).bind fun t212 => (if t212 = true then ((governorlaw08_right.f a0).bind fun t213 => (if t213 = true then ((fixed_Sat.f a0).bind fun t214 => (some (t214 == a0))) else (some true))) else (some false)))) else (some false)))) else (some false)) else (some false))) else (some false)) = some r := H
                have A27 := Aside0.mk A270
                clear A270
                by_cases c28 : t207 = true
                · subst c28
                  have H1 : ((governorlaw08_right.f t193).bind fun t208 => (if t208 = true then (if x9_5 = true then ((fixed_Up.f a0).bind fun t209 => ((governorlaw08_right.f t209).bind fun t210 => (if t210 = true then ((fixed_Near.f a0).bind fun t211 => ((governorlaw08_right.f t211).bind fun t212 => (if t212 = true then ((governorlaw08_right.f a0).bind fun t213 => (if t213 = true then ((fixed_Sat.f a0).bind fun t214 => (some (t214 == a0))) else (some true))) else (some false)))) else (some false)))) else (some false)) else (some false))) = some r := by rw [if_pos rfl] at H; exact H
                  clear H
                  have H := H1
                  clear H1
                  replace H := Option.bind_eq_some_iff.mp H
                  obtain ⟨t208, A290, H⟩ := H
                  replace H : (if t208 = true then (if x9_5 = true then ((fixed_Up.f a0).bind fun t209 => ((governorlaw08_right.f t209).bind fun t210 => (if t210 = true then ((fixed_Near.f a0).bind fun t211 => ((governorlaw08_right.f t211).bind fun t212 => (if t212 = true then ((governorlaw08_right.f a0).bind fun t213 => (if t213 = true then ((fixed_Sat.f a0).bind fun t214 => (some (t214 == a0))) else (some true))) else (some false)))) else (some false)))) else (some false)) else (some false)) = some r := H
                  have A29 := Aside0.mk A290
                  clear A290
                  by_cases c30 : t208 = true
                  · subst c30
                    have H1 : (if x9_5 = true then ((fixed_Up.f a0).bind fun t209 => ((governorlaw08_right.f t209).bind fun t210 => (if t210 = true then ((fixed_Near.f a0).bind fun t211 => ((governorlaw08_right.f t211).bind fun t212 => (if t212 = true then ((governorlaw08_right.f a0).bind fun t213 => (if t213 = true then ((fixed_Sat.f a0).bind fun t214 => (some (t214 == a0))) else (some true))) else (some false)))) else (some false)))) else (some false)) = some r := by rw [if_pos rfl] at H; exact H
                    clear H
                    have H := H1
                    clear H1
                    by_cases c31 : x9_5 = true
                    · subst c31
                      have H1 : ((fixed_Up.f a0).bind fun t209 => ((governorlaw08_right.f t209).bind fun t210 => (if t210 = true then ((fixed_Near.f a0).bind fun t211 => ((governorlaw08_right.f t211).bind fun t212 => (if t212 = true then ((governorlaw08_right.f a0).bind fun t213 => (if t213 = true then ((fixed_Sat.f a0).bind fun t214 => (some (t214 == a0))) else (some true))) else (some false)))) else (some false)))) = some r := by rw [if_pos rfl] at H; exact H
                      clear H
                      have H := H1
                      clear H1
                      replace H := Option.bind_eq_some_iff.mp H
                      obtain ⟨t209, A320, H⟩ := H
                      replace H : ((governorlaw08_right.f t209).bind fun t210 => (if t210 = true then ((fixed_Near.f a0).bind fun t211 => ((governorlaw08_right.f t211).bind fun t212 => (if t212 = true then ((governorlaw08_right.f a0).bind fun t213 => (if t213 = true then ((fixed_Sat.f a0).bind fun t214 => (some (t214 == a0))) else (some true))) else (some false)))) else (some false))) = some r := H
                      have A32 := Aside0.mk A320
                      clear A320
                      replace H := Option.bind_eq_some_iff.mp H
                      obtain ⟨t210, A330, H⟩ := H
                      replace H : (if t210 = true then ((fixed_Near.f a0).bind fun t211 => ((governorlaw08_right.f t211).bind fun t212 => (if t212 = true then ((governorlaw08_right.f a0).bind fun t213 => (if t213 = true then ((fixed_Sat.f a0).bind fun t214 => (some (t214 == a0))) else (some true))) else (some false)))) else (some false)) = some r := H
                      have A33 := Aside0.mk A330
                      clear A330
                      by_cases c34 : t210 = true
                      · subst c34
                        have H1 : ((fixed_Near.f a0).bind fun t211 => ((governorlaw08_right.f t211).bind fun t212 => (if t212 = true then ((governorlaw08_right.f a0).bind fun t213 => (if t213 = true then ((fixed_Sat.f a0).bind fun t214 => (some (t214 == a0))) else (some true))) else (some false)))) = some r := by rw [if_pos rfl] at H; exact H
                        clear H
                        have H := H1
                        clear H1
                        replace H := Option.bind_eq_some_iff.mp H
                        obtain ⟨t211, A350, H⟩ := H
                        replace H : ((governorlaw08_right.f t211).bind fun t212 => (if t212 = true then ((governorlaw08_right.f a0).bind fun t213 => (if t213 = true then ((fixed_Sat.f a0).bind fun t214 => (some (t214 == a0))) else (some true))) else (some false))) = some r := H
                        have A35 := Aside0.mk A350
                        clear A350
                        replace H := Option.bind_eq_some_iff.mp H
                        obtain ⟨t212, A360, H⟩ := H
                        replace H : (if t212 = true then ((governorlaw08_right.f a0).bind fun t213 => (if t213 = true then ((fixed_Sat.f a0).bind fun t214 => (some (t214 == a0))) else (some true))) else (some false)) = some r := H
                        have A36 := Aside0.mk A360
                        clear A360
                        by_cases c37 : t212 = true
                        · subst c37
                          have H1 : ((governorlaw08_right.f a0).bind fun t213 => (if t213 = true then ((fixed_Sat.f a0).bind fun t214 => (some (t214 == a0))) else (some true))) = some r := by rw [if_pos rfl] at H; exact H
                          clear H
                          have H := H1
                          clear H1
                          replace H := Option.bind_eq_some_iff.mp H
                          obtain ⟨t213, A380, H⟩ := H
                          replace H : (if t213 = true then ((fixed_Sat.f a0).bind fun t214 => (some (t214 == a0))) else (some true)) = some r := H
                          have A38 := Aside0.mk A380
                          clear A380
                          by_cases c39 : t213 = true
                          · subst c39
                            have H1 : ((fixed_Sat.f a0).bind fun t214 => (some (t214 == a0))) = some r := by rw [if_pos rfl] at H; exact H
                            clear H
                            have H := H1
                            clear H1
                            replace H := Option.bind_eq_some_iff.mp H
                            obtain ⟨t214, A400, H⟩ := H
                            replace H : (some (t214 == a0)) = some r := H
                            have A40 := Aside0.mk A400
                            clear A400
                            obtain rfl := Option.some.inj H
                            go_wp2_with (first | (go_at_call 19; (with_reducible refine (fixed_Sat.calls a0 t198 _ A14.out).mono ?_); rintro e w' ⟨rfl, ⟨nd, rfl⟩⟩; clear A14) | (go_at_call 35; (with_reducible refine (governorlaw08_right.calls t198 true _ A15.out).mono ?_); rintro e w' ⟨rfl, ⟨nd, rfl⟩⟩) | (go_at_call 21; (with_reducible refine (fixed_Add.calls a0 a1 t200 _ A17.out).mono ?_); rintro e w' ⟨rfl, ⟨nd, rfl⟩⟩) | (go_at_call 35; (with_reducible refine (governorlaw08_right.calls t200 true _ A18.out).mono ?_); rintro e w' ⟨rfl, ⟨nd, rfl⟩⟩) | (go_at_call 23; (with_reducible refine (fixed_Sub.calls a0 a1 t202 _ A20.out).mono ?_); rintro e w' ⟨rfl, ⟨nd, rfl⟩⟩) | (go_at_call 35; (with_reducible refine (governorlaw08_right.calls t202 true _ A21.out).mono ?_); rintro e w' ⟨rfl, ⟨nd, rfl⟩⟩) | (go_at_call 25; (with_reducible refine (fixed_Mul.calls a0 a1 t204 _ A23.out).mono ?_); rintro e w' ⟨rfl, ⟨nd, rfl⟩⟩) | (go_at_call 35; (with_reducible refine (governorlaw08_right.calls t204 true _ A24.out).mono ?_); rintro e w' ⟨rfl, ⟨nd, rfl⟩⟩) | (go_at_call 27; (with_reducible refine (fixed_Div.calls a0 a1 t206 _ A26.out).mono ?_); rintro e w' ⟨rfl, ⟨nd, rfl⟩⟩) | (go_at_call 35; (with_reducible refine (governorlaw08_right.calls t206 true _ A27.out).mono ?_); rintro e w' ⟨rfl, ⟨nd, rfl⟩⟩) | (go_at_call 35; (with_reducible refine (governorlaw08_right.calls t193 true _ A29.out).mono ?_); rintro e w' ⟨rfl, ⟨nd, rfl⟩⟩) | (go_at_call 31; (with_reducible refine (fixed_Up.calls a0 t209 _ A32.out).mono ?_); rintro e w' ⟨rfl, ⟨nd, rfl⟩⟩) | (go_at_call 35; (with_reducible refine (governorlaw08_right.calls t209 true _ A33.out).mono ?_); rintro e w' ⟨rfl, ⟨nd, rfl⟩⟩) | (go_at_call 33; (with_reducible refine (fixed_Near.calls a0 t211 _ A35.out).mono ?_); rintro e w' ⟨rfl, ⟨nd, rfl⟩⟩) | (go_at_call 35; (with_reducible refine (governorlaw08_right.calls t211 true _ A36.out).mono ?_); rintro e w' ⟨rfl, ⟨nd, rfl⟩⟩) | (go_at_call 35; (with_reducible refine (governorlaw08_right.calls a0 true _ A38.out).mono ?_); rintro e w' ⟨rfl, ⟨nd, rfl⟩⟩) | (go_at_call 19; (with_reducible refine (fixed_Sat.calls a0 t214 _ A40.out).mono ?_); rintro e w' ⟨rfl, ⟨nd, rfl⟩⟩; clear A40))
                            go_ret
                            exact ⟨by first | rfl | (simp; done) | (simp [*]; done), by repeat (first | exact Drawn0.refl _ | apply Drawn0.step)⟩
                          · replace c39 := Bool.eq_false_iff.mpr c39
                            subst c39
                            have H1 : (some true) = some r := by rw [if_neg (show ¬ (false = true) by decide)] at H; exact H
                            clear H
                            have H := H1
                            clear H1
                            obtain rfl := Option.some.inj H
                            go_wp2_with (first | (go_at_call 19; (with_reducible refine (fixed_Sat.calls a0 t198 _ A14.out).mono ?_); rintro e w' ⟨rfl, ⟨nd, rfl⟩⟩) | (go_at_call 35; (with_reducible refine (governorlaw08_right.calls t198 true _ A15.out).mono ?_); rintro e w' ⟨rfl, ⟨nd, rfl⟩⟩) | (go_at_call 21; (with_reducible refine (fixed_Add.calls a0 a1 t200 _ A17.out).mono ?_); rintro e w' ⟨rfl, ⟨nd, rfl⟩⟩) | (go_at_call 35; (with_reducible refine (governorlaw08_right.calls t200 true _ A18.out).mono ?_); rintro e w' ⟨rfl, ⟨nd, rfl⟩⟩) | (go_at_call 23; (with_reducible refine (fixed_Sub.calls a0 a1 t202 _ A20.out).mono ?_); rintro e w' ⟨rfl, ⟨nd, rfl⟩⟩) | (go_at_call 35; (with_reducible refine (governorlaw08_right.calls t202 true _ A21.out).mono ?_); rintro e w' ⟨rfl, ⟨nd, rfl⟩⟩) | (go_at_call 25; (with_reducible refine (fixed_Mul.calls a0 a1 t204 _ A23.out).mono ?_); rintro e w' ⟨rfl, ⟨nd, rfl⟩⟩) | (go_at_call 35; (with_reducible refine (governorlaw08_right.calls t204 true _ A24.out).mono ?_); rintro e w' ⟨rfl, ⟨nd, rfl⟩⟩) | (go_at_call 27; (with_reducible refine (fixed_Div.calls a0 a1 t206 _ A26.out).mono ?_); rintro e w' ⟨rfl, ⟨nd, rfl⟩⟩) | (go_at_call 35; (with_reducible refine (governorlaw08_right.calls t206 true _ A27.out).mono ?_); rintro e w' ⟨rfl, ⟨nd, rfl⟩⟩) | (go_at_call 35; (with_reducible refine (governorlaw08_right.calls t193 true _ A29.out).mono ?_); rintro e w' ⟨rfl, ⟨nd, rfl⟩⟩) | (go_at_call 31; (with_reducible refine (fixed_Up.calls a0 t209 _ A32.out).mono ?_); rintro e w' ⟨rfl, ⟨nd, rfl⟩⟩) | (go_at_call 35; (with_reducible refine (governorlaw08_right.calls t209 true _ A33.out).mono ?_); rintro e w' ⟨rfl, ⟨nd, rfl⟩⟩) | (go_at_call 33; (with_reducible refine (fixed_Near.calls a0 t211 _ A35.out).mono ?_); rintro e w' ⟨rfl, ⟨nd, rfl⟩⟩) | (go_at_call 35; (with_reducible refine (governorlaw08_right.calls t211 true _ A36.out).mono ?_); rintro e w' ⟨rfl, ⟨nd, rfl⟩⟩) | (go_at_call 35; (with_reducible refine (governorlaw08_right.calls a0 false _ A38.out).mono ?_); rintro e w' ⟨rfl, ⟨nd, rfl⟩⟩))
                            go_ret
                            exact ⟨by first | rfl | (simp; done) | (simp [*]; done), by repeat (first | exact Drawn0.refl _ | apply Drawn0.step)⟩
                        · replace c37 := Bool.eq_false_iff.mpr c37
                          subst c37
                          have H1 : (some false) = some r := by rw [if_neg (show ¬ (false = true) by decide)] at H; exact H
                          clear H
                          have H := H1
                          clear H1
                          exact absurd (Option.some.inj H) (by rw [HRT.out]; decide)
                      · replace c34 := Bool.eq_false_iff.mpr c34
                        subst c34
                        have H1 : (some false) = some r := by rw [if_neg (show ¬ (false = true) by decide)] at H; exact H
                        clear H
                        have H := H1
                        clear H1
                        exact absurd (Option.some.inj H) (by rw [HRT.out]; decide)
                    · replace c31 := Bool.eq_false_iff.mpr c31
                      subst c31
                      have H1 : (some false) = some r := by rw [if_neg (show ¬ (false = true) by decide)] at H; exact H
                      clear H
                      have H := H1
                      clear H1
                      exact absurd (Option.some.inj H) (by rw [HRT.out]; decide)
                  · replace c30 := Bool.eq_false_iff.mpr c30
                    subst c30
                    have H1 : (some false) = some r := by rw [if_neg (show ¬ (false = true) by decide)] at H; exact H
                    clear H
                    have H := H1
                    clear H1
                    exact absurd (Option.some.inj H) (by rw [HRT.out]; decide)
                · replace c28 := Bool.eq_false_iff.mpr c28
                  subst c28
                  have H1 : (some false) = some r := by rw [if_neg (show ¬ (false = true) by decide)] at H; exact H
                  clear H
                  have H := H1
                  clear H1
                  exact absurd (Option.some.inj H) (by rw [HRT.out]; decide)
              · replace c25 := Bool.eq_false_iff.mpr c25
                subst c25
                have H1 : (some false) = some r := by rw [if_neg (show ¬ (false = true) by decide)] at H; exact H
                clear H
                have H := H1
                clear H1
                exact absurd (Option.some.inj H) (by rw [HRT.out]; decide)
            · replace c22 := Bool.eq_false_iff.mpr c22
              subst c22
              have H1 : (some false) = some r := by rw [if_neg (show ¬ (false = true) by decide)] at H; exact H
              clear H
              have H := H1
              clear H1
              exact absurd (Option.some.inj H) (by rw [HRT.out]; decide)
          · replace c19 := Bool.eq_false_iff.mpr c19
            subst c19
            have H1 : (some false) = some r := by rw [if_neg (show ¬ (false = true) by decide)] at H; exact H
            clear H
            have H := H1
            clear H1
            exact absurd (Option.some.inj H) (by rw [HRT.out]; decide)
        · replace c16 := Bool.eq_false_iff.mpr c16
          subst c16
          have H1 : (some false) = some r := by rw [if_neg (show ¬ (false = true) by decide)] at H; exact H
          clear H
          have H := H1
          clear H1
          exact absurd (Option.some.inj H) (by rw [HRT.out]; decide)
      · replace c13 := Bool.eq_false_iff.mpr c13
        subst c13
        have H1 : (some false) = some r := by rw [if_neg (show ¬ (false = true) by decide)] at H; exact H
        clear H
        have H := H1
        clear H1
        exact absurd (Option.some.inj H) (by rw [HRT.out]; decide)

end Go.Proofs.Ytmdkcadngkbphaa.PAll
