-- laid by a program of this session (tprint.py) out of the translation and of texts typed by hand; Lean checks it
import Derived.Test.YtjmmofedcadoiaaPAllx0
namespace Go.Proofs.Ytjmmofedcadoiaa.PAll
open Go.RowKit Go.Proofs.YtjmmofedcadoiaaW.PrintWords Go.Proofs.YtjmmofedcadoiaaW.PrintLast Go.Proofs.YtjmmofedcadoiaaW.PrintMore
attribute [local go_sem] max2_int min2_int max_two min_two max_three min_three max_four min_four   -- for this text's walks alone
set_option linter.unusedVariables false
set_option linter.unusedSimpArgs false

/-! ### governorref08_Sat: function 29 -/
def governorref08_Sat.f (a0 : Int) : Option (Int) := if a0 > 1000000000 then (some 1000000000) else (if a0 < (-1000000000) then (some (-1000000000)) else (some a0))
set_option maxHeartbeats 8000000 in
set_option maxRecDepth 100000 in
theorem governorref08_Sat.calls (a0 : Int) (r : Int) (w : World) (h : governorref08_Sat.f a0 = some r) :
    Calls Try.prog 29 #[.int .i64 a0] w fun e w' => e = .returned (.int .i64 r) ∧ Drawn0 w w' := by
  have H : (if a0 > 1000000000 then (some 1000000000) else (if a0 < (-1000000000) then (some (-1000000000)) else (some a0))) = some r := h
  clear h
  by_cases c2 : a0 > 1000000000
  · rw [if_pos c2] at H
    have c2b0 : decide (1000000000 < a0) = true := decide_eq_true c2
    clear c2
    obtain rfl := Option.some.inj H
    go_enter Try.func29, Try.ntmps29
    go_wp2
    go_ret
    exact ⟨by first | rfl | (simp; done) | (simp [*]; done), by repeat (first | exact Drawn0.refl _ | apply Drawn0.step)⟩
  · rw [if_neg c2] at H
    have c2b0 : decide (1000000000 < a0) = false := decide_eq_false c2
    clear c2
    by_cases c3 : a0 < (-1000000000)
    · rw [if_pos c3] at H
      have c3b0 : decide (a0 < (-1000000000)) = true := decide_eq_true c3
      clear c3
      obtain rfl := Option.some.inj H
      go_enter Try.func29, Try.ntmps29
      go_wp2
      go_ret
      exact ⟨by first | rfl | (simp; done) | (simp [*]; done), by repeat (first | exact Drawn0.refl _ | apply Drawn0.step)⟩
    · rw [if_neg c3] at H
      have c3b0 : decide (a0 < (-1000000000)) = false := decide_eq_false c3
      clear c3
      obtain rfl := Option.some.inj H
      go_enter Try.func29, Try.ntmps29
      go_wp2
      go_ret
      exact ⟨by first | rfl | (simp; done) | (simp [*]; done), by repeat (first | exact Drawn0.refl _ | apply Drawn0.step)⟩

/-! ### governorref08_Sub: function 25 -/
def governorref08_Sub.f (a0 : Int) (a1 : Int) : Option (Int) := (governorref08_Sat.f a0).bind fun t297 => ((governorref08_Sat.f a1).bind fun t298 => ((governorref08_Sat.f (wrap64 (t297 - t298))).bind fun t299 => (some t299)))
set_option maxHeartbeats 8000000 in
set_option maxRecDepth 100000 in
theorem governorref08_Sub.calls (a0 : Int) (a1 : Int) (r : Int) (w : World) (h : governorref08_Sub.f a0 a1 = some r) :
    Calls Try.prog 25 #[.int .i64 a0, .int .i64 a1] w fun e w' => e = .returned (.int .i64 r) ∧ Drawn0 w w' := by
  have H : ((governorref08_Sat.f a0).bind fun t297 => ((governorref08_Sat.f a1).bind fun t298 => ((governorref08_Sat.f (wrap64 (t297 - t298))).bind fun t299 => (some t299)))) = some r := h
  clear h
  replace H := Option.bind_eq_some_iff.mp H
  obtain ⟨t297, A30, H⟩ := H
  replace H : ((governorref08_Sat.f a1).bind fun t298 => ((governorref08_Sat.f (wrap64 (t297 - t298))).bind fun t299 => (some t299))) = some r := H
  have A3 := Aside0.mk A30
  clear A30
  replace H := Option.bind_eq_some_iff.mp H
  obtain ⟨t298, A40, H⟩ := H
  replace H : ((governorref08_Sat.f (wrap64 (t297 - t298))).bind fun t299 => (some t299)) = some r := H
  have A4 := Aside0.mk A40
  clear A40
  replace H := Option.bind_eq_some_iff.mp H
  obtain ⟨t299, A50, H⟩ := H
  replace H : (some t299) = some r := H
  have A5 := Aside0.mk A50
  clear A50
  obtain rfl := Option.some.inj H
  go_enter Try.func25, Try.ntmps25
  go_wp2_with (first | ((with_reducible refine gate_callee (f := 29) rfl ?_); refine goesL_ (some 6) rfl rfl Try.func29 (by kernel_rfl) rfl #[.int .i64 a0] rfl (by (try simp only [List.map_toArray, List.map_cons, List.map_nil]); first | done | rfl | (simp only [List.length_drop, List.length_take]; rfl)) ?_; (with_reducible refine (governorref08_Sat.calls a0 t297 _ A3.out).mono ?_); rintro e w' ⟨rfl, ⟨nd, rfl⟩⟩; refine ⟨_, rfl, ?_⟩) | ((with_reducible refine gate_callee (f := 29) rfl ?_); refine goesL_ (some 8) rfl rfl Try.func29 (by kernel_rfl) rfl #[.int .i64 a1] rfl (by (try simp only [List.map_toArray, List.map_cons, List.map_nil]); first | done | rfl | (simp only [List.length_drop, List.length_take]; rfl)) ?_; (with_reducible refine (governorref08_Sat.calls a1 t298 _ A4.out).mono ?_); rintro e w' ⟨rfl, ⟨nd, rfl⟩⟩; refine ⟨_, rfl, ?_⟩) | ((with_reducible refine gate_callee (f := 29) rfl ?_); refine goesL_ (some 10) rfl rfl Try.func29 (by kernel_rfl) rfl #[.int .i64 (wrap64 (t297 - t298))] rfl (by (try simp only [List.map_toArray, List.map_cons, List.map_nil]); first | done | rfl | (simp only [List.length_drop, List.length_take]; rfl)) ?_; (with_reducible refine (governorref08_Sat.calls (wrap64 (t297 - t298)) t299 _ A5.out).mono ?_); rintro e w' ⟨rfl, ⟨nd, rfl⟩⟩; refine ⟨_, rfl, ?_⟩))
  go_ret
  exact ⟨by first | rfl | (simp; done) | (simp [*]; done), by repeat (first | exact Drawn0.refl _ | apply Drawn0.step)⟩

/-! ### governorref08_Add: function 26 -/
def governorref08_Add.f (a0 : Int) (a1 : Int) : Option (Int) := (governorref08_Sat.f a0).bind fun t300 => ((governorref08_Sat.f a1).bind fun t301 => ((governorref08_Sat.f (wrap64 (t300 + t301))).bind fun t302 => (some t302)))
set_option maxHeartbeats 8000000 in
set_option maxRecDepth 100000 in
theorem governorref08_Add.calls (a0 : Int) (a1 : Int) (r : Int) (w : World) (h : governorref08_Add.f a0 a1 = some r) :
    Calls Try.prog 26 #[.int .i64 a0, .int .i64 a1] w fun e w' => e = .returned (.int .i64 r) ∧ Drawn0 w w' := by
  have H : ((governorref08_Sat.f a0).bind fun t300 => ((governorref08_Sat.f a1).bind fun t301 => ((governorref08_Sat.f (wrap64 (t300 + t301))).bind fun t302 => (some t302)))) = some r := h
  clear h
  replace H := Option.bind_eq_some_iff.mp H
  obtain ⟨t300, A30, H⟩ := H
  replace H : ((governorref08_Sat.f a1).bind fun t301 => ((governorref08_Sat.f (wrap64 (t300 + t301))).bind fun t302 => (some t302))) = some r := H
  have A3 := Aside0.mk A30
  clear A30
  replace H := Option.bind_eq_some_iff.mp H
  obtain ⟨t301, A40, H⟩ := H
  replace H : ((governorref08_Sat.f (wrap64 (t300 + t301))).bind fun t302 => (some t302)) = some r := H
  have A4 := Aside0.mk A40
  clear A40
  replace H := Option.bind_eq_some_iff.mp H
  obtain ⟨t302, A50, H⟩ := H
  replace H : (some t302) = some r := H
  have A5 := Aside0.mk A50
  clear A50
  obtain rfl := Option.some.inj H
  go_enter Try.func26, Try.ntmps26
  go_wp2_with (first | ((with_reducible refine gate_callee (f := 29) rfl ?_); refine goesL_ (some 6) rfl rfl Try.func29 (by kernel_rfl) rfl #[.int .i64 a0] rfl (by (try simp only [List.map_toArray, List.map_cons, List.map_nil]); first | done | rfl | (simp only [List.length_drop, List.length_take]; rfl)) ?_; (with_reducible refine (governorref08_Sat.calls a0 t300 _ A3.out).mono ?_); rintro e w' ⟨rfl, ⟨nd, rfl⟩⟩; refine ⟨_, rfl, ?_⟩) | ((with_reducible refine gate_callee (f := 29) rfl ?_); refine goesL_ (some 8) rfl rfl Try.func29 (by kernel_rfl) rfl #[.int .i64 a1] rfl (by (try simp only [List.map_toArray, List.map_cons, List.map_nil]); first | done | rfl | (simp only [List.length_drop, List.length_take]; rfl)) ?_; (with_reducible refine (governorref08_Sat.calls a1 t301 _ A4.out).mono ?_); rintro e w' ⟨rfl, ⟨nd, rfl⟩⟩; refine ⟨_, rfl, ?_⟩) | ((with_reducible refine gate_callee (f := 29) rfl ?_); refine goesL_ (some 10) rfl rfl Try.func29 (by kernel_rfl) rfl #[.int .i64 (wrap64 (t300 + t301))] rfl (by (try simp only [List.map_toArray, List.map_cons, List.map_nil]); first | done | rfl | (simp only [List.length_drop, List.length_take]; rfl)) ?_; (with_reducible refine (governorref08_Sat.calls (wrap64 (t300 + t301)) t302 _ A5.out).mono ?_); rintro e w' ⟨rfl, ⟨nd, rfl⟩⟩; refine ⟨_, rfl, ?_⟩))
  go_ret
  exact ⟨by first | rfl | (simp; done) | (simp [*]; done), by repeat (first | exact Drawn0.refl _ | apply Drawn0.step)⟩

/-! ### governorref08_Mul: function 28 -/
def governorref08_Mul.f (a0 : Int) (a1 : Int) : Option (Int) := (governorref08_Sat.f a0).bind fun t303 => ((governorref08_Sat.f a1).bind fun t304 => ((governorref08_Sat.f (wrap64 (Int.tdiv (wrap64 (t303 * t304)) 1000))).bind fun t305 => (some t305)))
set_option maxHeartbeats 8000000 in
set_option maxRecDepth 100000 in
theorem governorref08_Mul.calls (a0 : Int) (a1 : Int) (r : Int) (w : World) (h : governorref08_Mul.f a0 a1 = some r) :
    Calls Try.prog 28 #[.int .i64 a0, .int .i64 a1] w fun e w' => e = .returned (.int .i64 r) ∧ Drawn0 w w' := by
  have H : ((governorref08_Sat.f a0).bind fun t303 => ((governorref08_Sat.f a1).bind fun t304 => ((governorref08_Sat.f (wrap64 (Int.tdiv (wrap64 (t303 * t304)) 1000))).bind fun t305 => (some t305)))) = some r := h
  clear h
  replace H := Option.bind_eq_some_iff.mp H
  obtain ⟨t303, A30, H⟩ := H
  replace H : ((governorref08_Sat.f a1).bind fun t304 => ((governorref08_Sat.f (wrap64 (Int.tdiv (wrap64 (t303 * t304)) 1000))).bind fun t305 => (some t305))) = some r := H
  have A3 := Aside0.mk A30
  clear A30
  replace H := Option.bind_eq_some_iff.mp H
  obtain ⟨t304, A40, H⟩ := H
  replace H : ((governorref08_Sat.f (wrap64 (Int.tdiv (wrap64 (t303 * t304)) 1000))).bind fun t305 => (some t305)) = some r := H
  have A4 := Aside0.mk A40
  clear A40
  replace H := Option.bind_eq_some_iff.mp H
  obtain ⟨t305, A50, H⟩ := H
  replace H : (some t305) = some r := H
  have A5 := Aside0.mk A50
  clear A50
  obtain rfl := Option.some.inj H
  go_enter Try.func28, Try.ntmps28
  go_wp2_with (first | ((with_reducible refine gate_callee (f := 29) rfl ?_); refine goesL_ (some 6) rfl rfl Try.func29 (by kernel_rfl) rfl #[.int .i64 a0] rfl (by (try simp only [List.map_toArray, List.map_cons, List.map_nil]); first | done | rfl | (simp only [List.length_drop, List.length_take]; rfl)) ?_; (with_reducible refine (governorref08_Sat.calls a0 t303 _ A3.out).mono ?_); rintro e w' ⟨rfl, ⟨nd, rfl⟩⟩; refine ⟨_, rfl, ?_⟩) | ((with_reducible refine gate_callee (f := 29) rfl ?_); refine goesL_ (some 8) rfl rfl Try.func29 (by kernel_rfl) rfl #[.int .i64 a1] rfl (by (try simp only [List.map_toArray, List.map_cons, List.map_nil]); first | done | rfl | (simp only [List.length_drop, List.length_take]; rfl)) ?_; (with_reducible refine (governorref08_Sat.calls a1 t304 _ A4.out).mono ?_); rintro e w' ⟨rfl, ⟨nd, rfl⟩⟩; refine ⟨_, rfl, ?_⟩) | ((with_reducible refine gate_callee (f := 29) rfl ?_); refine goesL_ (some 11) rfl rfl Try.func29 (by kernel_rfl) rfl #[.int .i64 (wrap64 (Int.tdiv (wrap64 (t303 * t304)) 1000))] rfl (by (try simp only [List.map_toArray, List.map_cons, List.map_nil]); first | done | rfl | (simp only [List.length_drop, List.length_take]; rfl)) ?_; (with_reducible refine (governorref08_Sat.calls (wrap64 (Int.tdiv (wrap64 (t303 * t304)) 1000)) t305 _ A5.out).mono ?_); rintro e w' ⟨rfl, ⟨nd, rfl⟩⟩; refine ⟨_, rfl, ?_⟩))
  go_ret
  exact ⟨by first | rfl | (simp; done) | (simp [*]; done), by repeat (first | exact Drawn0.refl _ | apply Drawn0.step)⟩

/-! ### governorref08_Near: function 38 -/
def governorref08_Near.f (a0 : Int) : Option (Int) := (governorref08_Sat.f a0).bind fun t306 => (if t306 < 0 then (some (wrap64 (-(wrap64 (Int.tdiv (wrap64 ((wrap64 (-t306)) + 500)) 1000))))) else (some (wrap64 (Int.tdiv (wrap64 (t306 + 500)) 1000))))
set_option maxHeartbeats 8000000 in
set_option maxRecDepth 100000 in
theorem governorref08_Near.calls (a0 : Int) (r : Int) (w : World) (h : governorref08_Near.f a0 = some r) :
    Calls Try.prog 38 #[.int .i64 a0] w fun e w' => e = .returned (.int .i64 r) ∧ Drawn0 w w' := by
  have H : ((governorref08_Sat.f a0).bind fun t306 => (if t306 < 0 then (some (wrap64 (-(wrap64 (Int.tdiv (wrap64 ((wrap64 (-t306)) + 500)) 1000))))) else (some (wrap64 (Int.tdiv (wrap64 (t306 + 500)) 1000))))) = some r := h
  clear h
  replace H := Option.bind_eq_some_iff.mp H
  obtain ⟨t306, A20, H⟩ := H
  replace H : (if t306 < 0 then (some (wrap64 (-(wrap64 (Int.tdiv (wrap64 ((wrap64 (-t306)) + 500)) 1000))))) else (some (wrap64 (Int.tdiv (wrap64 (t306 + 500)) 1000)))) = some r := H
  have A2 := Aside0.mk A20
  clear A20
  by_cases c3 : t306 < 0
  · rw [if_pos c3] at H
    have c3b0 : decide (t306 < 0) = true := decide_eq_true c3
    clear c3
    obtain rfl := Option.some.inj H
    go_enter Try.func38, Try.ntmps38
    go_wp2_with (first | ((with_reducible refine gate_callee (f := 29) rfl ?_); refine goesL_ (some 5) rfl rfl Try.func29 (by kernel_rfl) rfl #[.int .i64 a0] rfl (by (try simp only [List.map_toArray, List.map_cons, List.map_nil]); first | done | rfl | (simp only [List.length_drop, List.length_take]; rfl)) ?_; (with_reducible refine (governorref08_Sat.calls a0 t306 _ A2.out).mono ?_); rintro e w' ⟨rfl, ⟨nd, rfl⟩⟩; refine ⟨_, rfl, ?_⟩))
    go_ret
    exact ⟨by first | rfl | (simp; done) | (simp [*]; done), by repeat (first | exact Drawn0.refl _ | apply Drawn0.step)⟩
  · rw [if_neg c3] at H
    have c3b0 : decide (t306 < 0) = false := decide_eq_false c3
    clear c3
    obtain rfl := Option.some.inj H
    go_enter Try.func38, Try.ntmps38
    go_wp2_with (first | ((with_reducible refine gate_callee (f := 29) rfl ?_); refine goesL_ (some 5) rfl rfl Try.func29 (by kernel_rfl) rfl #[.int .i64 a0] rfl (by (try simp only [List.map_toArray, List.map_cons, List.map_nil]); first | done | rfl | (simp only [List.length_drop, List.length_take]; rfl)) ?_; (with_reducible refine (governorref08_Sat.calls a0 t306 _ A2.out).mono ?_); rintro e w' ⟨rfl, ⟨nd, rfl⟩⟩; refine ⟨_, rfl, ?_⟩))
    go_ret
    exact ⟨by first | rfl | (simp; done) | (simp [*]; done), by repeat (first | exact Drawn0.refl _ | apply Drawn0.step)⟩

end Go.Proofs.Ytjmmofedcadoiaa.PAll
