-- laid by a program of this session (tprint.py) out of the translation and of texts typed by hand; Lean checks it
import Derived.Test.YtgeldfjpafimpaaPAllx0
import Derived.Test.YtgeldfjpafimpaaPAllx14
namespace Go.Proofs.Ytgeldfjpafimpaa.PAll
open Go.RowKit Go.Proofs.YtgeldfjpafimpaaW.PrintWords Go.Proofs.YtgeldfjpafimpaaW.PrintLast Go.Proofs.YtgeldfjpafimpaaW.PrintMore
attribute [local go_sem] max2_int min2_int max_two min_two max_three min_three max_four min_four   -- for this text's walks alone
set_option linter.unusedVariables false
set_option linter.unusedSimpArgs false

/-! ### governorref08_Up: function 50 -/
def governorref08_Up.f (a0 : Int) : Option (Int) := (governorref08_Sat.f a0).bind fun t314 => (if (wrap64 ((wrap64 (Int.tdiv t314 1000)) * 1000)) < t314 then (some (wrap64 ((wrap64 (Int.tdiv t314 1000)) + 1))) else (some (wrap64 (Int.tdiv t314 1000))))
set_option maxHeartbeats 8000000 in
set_option maxRecDepth 100000 in
theorem governorref08_Up.calls (a0 : Int) (r : Int) (w : World) (h : governorref08_Up.f a0 = some r) :
    Calls Try.prog 50 #[.int .i64 a0] w fun e w' => e = .returned (.int .i64 r) ∧ Drawn0 w w' := by
  have H : ((governorref08_Sat.f a0).bind fun t314 => (if (wrap64 ((wrap64 (Int.tdiv t314 1000)) * 1000)) < t314 then (some (wrap64 ((wrap64 (Int.tdiv t314 1000)) + 1))) else (some (wrap64 (Int.tdiv t314 1000))))) = some r := h
  clear h
  replace H := Option.bind_eq_some_iff.mp H
  obtain ⟨t314, A20, H⟩ := H
  replace H : (if (wrap64 ((wrap64 (Int.tdiv t314 1000)) * 1000)) < t314 then (some (wrap64 ((wrap64 (Int.tdiv t314 1000)) + 1))) else (some (wrap64 (Int.tdiv t314 1000)))) = some r := H
  have A2 := Aside0.mk A20
  clear A20
  by_cases c3 : (wrap64 ((wrap64 (Int.tdiv t314 1000)) * 1000)) < t314
  · rw [if_pos c3] at H
    have c3b0 : decide ((wrap64 ((wrap64 (Int.tdiv t314 1000)) * 1000)) < t314) = true := decide_eq_true c3
    clear c3
    obtain rfl := Option.some.inj H
    go_enter Try.func50, Try.ntmps50
    go_wp2_with (first | ((with_reducible refine gate_callee (f := 60) rfl ?_); refine goesL_ (some 6) rfl rfl Try.func60 (by kernel_rfl) rfl #[.int .i64 a0] rfl (by (try simp only [List.map_toArray, List.map_cons, List.map_nil]); first | done | rfl | (simp only [List.length_drop, List.length_take]; rfl)) ?_; (with_reducible refine (governorref08_Sat.calls a0 t314 _ A2.out).mono ?_); rintro e w' ⟨rfl, ⟨nd, rfl⟩⟩; refine ⟨_, rfl, ?_⟩))
    go_ret
    exact ⟨by first | rfl | (simp; done) | (simp [*]; done), by repeat (first | exact Drawn0.refl _ | apply Drawn0.step)⟩
  · rw [if_neg c3] at H
    have c3b0 : decide ((wrap64 ((wrap64 (Int.tdiv t314 1000)) * 1000)) < t314) = false := decide_eq_false c3
    clear c3
    obtain rfl := Option.some.inj H
    go_enter Try.func50, Try.ntmps50
    go_wp2_with (first | ((with_reducible refine gate_callee (f := 60) rfl ?_); refine goesL_ (some 6) rfl rfl Try.func60 (by kernel_rfl) rfl #[.int .i64 a0] rfl (by (try simp only [List.map_toArray, List.map_cons, List.map_nil]); first | done | rfl | (simp only [List.length_drop, List.length_take]; rfl)) ?_; (with_reducible refine (governorref08_Sat.calls a0 t314 _ A2.out).mono ?_); rintro e w' ⟨rfl, ⟨nd, rfl⟩⟩; refine ⟨_, rfl, ?_⟩))
    go_ret
    exact ⟨by first | rfl | (simp; done) | (simp [*]; done), by repeat (first | exact Drawn0.refl _ | apply Drawn0.step)⟩

/-! ### governorref08_Mul: function 51 -/
def governorref08_Mul.f (a0 : Int) (a1 : Int) : Option (Int) := (governorref08_Sat.f a0).bind fun t315 => ((governorref08_Sat.f a1).bind fun t316 => ((governorref08_Sat.f (wrap64 (Int.tdiv (wrap64 (t315 * t316)) 1000))).bind fun t317 => (some t317)))
set_option maxHeartbeats 8000000 in
set_option maxRecDepth 100000 in
theorem governorref08_Mul.calls (a0 : Int) (a1 : Int) (r : Int) (w : World) (h : governorref08_Mul.f a0 a1 = some r) :
    Calls Try.prog 51 #[.int .i64 a0, .int .i64 a1] w fun e w' => e = .returned (.int .i64 r) ∧ Drawn0 w w' := by
  have H : ((governorref08_Sat.f a0).bind fun t315 => ((governorref08_Sat.f a1).bind fun t316 => ((governorref08_Sat.f (wrap64 (Int.tdiv (wrap64 (t315 * t316)) 1000))).bind fun t317 => (some t317)))) = some r := h
  clear h
  replace H := Option.bind_eq_some_iff.mp H
  obtain ⟨t315, A30, H⟩ := H
  replace H : ((governorref08_Sat.f a1).bind fun t316 => ((governorref08_Sat.f (wrap64 (Int.tdiv (wrap64 (t315 * t316)) 1000))).bind fun t317 => (some t317))) = some r := H
  have A3 := Aside0.mk A30
  clear A30
  replace H := Option.bind_eq_some_iff.mp H
  obtain ⟨t316, A40, H⟩ := H
  replace H : ((governorref08_Sat.f (wrap64 (Int.tdiv (wrap64 (t315 * t316)) 1000))).bind fun t317 => (some t317)) = some r := H
  have A4 := Aside0.mk A40
  clear A40
  replace H := Option.bind_eq_some_iff.mp H
  obtain ⟨t317, A50, H⟩ := H
  replace H : (some t317) = some r := H
  have A5 := Aside0.mk A50
  clear A50
  obtain rfl := Option.some.inj H
  go_enter Try.func51, Try.ntmps51
  go_wp2_with (first | ((with_reducible refine gate_callee (f := 60) rfl ?_); refine goesL_ (some 6) rfl rfl Try.func60 (by kernel_rfl) rfl #[.int .i64 a0] rfl (by (try simp only [List.map_toArray, List.map_cons, List.map_nil]); first | done | rfl | (simp only [List.length_drop, List.length_take]; rfl)) ?_; (with_reducible refine (governorref08_Sat.calls a0 t315 _ A3.out).mono ?_); rintro e w' ⟨rfl, ⟨nd, rfl⟩⟩; refine ⟨_, rfl, ?_⟩) | ((with_reducible refine gate_callee (f := 60) rfl ?_); refine goesL_ (some 8) rfl rfl Try.func60 (by kernel_rfl) rfl #[.int .i64 a1] rfl (by (try simp only [List.map_toArray, List.map_cons, List.map_nil]); first | done | rfl | (simp only [List.length_drop, List.length_take]; rfl)) ?_; (with_reducible refine (governorref08_Sat.calls a1 t316 _ A4.out).mono ?_); rintro e w' ⟨rfl, ⟨nd, rfl⟩⟩; refine ⟨_, rfl, ?_⟩) | ((with_reducible refine gate_callee (f := 60) rfl ?_); refine goesL_ (some 11) rfl rfl Try.func60 (by kernel_rfl) rfl #[.int .i64 (wrap64 (Int.tdiv (wrap64 (t315 * t316)) 1000))] rfl (by (try simp only [List.map_toArray, List.map_cons, List.map_nil]); first | done | rfl | (simp only [List.length_drop, List.length_take]; rfl)) ?_; (with_reducible refine (governorref08_Sat.calls (wrap64 (Int.tdiv (wrap64 (t315 * t316)) 1000)) t317 _ A5.out).mono ?_); rintro e w' ⟨rfl, ⟨nd, rfl⟩⟩; refine ⟨_, rfl, ?_⟩))
  go_ret
  exact ⟨by first | rfl | (simp; done) | (simp [*]; done), by repeat (first | exact Drawn0.refl _ | apply Drawn0.step)⟩

end Go.Proofs.Ytgeldfjpafimpaa.PAll
