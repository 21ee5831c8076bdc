-- laid by a program of this session (tprint.py) out of the translation and of texts typed by hand; Lean checks it
import Derived.Test.YtgeldfjpafimpaaPAllx0
import Derived.Test.YtgeldfjpafimpaaPAllx14
namespace Go.Proofs.Ytgeldfjpafimpaa.PAll
open Go.RowKit Go.Proofs.YtgeldfjpafimpaaW.PrintWords Go.Proofs.YtgeldfjpafimpaaW.PrintLast Go.Proofs.YtgeldfjpafimpaaW.PrintMore
attribute [local go_sem] max2_int min2_int max_two min_two max_three min_three max_four min_four   -- for this text's walks alone
set_option linter.unusedVariables false
set_option linter.unusedSimpArgs false

/-! ### governorref08_Sub: function 54 -/
def governorref08_Sub.f (a0 : Int) (a1 : Int) : Option (Int) := (governorref08_Sat.f a0).bind fun t327 => ((governorref08_Sat.f a1).bind fun t328 => ((governorref08_Sat.f (wrap64 (t327 - t328))).bind fun t329 => (some t329)))
set_option maxHeartbeats 8000000 in
set_option maxRecDepth 100000 in
theorem governorref08_Sub.calls (a0 : Int) (a1 : Int) (r : Int) (w : World) (h : governorref08_Sub.f a0 a1 = some r) :
    Calls Try.prog 54 #[.int .i64 a0, .int .i64 a1] w fun e w' => e = .returned (.int .i64 r) ∧ Drawn0 w w' := by
  have H : ((governorref08_Sat.f a0).bind fun t327 => ((governorref08_Sat.f a1).bind fun t328 => ((governorref08_Sat.f (wrap64 (t327 - t328))).bind fun t329 => (some t329)))) = some r := h
  clear h
  replace H := Option.bind_eq_some_iff.mp H
  obtain ⟨t327, A30, H⟩ := H
  replace H : ((governorref08_Sat.f a1).bind fun t328 => ((governorref08_Sat.f (wrap64 (t327 - t328))).bind fun t329 => (some t329))) = some r := H
  have A3 := Aside0.mk A30
  clear A30
  replace H := Option.bind_eq_some_iff.mp H
  obtain ⟨t328, A40, H⟩ := H
  replace H : ((governorref08_Sat.f (wrap64 (t327 - t328))).bind fun t329 => (some t329)) = some r := H
  have A4 := Aside0.mk A40
  clear A40
  replace H := Option.bind_eq_some_iff.mp H
  obtain ⟨t329, A50, H⟩ := H
  replace H : (some t329) = some r := H
  have A5 := Aside0.mk A50
  clear A50
  obtain rfl := Option.some.inj H
  go_enter Try.func54, Try.ntmps54
  go_wp2_with (first | ((with_reducible refine gate_callee (f := 60) rfl ?_); refine goesL_ (some 6) rfl rfl Try.func60 (by kernel_rfl) rfl #[.int .i64 a0] rfl (by (try simp only [List.map_toArray, List.map_cons, List.map_nil]); first | done | rfl | (simp only [List.length_drop, List.length_take]; rfl)) ?_; (with_reducible refine (governorref08_Sat.calls a0 t327 _ A3.out).mono ?_); rintro e w' ⟨rfl, ⟨nd, rfl⟩⟩; refine ⟨_, rfl, ?_⟩) | ((with_reducible refine gate_callee (f := 60) rfl ?_); refine goesL_ (some 8) rfl rfl Try.func60 (by kernel_rfl) rfl #[.int .i64 a1] rfl (by (try simp only [List.map_toArray, List.map_cons, List.map_nil]); first | done | rfl | (simp only [List.length_drop, List.length_take]; rfl)) ?_; (with_reducible refine (governorref08_Sat.calls a1 t328 _ A4.out).mono ?_); rintro e w' ⟨rfl, ⟨nd, rfl⟩⟩; refine ⟨_, rfl, ?_⟩) | ((with_reducible refine gate_callee (f := 60) rfl ?_); refine goesL_ (some 10) rfl rfl Try.func60 (by kernel_rfl) rfl #[.int .i64 (wrap64 (t327 - t328))] rfl (by (try simp only [List.map_toArray, List.map_cons, List.map_nil]); first | done | rfl | (simp only [List.length_drop, List.length_take]; rfl)) ?_; (with_reducible refine (governorref08_Sat.calls (wrap64 (t327 - t328)) t329 _ A5.out).mono ?_); rintro e w' ⟨rfl, ⟨nd, rfl⟩⟩; refine ⟨_, rfl, ?_⟩))
  go_ret
  exact ⟨by first | rfl | (simp; done) | (simp [*]; done), by repeat (first | exact Drawn0.refl _ | apply Drawn0.step)⟩

/-! ### governorref08_Near: function 55 -/
def governorref08_Near.f (a0 : Int) : Option (Int) := (governorref08_Sat.f a0).bind fun t330 => (if t330 < 0 then (some (wrap64 (-(wrap64 (Int.tdiv (wrap64 ((wrap64 (-t330)) + 500)) 1000))))) else (some (wrap64 (Int.tdiv (wrap64 (t330 + 500)) 1000))))
set_option maxHeartbeats 8000000 in
set_option maxRecDepth 100000 in
theorem governorref08_Near.calls (a0 : Int) (r : Int) (w : World) (h : governorref08_Near.f a0 = some r) :
    Calls Try.prog 55 #[.int .i64 a0] w fun e w' => e = .returned (.int .i64 r) ∧ Drawn0 w w' := by
  have H : ((governorref08_Sat.f a0).bind fun t330 => (if t330 < 0 then (some (wrap64 (-(wrap64 (Int.tdiv (wrap64 ((wrap64 (-t330)) + 500)) 1000))))) else (some (wrap64 (Int.tdiv (wrap64 (t330 + 500)) 1000))))) = some r := h
  clear h
  replace H := Option.bind_eq_some_iff.mp H
  obtain ⟨t330, A20, H⟩ := H
  replace H : (if t330 < 0 then (some (wrap64 (-(wrap64 (Int.tdiv (wrap64 ((wrap64 (-t330)) + 500)) 1000))))) else (some (wrap64 (Int.tdiv (wrap64 (t330 + 500)) 1000)))) = some r := H
  have A2 := Aside0.mk A20
  clear A20
  by_cases c3 : t330 < 0
  · rw [if_pos c3] at H
    have c3b0 : decide (t330 < 0) = true := decide_eq_true c3
    clear c3
    obtain rfl := Option.some.inj H
    go_enter Try.func55, Try.ntmps55
    go_wp2_with (first | ((with_reducible refine gate_callee (f := 60) rfl ?_); refine goesL_ (some 5) rfl rfl Try.func60 (by kernel_rfl) rfl #[.int .i64 a0] rfl (by (try simp only [List.map_toArray, List.map_cons, List.map_nil]); first | done | rfl | (simp only [List.length_drop, List.length_take]; rfl)) ?_; (with_reducible refine (governorref08_Sat.calls a0 t330 _ A2.out).mono ?_); rintro e w' ⟨rfl, ⟨nd, rfl⟩⟩; refine ⟨_, rfl, ?_⟩))
    go_ret
    exact ⟨by first | rfl | (simp; done) | (simp [*]; done), by repeat (first | exact Drawn0.refl _ | apply Drawn0.step)⟩
  · rw [if_neg c3] at H
    have c3b0 : decide (t330 < 0) = false := decide_eq_false c3
    clear c3
    obtain rfl := Option.some.inj H
    go_enter Try.func55, Try.ntmps55
    go_wp2_with (first | ((with_reducible refine gate_callee (f := 60) rfl ?_); refine goesL_ (some 5) rfl rfl Try.func60 (by kernel_rfl) rfl #[.int .i64 a0] rfl (by (try simp only [List.map_toArray, List.map_cons, List.map_nil]); first | done | rfl | (simp only [List.length_drop, List.length_take]; rfl)) ?_; (with_reducible refine (governorref08_Sat.calls a0 t330 _ A2.out).mono ?_); rintro e w' ⟨rfl, ⟨nd, rfl⟩⟩; refine ⟨_, rfl, ?_⟩))
    go_ret
    exact ⟨by first | rfl | (simp; done) | (simp [*]; done), by repeat (first | exact Drawn0.refl _ | apply Drawn0.step)⟩

end Go.Proofs.Ytgeldfjpafimpaa.PAll
