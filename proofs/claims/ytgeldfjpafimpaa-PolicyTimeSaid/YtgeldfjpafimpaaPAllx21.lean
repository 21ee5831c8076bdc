-- laid by a program of this session (tprint.py) out of the translation and of texts typed by hand; Lean checks it
import Derived.Test.YtgeldfjpafimpaaPAllx0
import Derived.Test.YtgeldfjpafimpaaPAllx6
import Derived.Test.YtgeldfjpafimpaaPAllx17
import Derived.Test.YtgeldfjpafimpaaPAllx18
import Derived.Test.YtgeldfjpafimpaaPAllx19
import Derived.Test.YtgeldfjpafimpaaPAllx20
namespace Go.Proofs.Ytgeldfjpafimpaa.PAll
open Go.RowKit Go.Proofs.YtgeldfjpafimpaaW.PrintWords Go.Proofs.YtgeldfjpafimpaaW.PrintLast Go.Proofs.YtgeldfjpafimpaaW.PrintMore
attribute [local go_sem] max2_int min2_int max_two min_two max_three min_three max_four min_four   -- for this text's walks alone
set_option linter.unusedVariables false
set_option linter.unusedSimpArgs false

/-! ### track_Want: function 65 -/
def track_Want.f (a0 : Int) (a1 : Int) (a2 : Int) : Option (Int) := (track_into_int.f a1 0 1000).bind fun t203 => ((track_into_int64.f a2 0 1000000000).bind fun t204 => ((fixed_Mul.f (wrap64 (1000 * t203)) t204).bind fun t205 => ((track_into_int64.f a0 1 1000000000).bind fun t206 => ((fixed_Div.f t205 t206).bind fun t207 => ((fixed_Up.f t207).bind fun t208 => ((track_into_int.f t208 0 1000).bind fun t209 => (some t209)))))))
set_option maxHeartbeats 8000000 in
set_option maxRecDepth 100000 in
theorem track_Want.calls (a0 : Int) (a1 : Int) (a2 : Int) (r : Int) (w : World) (h : track_Want.f a0 a1 a2 = some r) :
    Calls Try.prog 65 #[.int .i64 a0, .int .i64 a1, .int .i64 a2] w fun e w' => e = .returned (.int .i64 r) ∧ Drawn0 w w' := by
  have H : ((track_into_int.f a1 0 1000).bind fun t203 => ((track_into_int64.f a2 0 1000000000).bind fun t204 => ((fixed_Mul.f (wrap64 (1000 * t203)) t204).bind fun t205 => ((track_into_int64.f a0 1 1000000000).bind fun t206 => ((fixed_Div.f t205 t206).bind fun t207 => ((fixed_Up.f t207).bind fun t208 => ((track_into_int.f t208 0 1000).bind fun t209 => (some t209)))))))) = some r := h
  clear h
  replace H := Option.bind_eq_some_iff.mp H
  obtain ⟨t203, A40, H⟩ := H
  replace H : ((track_into_int64.f a2 0 1000000000).bind fun t204 => ((fixed_Mul.f (wrap64 (1000 * t203)) t204).bind fun t205 => ((track_into_int64.f a0 1 1000000000).bind fun t206 => ((fixed_Div.f t205 t206).bind fun t207 => ((fixed_Up.f t207).bind fun t208 => ((track_into_int.f t208 0 1000).bind fun t209 => (some t209))))))) = some r := H
  have A4 := Aside0.mk A40
  clear A40
  replace H := Option.bind_eq_some_iff.mp H
  obtain ⟨t204, A50, H⟩ := H
  replace H : ((fixed_Mul.f (wrap64 (1000 * t203)) t204).bind fun t205 => ((track_into_int64.f a0 1 1000000000).bind fun t206 => ((fixed_Div.f t205 t206).bind fun t207 => ((fixed_Up.f t207).bind fun t208 => ((track_into_int.f t208 0 1000).bind fun t209 => (some t209)))))) = some r := H
  have A5 := Aside0.mk A50
  clear A50
  replace H := Option.bind_eq_some_iff.mp H
  obtain ⟨t205, A60, H⟩ := H
  replace H : ((track_into_int64.f a0 1 1000000000).bind fun t206 => ((fixed_Div.f t205 t206).bind fun t207 => ((fixed_Up.f t207).bind fun t208 => ((track_into_int.f t208 0 1000).bind fun t209 => (some t209))))) = some r := H
  have A6 := Aside0.mk A60
  clear A60
  replace H := Option.bind_eq_some_iff.mp H
  obtain ⟨t206, A70, H⟩ := H
  replace H : ((fixed_Div.f t205 t206).bind fun t207 => ((fixed_Up.f t207).bind fun t208 => ((track_into_int.f t208 0 1000).bind fun t209 => (some t209)))) = some r := H
  have A7 := Aside0.mk A70
  clear A70
  replace H := Option.bind_eq_some_iff.mp H
  obtain ⟨t207, A80, H⟩ := H
  replace H : ((fixed_Up.f t207).bind fun t208 => ((track_into_int.f t208 0 1000).bind fun t209 => (some t209))) = some r := H
  have A8 := Aside0.mk A80
  clear A80
  replace H := Option.bind_eq_some_iff.mp H
  obtain ⟨t208, A90, H⟩ := H
  replace H : ((track_into_int.f t208 0 1000).bind fun t209 => (some t209)) = some r := H
  have A9 := Aside0.mk A90
  clear A90
  replace H := Option.bind_eq_some_iff.mp H
  obtain ⟨t209, A100, H⟩ := H
  replace H : (some t209) = some r := H
  have A10 := Aside0.mk A100
  clear A100
  obtain rfl := Option.some.inj H
  go_enter Try.func65, Try.ntmps65
  go_wp2_with (first | ((with_reducible refine gate_callee (f := 73) rfl ?_); refine goesL_ (some 10) rfl rfl Try.func73 (by kernel_rfl) rfl #[.int .i64 a1, .int .i64 0, .int .i64 1000] rfl (by (try simp only [List.map_toArray, List.map_cons, List.map_nil]); first | done | rfl | (simp only [List.length_drop, List.length_take]; rfl)) ?_; (with_reducible refine (track_into_int.calls a1 0 1000 t203 _ A4.out).mono ?_); rintro e w' ⟨rfl, ⟨nd, rfl⟩⟩; refine ⟨_, rfl, ?_⟩) | ((with_reducible refine gate_callee (f := 75) rfl ?_); refine goesL_ (some 14) rfl rfl Try.func75 (by kernel_rfl) rfl #[.int .i64 a2, .int .i64 0, .int .i64 1000000000] rfl (by (try simp only [List.map_toArray, List.map_cons, List.map_nil]); first | done | rfl | (simp only [List.length_drop, List.length_take]; rfl)) ?_; (with_reducible refine (track_into_int64.calls a2 0 1000000000 t204 _ A5.out).mono ?_); rintro e w' ⟨rfl, ⟨nd, rfl⟩⟩; refine ⟨_, rfl, ?_⟩) | ((with_reducible refine gate_callee (f := 74) rfl ?_); refine goesL_ (some 15) rfl rfl Try.func74 (by kernel_rfl) rfl #[.int .i64 (wrap64 (1000 * t203)), .int .i64 t204] rfl (by (try simp only [List.map_toArray, List.map_cons, List.map_nil]); first | done | rfl | (simp only [List.length_drop, List.length_take]; rfl)) ?_; (with_reducible refine (fixed_Mul.calls (wrap64 (1000 * t203)) t204 t205 _ A6.out).mono ?_); rintro e w' ⟨rfl, ⟨nd, rfl⟩⟩; refine ⟨_, rfl, ?_⟩) | ((with_reducible refine gate_callee (f := 75) rfl ?_); refine goesL_ (some 18) rfl rfl Try.func75 (by kernel_rfl) rfl #[.int .i64 a0, .int .i64 1, .int .i64 1000000000] rfl (by (try simp only [List.map_toArray, List.map_cons, List.map_nil]); first | done | rfl | (simp only [List.length_drop, List.length_take]; rfl)) ?_; (with_reducible refine (track_into_int64.calls a0 1 1000000000 t206 _ A7.out).mono ?_); rintro e w' ⟨rfl, ⟨nd, rfl⟩⟩; refine ⟨_, rfl, ?_⟩) | ((with_reducible refine gate_callee (f := 42) rfl ?_); refine goesL_ (some 19) rfl rfl Try.func42 (by kernel_rfl) rfl #[.int .i64 t205, .int .i64 t206] rfl (by (try simp only [List.map_toArray, List.map_cons, List.map_nil]); first | done | rfl | (simp only [List.length_drop, List.length_take]; rfl)) ?_; (with_reducible refine (fixed_Div.calls t205 t206 t207 _ A8.out).mono ?_); rintro e w' ⟨rfl, ⟨nd, rfl⟩⟩; refine ⟨_, rfl, ?_⟩) | ((with_reducible refine gate_callee (f := 76) rfl ?_); refine goesL_ (some 20) rfl rfl Try.func76 (by kernel_rfl) rfl #[.int .i64 t207] rfl (by (try simp only [List.map_toArray, List.map_cons, List.map_nil]); first | done | rfl | (simp only [List.length_drop, List.length_take]; rfl)) ?_; (with_reducible refine (fixed_Up.calls t207 t208 _ A9.out).mono ?_); rintro e w' ⟨rfl, ⟨nd, rfl⟩⟩; refine ⟨_, rfl, ?_⟩) | ((with_reducible refine gate_callee (f := 73) rfl ?_); refine goesL_ (some 21) rfl rfl Try.func73 (by kernel_rfl) rfl #[.int .i64 t208, .int .i64 0, .int .i64 1000] rfl (by (try simp only [List.map_toArray, List.map_cons, List.map_nil]); first | done | rfl | (simp only [List.length_drop, List.length_take]; rfl)) ?_; (with_reducible refine (track_into_int.calls t208 0 1000 t209 _ A10.out).mono ?_); rintro e w' ⟨rfl, ⟨nd, rfl⟩⟩; refine ⟨_, rfl, ?_⟩))
  go_ret
  exact ⟨by first | rfl | (simp; done) | (simp [*]; done), by repeat (first | exact Drawn0.refl _ | apply Drawn0.step)⟩

end Go.Proofs.Ytgeldfjpafimpaa.PAll
