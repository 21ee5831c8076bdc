-- laid by a program of this session (tprint.py) out of the translation and of texts typed by hand; Lean checks it
import Derived.Test.YtjmmofedcadoiaaPAllx0
import Derived.Test.YtjmmofedcadoiaaPAllx26
namespace Go.Proofs.Ytjmmofedcadoiaa.PAll
open Go.RowKit Go.Proofs.YtjmmofedcadoiaaW.PrintWords Go.Proofs.YtjmmofedcadoiaaW.PrintLast Go.Proofs.YtjmmofedcadoiaaW.PrintMore
attribute [local go_sem] max2_int min2_int max_two min_two max_three min_three max_four min_four   -- for this text's walks alone
set_option linter.unusedVariables false
set_option linter.unusedSimpArgs false

/-! ### governorlaw12_near: function 27 -/
def governorlaw12_near.f (a0 : Int) : Option (Int) := (governorref08_Near.f a0).bind fun t364 => (some (mn (mx t364 (-1000)) 1000))
set_option maxHeartbeats 8000000 in
set_option maxRecDepth 100000 in
theorem governorlaw12_near.calls (a0 : Int) (r : Int) (w : World) (h : governorlaw12_near.f a0 = some r) :
    Calls Try.prog 27 #[.int .i64 a0] w fun e w' => e = .returned (.int .i64 r) ∧ Below w.heap.size w w' := by
  have HB := Aside0.mk (Below.refl w.heap.size w)
  have H : ((governorref08_Near.f a0).bind fun t364 => (some (mn (mx t364 (-1000)) 1000))) = some r := h
  clear h
  replace H := Option.bind_eq_some_iff.mp H
  obtain ⟨t364, A20, H⟩ := H
  replace H : (some (mn (mx t364 (-1000)) 1000)) = some r := H
  have A2 := Aside0.mk A20
  clear A20
  obtain ⟨ji3, hji3⟩ : ∃ j_ : Int, (mx t364 (-1000)) = j_ := ⟨_, rfl⟩
  replace H : (some (mn (ji3) 1000)) = some r := by first | (rw [hji3] at H; exact H) | (simp only [hji3] at H ⊢; exact H)
  (try rw [hji3] at A2)
  have hji3_ : (if t364 < (-1000) then (-1000) else t364) = ji3 := hji3
  obtain ⟨ji4, hji4⟩ : ∃ j_ : Int, (mn (ji3) 1000) = j_ := ⟨_, rfl⟩
  replace H : (some ji4) = some r := by first | (rw [hji4] at H; exact H) | (simp only [hji4] at H ⊢; exact H)
  (try rw [hji4] at A2)
  have hji4_ : (if 1000 < (ji3) then 1000 else (ji3)) = ji4 := hji4
  obtain rfl := Option.some.inj H
  go_enter Try.func27, Try.ntmps27
  go_wp2_with (first | ((with_reducible refine gate_callee (f := 38) rfl ?_); refine goesL_ (some 4) rfl rfl Try.func38 (by kernel_rfl) rfl #[.int .i64 a0] rfl (by (try simp only [List.map_toArray, List.map_cons, List.map_nil]); first | done | rfl | (simp only [List.length_drop, List.length_take]; rfl)) ?_; (with_reducible refine (governorref08_Near.calls a0 t364 _ A2.out).mono ?_); rintro e w' ⟨rfl, ⟨nd, rfl⟩⟩; refine ⟨_, rfl, ?_⟩))
  go_ret
  exact ⟨by first | rfl | (simp [errW_none, errW_some] <;> rfl) | (simp only [← hji3, ← hji4]; first | rfl | (simp [errW_none, errW_some] <;> rfl)) | (simp [*, errW_none, errW_some] <;> rfl) | (have e_ : ji3 = ji4 := (by omega); subst e_; rfl), by repeat (first | (with_reducible first | exact HB.out | apply below_alloc | apply pw_below_drewN | apply below_drew1) | exact HB.out)⟩

end Go.Proofs.Ytjmmofedcadoiaa.PAll
