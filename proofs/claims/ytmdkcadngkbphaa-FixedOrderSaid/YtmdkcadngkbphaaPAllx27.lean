-- laid by a program of this session (tprint.py) out of the translation and of texts typed by hand; Lean checks it
import Derived.Test.YtmdkcadngkbphaaPAllx0
import Derived.Test.YtmdkcadngkbphaaPAllx1
import Derived.Test.YtmdkcadngkbphaaPAllx3
import Derived.Test.YtmdkcadngkbphaaPAllx4
import Derived.Test.YtmdkcadngkbphaaPAllx5
import Derived.Test.YtmdkcadngkbphaaPAllx16
import Derived.Test.YtmdkcadngkbphaaPAllx17
import Derived.Test.YtmdkcadngkbphaaPAllx20
import Derived.Test.YtmdkcadngkbphaaPAllx21
namespace Go.Proofs.Ytmdkcadngkbphaa.PAll
open Go.RowKit Go.Proofs.YtmdkcadngkbphaaW.PrintWords Go.Proofs.YtmdkcadngkbphaaW.PrintLast Go.Proofs.YtmdkcadngkbphaaW.PrintMore
attribute [local go_sem] max2_int min2_int max_two min_two max_three min_three max_four min_four   -- for this text's walks alone
set_option linter.unusedVariables false
set_option linter.unusedSimpArgs false

/-! ### governorlaw08_FixedOrder: function 12 -/
def governorlaw08_FixedOrder.j0 : Nat → Bool → Int → Int → Int → Bool → Option (Bool)
  | 0, _, _, _, _, _ => none
  | k + 1, x7, x8, x9, x10, x51 => if x51 = true then (some false) else (if x10 < 0 then (if x7 = true then ((fixed_Mul.f x8 x10).bind fun t248 => ((fixed_Mul.f x9 x10).bind fun t249 => (some (decide (t248 ≥ t249))))) else (some false)) else (if x7 = true then ((fixed_Mul.f x8 x10).bind fun t250 => ((fixed_Mul.f x9 x10).bind fun t251 => (if t250 ≤ t251 then ((fixed_Div.f x8 x10).bind fun t252 => ((fixed_Div.f x9 x10).bind fun t253 => (some (decide (t252 ≤ t253))))) else (some false)))) else (some false)))
def governorlaw08_FixedOrder.f (k : Nat) (a0 : Int) (a1 : Int) (a2 : Int) : Option (Bool) := (governorlaw08_head.f).bind fun t236 => ((fixed_Sat.f (mn a0 a1)).bind fun t237 => ((fixed_Sat.f (mx a0 a1)).bind fun t238 => ((fixed_Sat.f a2).bind fun t239 => ((fixed_Add.f t237 t239).bind fun t240 => ((fixed_Add.f t238 t239).bind fun t241 => (if t240 > t241 then (governorlaw08_FixedOrder.j0 k t236 t237 t238 t239 true) else ((fixed_Sub.f t239 t237).bind fun t242 => ((fixed_Sub.f t239 t238).bind fun t243 => (if t242 < t243 then (governorlaw08_FixedOrder.j0 k t236 t237 t238 t239 true) else ((fixed_Up.f t237).bind fun t244 => ((fixed_Up.f t238).bind fun t245 => (if t244 > t245 then (governorlaw08_FixedOrder.j0 k t236 t237 t238 t239 true) else ((fixed_Near.f t237).bind fun t246 => ((fixed_Near.f t238).bind fun t247 => (governorlaw08_FixedOrder.j0 k t236 t237 t238 t239 (decide (t246 > t247)))))))))))))))))
theorem governorlaw08_FixedOrder.mono_l : ∀ k, (∀ y0 y1 y2 y3 y4, LeO (governorlaw08_FixedOrder.j0 k y0 y1 y2 y3 y4) (governorlaw08_FixedOrder.j0 (k + 1) y0 y1 y2 y3 y4))
  | 0 => fun _ _ _ _ _ r h => by simp [governorlaw08_FixedOrder.j0] at h
  | k + 1 => by
    have ih0 := governorlaw08_FixedOrder.mono_l k
    · intro y0 y1 y2 y3 y4
      unfold governorlaw08_FixedOrder.j0
      repeat' first
      | (with_reducible exact ih0 _ _ _ _ _)
      | (with_reducible exact LeO.refl _)
      | (with_reducible exact LeO.none _)
      | (with_reducible refine LeO.ite ?_ ?_)
      | (with_reducible refine LeO.bind ?_ (fun _ => ?_))
      | exact ih0 _ _ _ _ _
      | exact LeO.none _
      | refine LeO.ite ?_ ?_
      | refine LeO.bind ?_ (fun _ => ?_)
theorem governorlaw08_FixedOrder.mono : ∀ a0 a1 a2 k, LeO (governorlaw08_FixedOrder.f k a0 a1 a2) (governorlaw08_FixedOrder.f (k + 1) a0 a1 a2) := by
  intro a0 a1 a2 k
  have ih0 := governorlaw08_FixedOrder.mono_l k
  unfold governorlaw08_FixedOrder.f
  repeat' first
      | (with_reducible exact ih0 _ _ _ _ _)
      | (with_reducible exact LeO.refl _)
      | (with_reducible exact LeO.none _)
      | (with_reducible refine LeO.ite ?_ ?_)
      | (with_reducible refine LeO.bind ?_ (fun _ => ?_))
      | exact ih0 _ _ _ _ _
      | exact LeO.none _
      | refine LeO.ite ?_ ?_
      | refine LeO.bind ?_ (fun _ => ?_)
set_option maxHeartbeats 8000000 in
set_option maxRecDepth 100000 in
theorem governorlaw08_FixedOrder.calls (k : Nat) (a0 : Int) (a1 : Int) (a2 : Int) (r : Bool) (w : World) (hrT : r = true) (h : governorlaw08_FixedOrder.f k a0 a1 a2 = some r) :
    Calls Try.prog 12 #[.int .i64 a0, .int .i64 a1, .int .i64 a2] w fun e w' => e = .returned (.bool r) ∧ Below w.heap.size w w' := by
  have HB := Aside0.mk (Below.refl w.heap.size w)
  have HRT := Aside0.mk hrT
  clear hrT
  have H : ((governorlaw08_head.f).bind fun t236 => ((fixed_Sat.f (mn a0 a1)).bind fun t237 => ((fixed_Sat.f (mx a0 a1)).bind fun t238 => ((fixed_Sat.f a2).bind fun t239 => ((fixed_Add.f t237 t239).bind fun t240 => ((fixed_Add.f t238 t239).bind fun t241 => (if t240 > t241 then (governorlaw08_FixedOrder.j0 k t236 t237 t238 t239 true) else ((fixed_Sub.f t239 t237).bind fun t242 => ((fixed_Sub.f t239 t238).bind fun t243 => (if t242 < t243 then (governorlaw08_FixedOrder.j0 k t236 t237 t238 t239 true) else ((fixed_Up.f t237).bind fun t244 => ((fixed_Up.f t238).bind fun t245 => (if t244 > t245 then (governorlaw08_FixedOrder.j0 k t236 t237 t238 t239 true) else ((fixed_Near.f t237).bind fun t246 => ((fixed_Near.f t238).bind fun t247 => (governorlaw08_FixedOrder.j0 k t236 t237 t238 t239 (decide (t246 > t247)))))))))))))))))) = some r := h
  clear h
  replace H := Option.bind_eq_some_iff.mp H
  obtain ⟨t236, A40, H⟩ := H
  replace H : ((fixed_Sat.f (mn a0 a1)).bind fun t237 => ((fixed_Sat.f (mx a0 a1)).bind fun t238 => ((fixed_Sat.f a2).bind fun t239 => ((fixed_Add.f t237 t239).bind fun t240 => ((fixed_Add.f t238 t239).bind fun t241 => (if t240 > t241 then (governorlaw08_FixedOrder.j0 k t236 t237 t238 t239 true) else ((fixed_Sub.f t239 t237).bind fun t242 => ((fixed_Sub.f t239 t238).bind fun t243 => (if t242 < t243 then (governorlaw08_FixedOrder.j0 k t236 t237 t238 t239 true) else ((fixed_Up.f t237).bind fun t244 => ((fixed_Up.f t238).bind fun t245 => (if t244 > t245 then (governorlaw08_FixedOrder.j0 k t236 t237 t238 t239 true) else ((fixed_Near.f t237).bind fun t246 => ((fixed_Near.f t238).bind fun t247 => (governorlaw08_FixedOrder.j0 k t236 t237 t238 t239 (decide (t246 > t247))))))))))))))))) = some r := H
  have A4 := Aside0.mk A40
  clear A40
  obtain ⟨ji5, hji5⟩ : ∃ j_ : Int, (mn a0 a1) = j_ := ⟨_, rfl⟩
  replace H : ((fixed_Sat.f (ji5)).bind fun t237 => ((fixed_Sat.f (mx a0 a1)).bind fun t238 => ((fixed_Sat.f a2).bind fun t239 => ((fixed_Add.f t237 t239).bind fun t240 => ((fixed_Add.f t238 t239).bind fun t241 => (if t240 > t241 then (governorlaw08_FixedOrder.j0 k t236 t237 t238 t239 true) else ((fixed_Sub.f t239 t237).bind fun t242 => ((fixed_Sub.f t239 t238).bind fun t243 => (if t242 < t243 then (governorlaw08_FixedOrder.j0 k t236 t237 t238 t239 true) else ((fixed_Up.f t237).bind fun t244 => ((fixed_Up.f t238).bind fun t245 => (if t244 > t245 then (governorlaw08_FixedOrder.j0 k t236 t237 t238 t239 true) else ((fixed_Near.f t237).bind fun t246 => ((fixed_Near.f t238).bind fun t247 => (governorlaw08_FixedOrder.j0 k t236 t237 t238 t239 (decide (t246 > t247))))))))))))))))) = some r := by first | (rw [hji5] at H; exact H) | (simp only [hji5] at H ⊢; exact H)
  (try rw [hji5] at A4)
  have hji5_ : (if a1 < a0 then a1 else a0) = ji5 := hji5
  replace H := Option.bind_eq_some_iff.mp H
  obtain ⟨t237, A60, H⟩ := H
  replace H : ((fixed_Sat.f (mx a0 a1)).bind fun t238 => ((fixed_Sat.f a2).bind fun t239 => ((fixed_Add.f t237 t239).bind fun t240 => ((fixed_Add.f t238 t239).bind fun t241 => (if t240 > t241 then (governorlaw08_FixedOrder.j0 k t236 t237 t238 t239 true) else ((fixed_Sub.f t239 t237).bind fun t242 => ((fixed_Sub.f t239 t238).bind fun t243 => (if t242 < t243 then (governorlaw08_FixedOrder.j0 k t236 t237 t238 t239 true) else ((fixed_Up.f t237).bind fun t244 => ((fixed_Up.f t238).bind fun t245 => (if t244 > t245 then (governorlaw08_FixedOrder.j0 k t236 t237 t238 t239 true) else ((fixed_Near.f t237).bind fun t246 => ((fixed_Near.f t238).bind fun t247 => (governorlaw08_FixedOrder.j0 k t236 t237 t238 t239 (decide (t246 > t247)))))))))))))))) = some r := H
  have A6 := Aside0.mk A60
  clear A60
  obtain ⟨ji7, hji7⟩ : ∃ j_ : Int, (mx a0 a1) = j_ := ⟨_, rfl⟩
  replace H : ((fixed_Sat.f (ji7)).bind fun t238 => ((fixed_Sat.f a2).bind fun t239 => ((fixed_Add.f t237 t239).bind fun t240 => ((fixed_Add.f t238 t239).bind fun t241 => (if t240 > t241 then (governorlaw08_FixedOrder.j0 k t236 t237 t238 t239 true) else ((fixed_Sub.f t239 t237).bind fun t242 => ((fixed_Sub.f t239 t238).bind fun t243 => (if t242 < t243 then (governorlaw08_FixedOrder.j0 k t236 t237 t238 t239 true) else ((fixed_Up.f t237).bind fun t244 => ((fixed_Up.f t238).bind fun t245 => (if t244 > t245 then (governorlaw08_FixedOrder.j0 k t236 t237 t238 t239 true) else ((fixed_Near.f t237).bind fun t246 => ((fixed_Near.f t238).bind fun t247 => (governorlaw08_FixedOrder.j0 k t236 t237 t238 t239 (decide (t246 > t247)))))))))))))))) = some r := by first | (rw [hji7] at H; exact H) | (simp only [hji7] at H ⊢; exact H)
  (try rw [hji7] at A4)
  (try rw [hji7] at A6)
  have hji7_ : (if a0 < a1 then a1 else a0) = ji7 := hji7
  replace H := Option.bind_eq_some_iff.mp H
  obtain ⟨t238, A80, H⟩ := H
  replace H : ((fixed_Sat.f a2).bind fun t239 => ((fixed_Add.f t237 t239).bind fun t240 => ((fixed_Add.f t238 t239).bind fun t241 => (if t240 > t241 then (governorlaw08_FixedOrder.j0 k t236 t237 t238 t239 true) else ((fixed_Sub.f t239 t237).bind fun t242 => ((fixed_Sub.f t239 t238).bind fun t243 => (if t242 < t243 then (governorlaw08_FixedOrder.j0 k t236 t237 t238 t239 true) else ((fixed_Up.f t237).bind fun t244 => ((fixed_Up.f t238).bind fun t245 => (if t244 > t245 then (governorlaw08_FixedOrder.j0 k t236 t237 t238 t239 true) else ((fixed_Near.f t237).bind fun t246 => ((fixed_Near.f t238).bind fun t247 => (governorlaw08_FixedOrder.j0 k t236 t237 t238 t239 (decide (t246 > t247))))))))))))))) = some r := H
  have A8 := Aside0.mk A80
  clear A80
  replace H := Option.bind_eq_some_iff.mp H
  obtain ⟨t239, A90, H⟩ := H
  replace H : ((fixed_Add.f t237 t239).bind fun t240 => ((fixed_Add.f t238 t239).bind fun t241 => (if t240 > t241 then (governorlaw08_FixedOrder.j0 k t236 t237 t238 t239 true) else ((fixed_Sub.f t239 t237).bind fun t242 => ((fixed_Sub.f t239 t238).bind fun t243 => (if t242 < t243 then (governorlaw08_FixedOrder.j0 k t236 t237 t238 t239 true) else ((fixed_Up.f t237).bind fun t244 => ((fixed_Up.f t238).bind fun t245 => (if t244 > t245 then (governorlaw08_FixedOrder.j0 k t236 t237 t238 t239 true) else ((fixed_Near.f t237).bind fun t246 => ((fixed_Near.f t238).bind fun t247 => (governorlaw08_FixedOrder.j0 k t236 t237 t238 t239 (decide (t246 > t247)))))))))))))) = some r := H
  have A9 := Aside0.mk A90
  clear A90
  have HC10 := Aside0.mk H
  clear H
  go_enter Try.func12, Try.ntmps12
  go_upto_region 5 with (first | ((with_reducible refine gate_callee (f := 18) rfl ?_); refine goesL_ (some 11) rfl rfl Try.func18 (by kernel_rfl) rfl #[] rfl (by (try simp only [List.map_toArray, List.map_cons, List.map_nil]); first | done | rfl | (simp only [List.length_drop, List.length_take]; rfl)) ?_; (with_reducible refine (governorlaw08_head.calls  t236 _ A4.out).mono ?_); rintro e w' ⟨rfl, ⟨nd, rfl⟩⟩; refine ⟨_, rfl, ?_⟩) | ((with_reducible refine gate_callee (f := 19) rfl ?_); refine goesL_ (some 15) rfl rfl Try.func19 (by kernel_rfl) rfl #[.int .i64 ji5] rfl (by (try simp only [List.map_toArray, List.map_cons, List.map_nil]); first | done | (simp only [hji5]; rfl) | rfl | (simp only [List.length_drop, List.length_take]; rfl)) ?_; (with_reducible refine (fixed_Sat.calls ji5 t237 _ A6.out).mono ?_); rintro e w' ⟨rfl, ⟨nd, rfl⟩⟩; refine ⟨_, rfl, ?_⟩) | ((with_reducible refine gate_callee (f := 19) rfl ?_); refine goesL_ (some 19) rfl rfl Try.func19 (by kernel_rfl) rfl #[.int .i64 ji7] rfl (by (try simp only [List.map_toArray, List.map_cons, List.map_nil]); first | done | (simp only [hji7]; rfl) | rfl | (simp only [List.length_drop, List.length_take]; rfl)) ?_; (with_reducible refine (fixed_Sat.calls ji7 t238 _ A8.out).mono ?_); rintro e w' ⟨rfl, ⟨nd, rfl⟩⟩; refine ⟨_, rfl, ?_⟩) | ((with_reducible refine gate_callee (f := 19) rfl ?_); refine goesL_ (some 21) rfl rfl Try.func19 (by kernel_rfl) rfl #[.int .i64 a2] rfl (by (try simp only [List.map_toArray, List.map_cons, List.map_nil]); first | done | rfl | (simp only [List.length_drop, List.length_take]; rfl)) ?_; (with_reducible refine (fixed_Sat.calls a2 t239 _ A9.out).mono ?_); rintro e w' ⟨rfl, ⟨nd, rfl⟩⟩; refine ⟨_, rfl, ?_⟩))
  (try simp only [Act.put, List.setIfInBounds_toArray, List.set_cons_zero, List.set_cons_succ])
  go_cut [51] (fun v51 wc => ∃ (kq : Nat) (x51_9 : Bool), v51 = .bool x51_9 ∧ Aside0 (governorlaw08_FixedOrder.j0 kq t236 t237 t238 t239 x51_9 = some r) ∧ Aside0 (kq ≤ k) ∧ Aside0 (Below w.heap.size w wc))
  case first =>
    have H := HC10.out
    clear HC10
    replace H := Option.bind_eq_some_iff.mp H
    obtain ⟨t240, A110, H⟩ := H
    replace H : ((fixed_Add.f t238 t239).bind fun t241 => (if t240 > t241 then (governorlaw08_FixedOrder.j0 k t236 t237 t238 t239 true) else ((fixed_Sub.f t239 t237).bind fun t242 => ((fixed_Sub.f t239 t238).bind fun t243 => (if t242 < t243 then (governorlaw08_FixedOrder.j0 k t236 t237 t238 t239 true) else ((fixed_Up.f t237).bind fun t244 => ((fixed_Up.f t238).bind fun t245 => (if t244 > t245 then (governorlaw08_FixedOrder.j0 k t236 t237 t238 t239 true) else ((fixed_Near.f t237).bind fun t246 => ((fixed_Near.f t238).bind fun t247 => (governorlaw08_FixedOrder.j0 k t236 t237 t238 t239 (decide (t246 > t247))))))))))))) = some r := H
    have A11 := Aside0.mk A110
    clear A110
    replace H := Option.bind_eq_some_iff.mp H
    obtain ⟨t241, A120, H⟩ := H
    replace H : (if t240 > t241 then (governorlaw08_FixedOrder.j0 k t236 t237 t238 t239 true) else ((fixed_Sub.f t239 t237).bind fun t242 => ((fixed_Sub.f t239 t238).bind fun t243 => (if t242 < t243 then (governorlaw08_FixedOrder.j0 k t236 t237 t238 t239 true) else ((fixed_Up.f t237).bind fun t244 => ((fixed_Up.f t238).bind fun t245 => (if t244 > t245 then (governorlaw08_FixedOrder.j0 k t236 t237 t238 t239 true) else ((fixed_Near.f t237).bind fun t246 => ((fixed_Near.f t238).bind fun t247 => (governorlaw08_FixedOrder.j0 k t236 t237 t238 t239 (decide (t246 > t247)))))))))))) = some r := H
    have A12 := Aside0.mk A120
    clear A120
    by_cases c13 : t240 > t241
    · rw [if_pos c13] at H
      have c13b0 : decide (t241 < t240) = true := decide_eq_true c13
      clear c13
      (first | rw [c13b0] | (simp only [i64_w, i32_w]; rw [c13b0]) | skip)
      have H' := Aside0.mk H
      clear H
      go_wp2_with (first | ((with_reducible refine gate_callee (f := 21) rfl ?_); refine goesL_ (some 24) rfl rfl Try.func21 (by kernel_rfl) rfl #[.int .i64 t237, .int .i64 t239] rfl (by (try simp only [List.map_toArray, List.map_cons, List.map_nil]); first | done | rfl | (simp only [List.length_drop, List.length_take]; rfl)) ?_; (with_reducible refine (fixed_Add.calls t237 t239 t240 _ A11.out).mono ?_); rintro e w' ⟨rfl, ⟨nd, rfl⟩⟩; refine ⟨_, rfl, ?_⟩) | ((with_reducible refine gate_callee (f := 21) rfl ?_); refine goesL_ (some 27) rfl rfl Try.func21 (by kernel_rfl) rfl #[.int .i64 t238, .int .i64 t239] rfl (by (try simp only [List.map_toArray, List.map_cons, List.map_nil]); first | done | rfl | (simp only [List.length_drop, List.length_take]; rfl)) ?_; (with_reducible refine (fixed_Add.calls t238 t239 t241 _ A12.out).mono ?_); rintro e w' ⟨rfl, ⟨nd, rfl⟩⟩; refine ⟨_, rfl, ?_⟩))
      go_meet
      case rel => exact ⟨_, (true), (by first | rfl | (simp; done) | (simp [*]; done)), H', ⟨by first | omega | exact Nat.le_refl _⟩, ⟨by repeat (first | (with_reducible first | exact HB.out | apply below_alloc | apply pw_below_drewN | apply below_drew1) | exact HB.out)⟩⟩
    · rw [if_neg c13] at H
      have c13b0 : decide (t241 < t240) = false := decide_eq_false c13
      clear c13
      (first | rw [c13b0] | (simp only [i64_w, i32_w]; rw [c13b0]) | skip)
      replace H := Option.bind_eq_some_iff.mp H
      obtain ⟨t242, A140, H⟩ := H
      replace H : ((fixed_Sub.f t239 t238).bind fun t243 => (if t242 < t243 then (governorlaw08_FixedOrder.j0 k t236 t237 t238 t239 true) else ((fixed_Up.f t237).bind fun t244 => ((fixed_Up.f t238).bind fun t245 => (if t244 > t245 then (governorlaw08_FixedOrder.j0 k t236 t237 t238 t239 true) else ((fixed_Near.f t237).bind fun t246 => ((fixed_Near.f t238).bind fun t247 => (governorlaw08_FixedOrder.j0 k t236 t237 t238 t239 (decide (t246 > t247)))))))))) = some r := H
      have A14 := Aside0.mk A140
      clear A140
      replace H := Option.bind_eq_some_iff.mp H
      obtain ⟨t243, A150, H⟩ := H
      replace H : (if t242 < t243 then (governorlaw08_FixedOrder.j0 k t236 t237 t238 t239 true) else ((fixed_Up.f t237).bind fun t244 => ((fixed_Up.f t238).bind fun t245 => (if t244 > t245 then (governorlaw08_FixedOrder.j0 k t236 t237 t238 t239 true) else ((fixed_Near.f t237).bind fun t246 => ((fixed_Near.f t238).bind fun t247 => (governorlaw08_FixedOrder.j0 k t236 t237 t238 t239 (decide (t246 > t247))))))))) = some r := H
      have A15 := Aside0.mk A150
      clear A150
      by_cases c16 : t242 < t243
      · rw [if_pos c16] at H
        have c16b0 : decide (t242 < t243) = true := decide_eq_true c16
        clear c16
        have H' := Aside0.mk H
        clear H
        go_wp2_with (first | ((with_reducible refine gate_callee (f := 21) rfl ?_); refine goesL_ (some 24) rfl rfl Try.func21 (by kernel_rfl) rfl #[.int .i64 t237, .int .i64 t239] rfl (by (try simp only [List.map_toArray, List.map_cons, List.map_nil]); first | done | rfl | (simp only [List.length_drop, List.length_take]; rfl)) ?_; (with_reducible refine (fixed_Add.calls t237 t239 t240 _ A11.out).mono ?_); rintro e w' ⟨rfl, ⟨nd, rfl⟩⟩; refine ⟨_, rfl, ?_⟩) | ((with_reducible refine gate_callee (f := 21) rfl ?_); refine goesL_ (some 27) rfl rfl Try.func21 (by kernel_rfl) rfl #[.int .i64 t238, .int .i64 t239] rfl (by (try simp only [List.map_toArray, List.map_cons, List.map_nil]); first | done | rfl | (simp only [List.length_drop, List.length_take]; rfl)) ?_; (with_reducible refine (fixed_Add.calls t238 t239 t241 _ A12.out).mono ?_); rintro e w' ⟨rfl, ⟨nd, rfl⟩⟩; refine ⟨_, rfl, ?_⟩) | (go_at_call 23; (with_reducible refine (fixed_Sub.calls t239 t237 t242 _ A14.out).mono ?_); rintro e w' ⟨rfl, ⟨nd, rfl⟩⟩) | (go_at_call 23; (with_reducible refine (fixed_Sub.calls t239 t238 t243 _ A15.out).mono ?_); rintro e w' ⟨rfl, ⟨nd, rfl⟩⟩))
        go_meet
        case rel => exact ⟨_, (true), (by first | rfl | (simp; done) | (simp [*]; done)), H', ⟨by first | omega | exact Nat.le_refl _⟩, ⟨by repeat (first | (with_reducible first | exact HB.out | apply below_alloc | apply pw_below_drewN | apply below_drew1) | exact HB.out)⟩⟩
      · rw [if_neg c16] at H
        have c16b0 : decide (t242 < t243) = false := decide_eq_false c16
        clear c16
        replace H := Option.bind_eq_some_iff.mp H
        obtain ⟨t244, A170, H⟩ := H
        replace H : ((fixed_Up.f t238).bind fun t245 => (if t244 > t245 then (governorlaw08_FixedOrder.j0 k t236 t237 t238 t239 true) else ((fixed_Near.f t237).bind fun t246 => ((fixed_Near.f t238).bind fun t247 => (governorlaw08_FixedOrder.j0 k t236 t237 t238 t239 (decide (t246 > t247))))))) = some r := H
        have A17 := Aside0.mk A170
        clear A170
        replace H := Option.bind_eq_some_iff.mp H
        obtain ⟨t245, A180, H⟩ := H
        replace H : (if t244 > t245 then (governorlaw08_FixedOrder.j0 k t236 t237 t238 t239 true) else ((fixed_Near.f t237).bind fun t246 => ((fixed_Near.f t238).bind fun t247 => (governorlaw08_FixedOrder.j0 k t236 t237 t238 t239 (decide (t246 > t247)))))) = some r := H
        have A18 := Aside0.mk A180
        clear A180
        by_cases c19 : t244 > t245
        · rw [if_pos c19] at H
          have c19b0 : decide (t245 < t244) = true := decide_eq_true c19
          clear c19
          have H' := Aside0.mk H
          clear H
          go_wp2_with (first | ((with_reducible refine gate_callee (f := 21) rfl ?_); refine goesL_ (some 24) rfl rfl Try.func21 (by kernel_rfl) rfl #[.int .i64 t237, .int .i64 t239] rfl (by (try simp only [List.map_toArray, List.map_cons, List.map_nil]); first | done | rfl | (simp only [List.length_drop, List.length_take]; rfl)) ?_; (with_reducible refine (fixed_Add.calls t237 t239 t240 _ A11.out).mono ?_); rintro e w' ⟨rfl, ⟨nd, rfl⟩⟩; refine ⟨_, rfl, ?_⟩) | ((with_reducible refine gate_callee (f := 21) rfl ?_); refine goesL_ (some 27) rfl rfl Try.func21 (by kernel_rfl) rfl #[.int .i64 t238, .int .i64 t239] rfl (by (try simp only [List.map_toArray, List.map_cons, List.map_nil]); first | done | rfl | (simp only [List.length_drop, List.length_take]; rfl)) ?_; (with_reducible refine (fixed_Add.calls t238 t239 t241 _ A12.out).mono ?_); rintro e w' ⟨rfl, ⟨nd, rfl⟩⟩; refine ⟨_, rfl, ?_⟩) | (go_at_call 23; (with_reducible refine (fixed_Sub.calls t239 t237 t242 _ A14.out).mono ?_); rintro e w' ⟨rfl, ⟨nd, rfl⟩⟩) | (go_at_call 23; (with_reducible refine (fixed_Sub.calls t239 t238 t243 _ A15.out).mono ?_); rintro e w' ⟨rfl, ⟨nd, rfl⟩⟩) | (go_at_call 31; (with_reducible refine (fixed_Up.calls t237 t244 _ A17.out).mono ?_); rintro e w' ⟨rfl, ⟨nd, rfl⟩⟩) | (go_at_call 31; (with_reducible refine (fixed_Up.calls t238 t245 _ A18.out).mono ?_); rintro e w' ⟨rfl, ⟨nd, rfl⟩⟩))
          go_meet
          case rel => exact ⟨_, (true), (by first | rfl | (simp; done) | (simp [*]; done)), H', ⟨by first | omega | exact Nat.le_refl _⟩, ⟨by repeat (first | (with_reducible first | exact HB.out | apply below_alloc | apply pw_below_drewN | apply below_drew1) | exact HB.out)⟩⟩
        · rw [if_neg c19] at H
          have c19b0 : decide (t245 < t244) = false := decide_eq_false c19
          clear c19
          replace H := Option.bind_eq_some_iff.mp H
          obtain ⟨t246, A200, H⟩ := H
          replace H : ((fixed_Near.f t238).bind fun t247 => (governorlaw08_FixedOrder.j0 k t236 t237 t238 t239 (decide (t246 > t247)))) = some r := H
          have A20 := Aside0.mk A200
          clear A200
          replace H := Option.bind_eq_some_iff.mp H
          obtain ⟨t247, A210, H⟩ := H
          replace H : (governorlaw08_FixedOrder.j0 k t236 t237 t238 t239 (decide (t246 > t247))) = some r := H
          have A21 := Aside0.mk A210
          clear A210
          have H' := Aside0.mk H
          clear H
          go_wp2_with (first | ((with_reducible refine gate_callee (f := 21) rfl ?_); refine goesL_ (some 24) rfl rfl Try.func21 (by kernel_rfl) rfl #[.int .i64 t237, .int .i64 t239] rfl (by (try simp only [List.map_toArray, List.map_cons, List.map_nil]); first | done | rfl | (simp only [List.length_drop, List.length_take]; rfl)) ?_; (with_reducible refine (fixed_Add.calls t237 t239 t240 _ A11.out).mono ?_); rintro e w' ⟨rfl, ⟨nd, rfl⟩⟩; refine ⟨_, rfl, ?_⟩) | ((with_reducible refine gate_callee (f := 21) rfl ?_); refine goesL_ (some 27) rfl rfl Try.func21 (by kernel_rfl) rfl #[.int .i64 t238, .int .i64 t239] rfl (by (try simp only [List.map_toArray, List.map_cons, List.map_nil]); first | done | rfl | (simp only [List.length_drop, List.length_take]; rfl)) ?_; (with_reducible refine (fixed_Add.calls t238 t239 t241 _ A12.out).mono ?_); rintro e w' ⟨rfl, ⟨nd, rfl⟩⟩; refine ⟨_, rfl, ?_⟩) | (go_at_call 23; (with_reducible refine (fixed_Sub.calls t239 t237 t242 _ A14.out).mono ?_); rintro e w' ⟨rfl, ⟨nd, rfl⟩⟩) | (go_at_call 23; (with_reducible refine (fixed_Sub.calls t239 t238 t243 _ A15.out).mono ?_); rintro e w' ⟨rfl, ⟨nd, rfl⟩⟩) | (go_at_call 31; (with_reducible refine (fixed_Up.calls t237 t244 _ A17.out).mono ?_); rintro e w' ⟨rfl, ⟨nd, rfl⟩⟩) | (go_at_call 31; (with_reducible refine (fixed_Up.calls t238 t245 _ A18.out).mono ?_); rintro e w' ⟨rfl, ⟨nd, rfl⟩⟩) | (go_at_call 33; (with_reducible refine (fixed_Near.calls t237 t246 _ A20.out).mono ?_); rintro e w' ⟨rfl, ⟨nd, rfl⟩⟩) | (go_at_call 33; (with_reducible refine (fixed_Near.calls t238 t247 _ A21.out).mono ?_); rintro e w' ⟨rfl, ⟨nd, rfl⟩⟩))
          go_meet
          case rel => exact ⟨_, (decide (t246 > t247)), (by first | rfl | (simp; done) | (simp [*]; done)), H', ⟨by first | omega | exact Nat.le_refl _⟩, ⟨by repeat (first | (with_reducible first | exact HB.out | apply below_alloc | apply pw_below_drewN | apply below_drew1) | exact HB.out)⟩⟩
  case rest =>
    clear HC10
    try clear c1
    try clear c2
    try clear p2
    try clear c12
    try clear c13
    try clear c13b0
    try clear c16
    try clear c16b0
    try clear c18
    try clear c19
    try clear c19b0
    try clear c21
    obtain ⟨kq, x51_9, rfl, HA, HJ9, HB⟩ := hcut
    cases kq with
    | zero => exact absurd HA.out (by simp [governorlaw08_FixedOrder.j0])
    | succ kj9 =>
      have H := HA.out
      clear HA
      simp only [governorlaw08_FixedOrder.j0] at H
      by_cases c22 : x51_9 = true
      · subst c22
        have H1 : (some false) = some r := by rw [if_pos rfl] at H; exact H
        clear H
        have H := H1
        clear H1
        exact absurd (Option.some.inj H) (by rw [HRT.out]; decide)
      · replace c22 := Bool.eq_false_iff.mpr c22
        subst c22
        have H1 : (if t239 < 0 then (if t236 = true then ((fixed_Mul.f t237 t239).bind fun t248 => ((fixed_Mul.f t238 t239).bind fun t249 => (some (decide (t248 ≥ t249))))) else (some false)) else (if t236 = true then ((fixed_Mul.f t237 t239).bind fun t250 => ((fixed_Mul.f t238 t239).bind fun t251 => (if t250 ≤ t251 then ((fixed_Div.f t237 t239).bind fun t252 => ((fixed_Div.f t238 t239).bind fun t253 => (some (decide (t252 ≤ t253))))) else (some false)))) else (some false))) = some r := by rw [if_neg (show ¬ (false = true) by decide)] at H; exact H
        clear H
        have H := H1
        clear H1
        by_cases c23 : t239 < 0
        · rw [if_pos c23] at H
          have c23b0 : decide (t239 < 0) = true := decide_eq_true c23
          clear c23
          by_cases c24 : t236 = true
          · subst c24
            have H1 : ((fixed_Mul.f t237 t239).bind fun t248 => ((fixed_Mul.f t238 t239).bind fun t249 => (some (decide (t248 ≥ t249))))) = some r := by rw [if_pos rfl] at H; exact H
            clear H
            have H := H1
            clear H1
            replace H := Option.bind_eq_some_iff.mp H
            obtain ⟨t248, A250, H⟩ := H
            replace H : ((fixed_Mul.f t238 t239).bind fun t249 => (some (decide (t248 ≥ t249)))) = some r := H
            have A25 := Aside0.mk A250
            clear A250
            replace H := Option.bind_eq_some_iff.mp H
            obtain ⟨t249, A260, H⟩ := H
            replace H : (some (decide (t248 ≥ t249))) = some r := H
            have A26 := Aside0.mk A260
            clear A260
            obtain rfl := Option.some.inj H
            go_wp2_with (first | (go_at_call 25; (with_reducible refine (fixed_Mul.calls t237 t239 t248 _ A25.out).mono ?_); rintro e w' ⟨rfl, ⟨nd, rfl⟩⟩) | (go_at_call 25; (with_reducible refine (fixed_Mul.calls t238 t239 t249 _ A26.out).mono ?_); rintro e w' ⟨rfl, ⟨nd, rfl⟩⟩))
            go_ret
            exact ⟨by first | rfl | (simp [errW_none, errW_some] <;> rfl) | (simp only [← hji5, ← hji7]; first | rfl | (simp [errW_none, errW_some] <;> rfl)) | (simp [*, errW_none, errW_some] <;> rfl), by repeat (first | (with_reducible first | exact HB.out | apply below_alloc | apply pw_below_drewN | apply below_drew1) | exact HB.out)⟩
          · replace c24 := Bool.eq_false_iff.mpr c24
            subst c24
            have H1 : (some false) = some r := by rw [if_neg (show ¬ (false = true) by decide)] at H; exact H
            clear H
            have H := H1
            clear H1
            exact absurd (Option.some.inj H) (by rw [HRT.out]; decide)
        · rw [if_neg c23] at H
          have c23b0 : decide (t239 < 0) = false := decide_eq_false c23
          clear c23
          by_cases c27 : t236 = true
          · subst c27
            have H1 : ((fixed_Mul.f t237 t239).bind fun t250 => ((fixed_Mul.f t238 t239).bind fun t251 => (if t250 ≤ t251 then ((fixed_Div.f t237 t239).bind fun t252 => ((fixed_Div.f t238 t239).bind fun t253 => (some (decide (t252 ≤ t253))))) else (some false)))) = some r := by rw [if_pos rfl] at H; exact H
            clear H
            have H := H1
            clear H1
            replace H := Option.bind_eq_some_iff.mp H
            obtain ⟨t250, A280, H⟩ := H
            replace H : ((fixed_Mul.f t238 t239).bind fun t251 => (if t250 ≤ t251 then ((fixed_Div.f t237 t239).bind fun t252 => ((fixed_Div.f t238 t239).bind fun t253 => (some (decide (t252 ≤ t253))))) else (some false))) = some r := H
            have A28 := Aside0.mk A280
            clear A280
            replace H := Option.bind_eq_some_iff.mp H
            obtain ⟨t251, A290, H⟩ := H
            replace H : (if t250 ≤ t251 then ((fixed_Div.f t237 t239).bind fun t252 => ((fixed_Div.f t238 t239).bind fun t253 => (some (decide (t252 ≤ t253))))) else (some false)) = some r := H
            have A29 := Aside0.mk A290
            clear A290
            by_cases c30 : t250 ≤ t251
            · rw [if_pos c30] at H
              have c30b0 : decide (t250 ≤ t251) = true := decide_eq_true c30
              clear c30
              replace H := Option.bind_eq_some_iff.mp H
              obtain ⟨t252, A310, H⟩ := H
              replace H : ((fixed_Div.f t238 t239).bind fun t253 => (some (decide (t252 ≤ t253)))) = some r := H
              have A31 := Aside0.mk A310
              clear A310
              replace H := Option.bind_eq_some_iff.mp H
              obtain ⟨t253, A320, H⟩ := H
              replace H : (some (decide (t252 ≤ t253))) = some r := H
              have A32 := Aside0.mk A320
              clear A320
              obtain rfl := Option.some.inj H
              go_wp2_with (first | (go_at_call 25; (with_reducible refine (fixed_Mul.calls t237 t239 t250 _ A28.out).mono ?_); rintro e w' ⟨rfl, ⟨nd, rfl⟩⟩) | (go_at_call 25; (with_reducible refine (fixed_Mul.calls t238 t239 t251 _ A29.out).mono ?_); rintro e w' ⟨rfl, ⟨nd, rfl⟩⟩) | (go_at_call 27; (with_reducible refine (fixed_Div.calls t237 t239 t252 _ A31.out).mono ?_); rintro e w' ⟨rfl, ⟨nd, rfl⟩⟩) | (go_at_call 27; (with_reducible refine (fixed_Div.calls t238 t239 t253 _ A32.out).mono ?_); rintro e w' ⟨rfl, ⟨nd, rfl⟩⟩))
              go_ret
              exact ⟨by first | rfl | (simp [errW_none, errW_some] <;> rfl) | (simp only [← hji5, ← hji7]; first | rfl | (simp [errW_none, errW_some] <;> rfl)) | (simp [*, errW_none, errW_some] <;> rfl), by repeat (first | (with_reducible first | exact HB.out | apply below_alloc | apply pw_below_drewN | apply below_drew1) | exact HB.out)⟩
            · rw [if_neg c30] at H
              have c30b0 : decide (t250 ≤ t251) = false := decide_eq_false c30
              clear c30
              exact absurd (Option.some.inj H) (by rw [HRT.out]; decide)
          · replace c27 := Bool.eq_false_iff.mpr c27
            subst c27
            have H1 : (some false) = some r := by rw [if_neg (show ¬ (false = true) by decide)] at H; exact H
            clear H
            have H := H1
            clear H1
            exact absurd (Option.some.inj H) (by rw [HRT.out]; decide)

end Go.Proofs.Ytmdkcadngkbphaa.PAll
