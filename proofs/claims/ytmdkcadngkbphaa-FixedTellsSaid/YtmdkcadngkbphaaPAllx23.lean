-- laid by a program of this session (tprint.py) out of the translation and of texts typed by hand; Lean checks it
import Derived.Test.YtmdkcadngkbphaaPAllx0
import Derived.Test.YtmdkcadngkbphaaPAllx1
import Derived.Test.YtmdkcadngkbphaaPAllx3
import Derived.Test.YtmdkcadngkbphaaPAllx4
import Derived.Test.YtmdkcadngkbphaaPAllx5
import Derived.Test.YtmdkcadngkbphaaPAllx8
import Derived.Test.YtmdkcadngkbphaaPAllx16
import Derived.Test.YtmdkcadngkbphaaPAllx17
import Derived.Test.YtmdkcadngkbphaaPAllx18
import Derived.Test.YtmdkcadngkbphaaPAllx20
import Derived.Test.YtmdkcadngkbphaaPAllx21
import Derived.Test.YtmdkcadngkbphaaPAllx22
namespace Go.Proofs.Ytmdkcadngkbphaa.PAll
open Go.RowKit Go.Proofs.YtmdkcadngkbphaaW.PrintWords Go.Proofs.YtmdkcadngkbphaaW.PrintLast Go.Proofs.YtmdkcadngkbphaaW.PrintMore
attribute [local go_sem] max2_int min2_int max_two min_two max_three min_three max_four min_four   -- for this text's walks alone
set_option linter.unusedVariables false
set_option linter.unusedSimpArgs false

/-! ### governorlaw08_FixedTells: function 9 -/
def governorlaw08_FixedTells.f (k : Nat) (a0 : Int) (a1 : Int) (a2 : Int) : Option (Bool) := (governorlaw08_head.f).bind fun t175 => (if t175 = true then ((fixed_Sat.f a0).bind fun t176 => ((governorref08_Sat.f a0).bind fun t177 => (if t176 = t177 then ((fixed_Add.f a0 a1).bind fun t178 => ((governorref08_Add.f a0 a1).bind fun t179 => (if t178 = t179 then ((fixed_Sub.f a0 a1).bind fun t180 => ((governorref08_Sub.f a0 a1).bind fun t181 => (if t180 = t181 then ((fixed_Mul.f a0 a1).bind fun t182 => ((governorref08_Mul.f a0 a1).bind fun t183 => (if t182 = t183 then ((fixed_Div.f a0 a1).bind fun t184 => ((governorref08_Div.f k a0 a1).bind fun t185 => (if t184 = t185 then ((fixed_Clamp.f a0 a1 a2).bind fun t186 => ((governorref08_Clamp.f a0 a1 a2).bind fun t187 => (if t186 = t187 then ((fixed_Up.f a0).bind fun t188 => ((governorref08_Up.f a0).bind fun t189 => (if t188 = t189 then ((fixed_Near.f a0).bind fun t190 => ((governorref08_Near.f a0).bind fun t191 => (some (t190 == t191)))) else (some false)))) else (some false)))) else (some false)))) else (some false)))) else (some false)))) else (some false)))) else (some false)))) else (some false))
theorem governorlaw08_FixedTells.mono : ∀ a0 a1 a2 k, LeO (governorlaw08_FixedTells.f k a0 a1 a2) (governorlaw08_FixedTells.f (k + 1) a0 a1 a2) := by
  intro a0 a1 a2 k
  unfold governorlaw08_FixedTells.f
  repeat' first
      | (with_reducible exact governorref08_Div.mono _ _ _)
      | (with_reducible exact LeO.refl _)
      | (with_reducible exact LeO.none _)
      | (with_reducible refine LeO.ite ?_ ?_)
      | (with_reducible refine LeO.bind ?_ (fun _ => ?_))
      | exact governorref08_Div.mono _ _ _
      | exact LeO.none _
      | refine LeO.ite ?_ ?_
      | refine LeO.bind ?_ (fun _ => ?_)
set_option maxHeartbeats 8000000 in
set_option maxRecDepth 100000 in
theorem governorlaw08_FixedTells.calls (k : Nat) (a0 : Int) (a1 : Int) (a2 : Int) (r : Bool) (w : World) (hrT : r = true) (h : governorlaw08_FixedTells.f k a0 a1 a2 = some r) :
    Calls Try.prog 9 #[.int .i64 a0, .int .i64 a1, .int .i64 a2] w fun e w' => e = .returned (.bool r) ∧ Drawn0 w w' := by
  have HRT := Aside0.mk hrT
  clear hrT
  have H : ((governorlaw08_head.f).bind fun t175 => (if t175 = true then ((fixed_Sat.f a0).bind fun t176 => ((governorref08_Sat.f a0).bind fun t177 => (if t176 = t177 then ((fixed_Add.f a0 a1).bind fun t178 => ((governorref08_Add.f a0 a1).bind fun t179 => (if t178 = t179 then ((fixed_Sub.f a0 a1).bind fun t180 => ((governorref08_Sub.f a0 a1).bind fun t181 => (if t180 = t181 then ((fixed_Mul.f a0 a1).bind fun t182 => ((governorref08_Mul.f a0 a1).bind fun t183 => (if t182 = t183 then ((fixed_Div.f a0 a1).bind fun t184 => ((governorref08_Div.f k a0 a1).bind fun t185 => (if t184 = t185 then ((fixed_Clamp.f a0 a1 a2).bind fun t186 => ((governorref08_Clamp.f a0 a1 a2).bind fun t187 => (if t186 = t187 then ((fixed_Up.f a0).bind fun t188 => ((governorref08_Up.f a0).bind fun t189 => (if t188 = t189 then ((fixed_Near.f a0).bind fun t190 => ((governorref08_Near.f a0).bind fun t191 => (some (t190 == t191)))) else (some false)))) else (some false)))) else (some false)))) else (some false)))) else (some false)))) else (some false)))) else (some false)))) else (some false))) = some r := h
  clear h
  replace H := Option.bind_eq_some_iff.mp H
  obtain ⟨t175, A40, H⟩ := H
  replace H : (if t175 = true then ((fixed_Sat.f a0).bind fun t176 => ((governorref08_Sat.f a0).bind fun t177 => (if t176 = t177 then ((fixed_Add.f a0 a1).bind fun t178 => ((governorref08_Add.f a0 a1).bind fun t179 => (if t178 = t179 then ((fixed_Sub.f a0 a1).bind fun t180 => ((governorref08_Sub.f a0 a1).bind fun t181 => (if t180 = t181 then ((fixed_Mul.f a0 a1).bind fun t182 => ((governorref08_Mul.f a0 a1).bind fun t183 => (if t182 = t183 then ((fixed_Div.f a0 a1).bind fun t184 => ((governorref08_Div.f k a0 a1).bind fun t185 => (if t184 = t185 then ((fixed_Clamp.f a0 a1 a2).bind fun t186 => ((governorref08_Clamp.f a0 a1 a2).bind fun t187 => (if t186 = t187 then ((fixed_Up.f a0).bind fun t188 => ((governorref08_Up.f a0).bind fun t189 => (if t188 = t189 then ((fixed_Near.f a0).bind fun t190 => ((governorref08_Near.f a0).bind fun t191 => (some (t190 == t191)))) else (some false)))) else (some false)))) else (some false)))) else (some false)))) else (some false)))) else (some false)))) else (some false)))) else (some false)) = some r := H
  have A4 := Aside0.mk A40
  clear A40
  by_cases c5 : t175 = true
  · subst c5
    have H1 : ((fixed_Sat.f a0).bind fun t176 => ((governorref08_Sat.f a0).bind fun t177 => (if t176 = t177 then ((fixed_Add.f a0 a1).bind fun t178 => ((governorref08_Add.f a0 a1).bind fun t179 => (if t178 = t179 then ((fixed_Sub.f a0 a1).bind fun t180 => ((governorref08_Sub.f a0 a1).bind fun t181 => (if t180 = t181 then ((fixed_Mul.f a0 a1).bind fun t182 => ((governorref08_Mul.f a0 a1).bind fun t183 => (if t182 = t183 then ((fixed_Div.f a0 a1).bind fun t184 => ((governorref08_Div.f k a0 a1).bind fun t185 => (if t184 = t185 then ((fixed_Clamp.f a0 a1 a2).bind fun t186 => ((governorref08_Clamp.f a0 a1 a2).bind fun t187 => (if t186 = t187 then ((fixed_Up.f a0).bind fun t188 => ((governorref08_Up.f a0).bind fun t189 => (if t188 = t189 then ((fixed_Near.f a0).bind fun t190 => ((governorref08_Near.f a0).bind fun t191 => (some (t190 == t191)))) else (some false)))) else (some false)))) else (some false)))) else (some false)))) else (some false)))) else (some false)))) else (some false)))) = some r := by rw [if_pos rfl] at H; exact H
    clear H
    have H := H1
    clear H1
    replace H := Option.bind_eq_some_iff.mp H
    obtain ⟨t176, A60, H⟩ := H
    replace H : ((governorref08_Sat.f a0).bind fun t177 => (if t176 = t177 then ((fixed_Add.f a0 a1).bind fun t178 => ((governorref08_Add.f a0 a1).bind fun t179 => (if t178 = t179 then ((fixed_Sub.f a0 a1).bind fun t180 => ((governorref08_Sub.f a0 a1).bind fun t181 => (if t180 = t181 then ((fixed_Mul.f a0 a1).bind fun t182 => ((governorref08_Mul.f a0 a1).bind fun t183 => (if t182 = t183 then ((fixed_Div.f a0 a1).bind fun t184 => ((governorref08_Div.f k a0 a1).bind fun t185 => (if t184 = t185 then ((fixed_Clamp.f a0 a1 a2).bind fun t186 => ((governorref08_Clamp.f a0 a1 a2).bind fun t187 => (if t186 = t187 then ((fixed_Up.f a0).bind fun t188 => ((governorref08_Up.f a0).bind fun t189 => (if t188 = t189 then ((fixed_Near.f a0).bind fun t190 => ((governorref08_Near.f a0).bind fun t191 => (some (t190 == t191)))) else (some false)))) else (some false)))) else (some false)))) else (some false)))) else (some false)))) else (some false)))) else (some false))) = some r := H
    have A6 := Aside0.mk A60
    clear A60
    replace H := Option.bind_eq_some_iff.mp H
    obtain ⟨t177, A70, H⟩ := H
    replace H : (if t176 = t177 then ((fixed_Add.f a0 a1).bind fun t178 => ((governorref08_Add.f a0 a1).bind fun t179 => (if t178 = t179 then ((fixed_Sub.f a0 a1).bind fun t180 => ((governorref08_Sub.f a0 a1).bind fun t181 => (if t180 = t181 then ((fixed_Mul.f a0 a1).bind fun t182 => ((governorref08_Mul.f a0 a1).bind fun t183 => (if t182 = t183 then ((fixed_Div.f a0 a1).bind fun t184 => ((governorref08_Div.f k a0 a1).bind fun t185 => (if t184 = t185 then ((fixed_Clamp.f a0 a1 a2).bind fun t186 => ((governorref08_Clamp.f a0 a1 a2).bind fun t187 => (if t186 = t187 then ((fixed_Up.f a0).bind fun t188 => ((governorref08_Up.f a0).bind fun t189 => (if t188 = t189 then ((fixed_Near.f a0).bind fun t190 => ((governorref08_Near.f a0).bind fun t191 => (some (t190 == t191)))) else (some false)))) else (some false)))) else (some false)))) else (some false)))) else (some false)))) else (some false)))) else (some false)) = some r := H
    have A7 := Aside0.mk A70
    clear A70
    by_cases c8 : t176 = t177
    · rw [if_pos c8] at H
      have c8b0 : (t176 == t177) = true := beq_iff_eq.mpr c8
      have c8b1 : (t176 != t177) = false := bne_eq_false_iff_eq.mpr c8
      clear c8
      replace H := Option.bind_eq_some_iff.mp H
      obtain ⟨t178, A90, H⟩ := H
      replace H : ((governorref08_Add.f a0 a1).bind fun t179 => (if t178 = t179 then ((fixed_Sub.f a0 a1).bind fun t180 => ((governorref08_Sub.f a0 a1).bind fun t181 => (if t180 = t181 then ((fixed_Mul.f a0 a1).bind fun t182 => ((governorref08_Mul.f a0 a1).bind fun t183 => (if t182 = t183 then ((fixed_Div.f a0 a1).bind fun t184 => ((governorref08_Div.f k a0 a1).bind fun t185 => (if t184 = t185 then ((fixed_Clamp.f a0 a1 a2).bind fun t186 => ((governorref08_Clamp.f a0 a1 a2).bind fun t187 => (if t186 = t187 then ((fixed_Up.f a0).bind fun t188 => ((governorref08_Up.f a0).bind fun t189 => (if t188 = t189 then ((fixed_Near.f a0).bind fun t190 => ((governorref08_Near.f a0).bind fun t191 => (some (t190 == t191)))) else (some false)))) else (some false)))) else (some false)))) else (some false)))) else (some false)))) else (some false))) = some r := H
      have A9 := Aside0.mk A90
      clear A90
      replace H := Option.bind_eq_some_iff.mp H
      obtain ⟨t179, A100, H⟩ := H
      replace H : (if t178 = t179 then ((fixed_Sub.f a0 a1).bind fun t180 => ((governorref08_Sub.f a0 a1).bind fun t181 => (if t180 = t181 then ((fixed_Mul.f a0 a1).bind fun t182 => ((governorref08_Mul.f a0 a1).bind fun t183 => (if t182 = t183 then ((fixed_Div.f a0 a1).bind fun t184 => ((governorref08_Div.f k a0 a1).bind fun t185 => (if t184 = t185 then ((fixed_Clamp.f a0 a1 a2).bind fun t186 => ((governorref08_Clamp.f a0 a1 a2).bind fun t187 => (if t186 = t187 then ((fixed_Up.f a0).bind fun t188 => ((governorref08_Up.f a0).bind fun t189 => (if t188 = t189 then ((fixed_Near.f a0).bind fun t190 => ((governorref08_Near.f a0).bind fun t191 => (some (t190 == t191)))) else (some false)))) else (some false)))) else (some false)))) else (some false)))) else (some false)))) else (some false)) = some r := H
      have A10 := Aside0.mk A100
      clear A100
      by_cases c11 : t178 = t179
      · rw [if_pos c11] at H
        have c11b0 : (t178 == t179) = true := beq_iff_eq.mpr c11
        have c11b1 : (t178 != t179) = false := bne_eq_false_iff_eq.mpr c11
        clear c11
        replace H := Option.bind_eq_some_iff.mp H
        obtain ⟨t180, A120, H⟩ := H
        replace H : ((governorref08_Sub.f a0 a1).bind fun t181 => (if t180 = t181 then ((fixed_Mul.f a0 a1).bind fun t182 => ((governorref08_Mul.f a0 a1).bind fun t183 => (if t182 = t183 then ((fixed_Div.f a0 a1).bind fun t184 => ((governorref08_Div.f k a0 a1).bind fun t185 => (if t184 = t185 then ((fixed_Clamp.f a0 a1 a2).bind fun t186 => ((governorref08_Clamp.f a0 a1 a2).bind fun t187 => (if t186 = t187 then ((fixed_Up.f a0).bind fun t188 => ((governorref08_Up.f a0).bind fun t189 => (if t188 = t189 then ((fixed_Near.f a0).bind fun t190 => ((governorref08_Near.f a0).bind fun t191 => (some (t190 == t191)))) else (some false)))) else (some false)))) else (some false)))) else (some false)))) else (some false))) = some r := H
        have A12 := Aside0.mk A120
        clear A120
        replace H := Option.bind_eq_some_iff.mp H
        obtain ⟨t181, A130, H⟩ := H
        replace H : (if t180 = t181 then ((fixed_Mul.f a0 a1).bind fun t182 => ((governorref08_Mul.f a0 a1).bind fun t183 => (if t182 = t183 then ((fixed_Div.f a0 a1).bind fun t184 => ((governorref08_Div.f k a0 a1).bind fun t185 => (if t184 = t185 then ((fixed_Clamp.f a0 a1 a2).bind fun t186 => ((governorref08_Clamp.f a0 a1 a2).bind fun t187 => (if t186 = t187 then ((fixed_Up.f a0).bind fun t188 => ((governorref08_Up.f a0).bind fun t189 => (if t188 = t189 then ((fixed_Near.f a0).bind fun t190 => ((governorref08_Near.f a0).bind fun t191 => (some (t190 == t191)))) else (some false)))) else (some false)))) else (some false)))) else (some false)))) else (some false)) = some r := H
        have A13 := Aside0.mk A130
        clear A130
        by_cases c14 : t180 = t181
        · rw [if_pos c14] at H
          have c14b0 : (t180 == t181) = true := beq_iff_eq.mpr c14
          have c14b1 : (t180 != t181) = false := bne_eq_false_iff_eq.mpr c14
          clear c14
          replace H := Option.bind_eq_some_iff.mp H
          obtain ⟨t182, A150, H⟩ := H
          replace H : ((governorref08_Mul.f a0 a1).bind fun t183 => (if t182 = t183 then ((fixed_Div.f a0 a1).bind fun t184 => ((governorref08_Div.f k a0 a1).bind fun t185 => (if t184 = t185 then ((fixed_Clamp.f a0 a1 a2).bind fun t186 => ((governorref08_Clamp.f a0 a1 a2).bind fun t187 => (if t186 = t187 then ((fixed_Up.f a0).bind fun t188 => ((governorref08_Up.f a0).bind fun t189 => (if t188 = t189 then ((fixed_Near.f a0).bind fun t190 => ((governorref08_Near.f a0).bind fun t191 => (some (t190 == t191)))) else (some false)))) else (some false)))) else (some false)))) else (some false))) = some r := H
          have A15 := Aside0.mk A150
          clear A150
          replace H := Option.bind_eq_some_iff.mp H
          obtain ⟨t183, A160, H⟩ := H
          replace H : (if t182 = t183 then ((fixed_Div.f a0 a1).bind fun t184 => ((governorref08_Div.f k a0 a1).bind fun t185 => (if t184 = t185 then ((fixed_Clamp.f a0 a1 a2).bind fun t186 => ((governorref08_Clamp.f a0 a1 a2).bind fun t187 => (if t186 = t187 then ((fixed_Up.f a0).bind fun t188 => ((governorref08_Up.f a0).bind fun t189 => (if t188 = t189 then ((fixed_Near.f a0).bind fun t190 => ((governorref08_Near.f a0).bind fun t191 => (some (t190 == t191)))) else (some false)))) else (some false)))) else (some false)))) else (some false)) = some r := H
          have A16 := Aside0.mk A160
          clear A160
          by_cases c17 : t182 = t183
          · rw [if_pos c17] at H
            have c17b0 : (t182 == t183) = true := beq_iff_eq.mpr c17
            have c17b1 : (t182 != t183) = false := bne_eq_false_iff_eq.mpr c17
            clear c17
            replace H := Option.bind_eq_some_iff.mp H
            obtain ⟨t184, A180, H⟩ := H
            replace H : ((governorref08_Div.f k a0 a1).bind fun t185 => (if t184 = t185 then ((fixed_Clamp.f a0 a1 a2).bind fun t186 => ((governorref08_Clamp.f a0 a1 a2).bind fun t187 => (if t186 = t187 then ((fixed_Up.f a0).bind fun t188 => ((governorref08_Up.f a0).bind fun t189 => (if t188 = t189 then ((fixed_Near.f a0).bind fun t190 => ((governorref08_Near.f a0).bind fun t191 => (some (t190 == t191)))) else (some false)))) else (some false)))) else (some false))) = some r := H
            have A18 := Aside0.mk A180
            clear A180
            replace H := Option.bind_eq_some_iff.mp H
            obtain ⟨t185, A190, H⟩ := H
            replace H : (if t184 = t185 then ((fixed_Clamp.f a0 a1 a2).bind fun t186 => ((governorref08_Clamp.f a0 a1 a2).bind fun t187 => (if t186 = t187 then ((fixed_Up.f a0).bind fun t188 => ((governorref08_Up.f a0).bind fun t189 => (if t188 = t189 then ((fixed_Near.f a0).bind fun t190 => ((governorref08_Near.f a0).bind fun t191 => (some (t190 == t191)))) else (some false)))) else (some false)))) else (some false)) = some r := H
            have A19 := Aside0.mk A190
            clear A190
            by_cases c20 : t184 = t185
            · rw [if_pos c20] at H
              have c20b0 : (t184 == t185) = true := beq_iff_eq.mpr c20
              have c20b1 : (t184 != t185) = false := bne_eq_false_iff_eq.mpr c20
              clear c20
              replace H := Option.bind_eq_some_iff.mp H
              obtain ⟨t186, A210, H⟩ := H
              replace H : ((governorref08_Clamp.f a0 a1 a2).bind fun t187 => (if t186 = t187 then ((fixed_Up.f a0).bind fun t188 => ((governorref08_Up.f a0).bind fun t189 => (if t188 = t189 then ((fixed_Near.f a0).bind fun t190 => ((governorref08_Near.f a0).bind fun t191 => (some (t190 == t191)))) else (some false)))) else (some false))) = some r := H
              have A21 := Aside0.mk A210
              clear A210
              replace H := Option.bind_eq_some_iff.mp H
              obtain ⟨t187, A220, H⟩ := H
              replace H : (if t186 = t187 then ((fixed_Up.f a0).bind fun t188 => ((governorref08_Up.f a0).bind fun t189 => (if t188 = t189 then ((fixed_Near.f a0).bind fun t190 => ((governorref08_Near.f a0).bind fun t191 => (some (t190 == t191)))) else (some false)))) else (some false)) = some r := H
              have A22 := Aside0.mk A220
              clear A220
              by_cases c23 : t186 = t187
              · rw [if_pos c23] at H
                have c23b0 : (t186 == t187) = true := beq_iff_eq.mpr c23
                have c23b1 : (t186 != t187) = false := bne_eq_false_iff_eq.mpr c23
                clear c23
                replace H := Option.bind_eq_some_iff.mp H
                obtain ⟨t188, A240, H⟩ := H
                replace H : ((governorref08_Up.f a0).bind fun t189 => (if t188 = t189 then ((fixed_Near.f a0).bind fun t190 => ((governorref08_Near.f a0).bind fun t191 => (some (t190 == t191)))) else (some false))) = some r := H
                have A24 := Aside0.mk A240
                clear A240
                replace H := Option.bind_eq_some_iff.mp H
                obtain ⟨t189, A250, H⟩ := H
                replace H : (if t188 = t189 then ((fixed_Near.f a0).bind fun t190 => ((governorref08_Near.f a0).bind fun t191 => (some (t190 == t191)))) else (some false)) = some r := H
                have A25 := Aside0.mk A250
                clear A250
                by_cases c26 : t188 = t189
                · rw [if_pos c26] at H
                  have c26b0 : (t188 == t189) = true := beq_iff_eq.mpr c26
                  have c26b1 : (t188 != t189) = false := bne_eq_false_iff_eq.mpr c26
                  clear c26
                  replace H := Option.bind_eq_some_iff.mp H
                  obtain ⟨t190, A270, H⟩ := H
                  replace H : ((governorref08_Near.f a0).bind fun t191 => (some (t190 == t191))) = some r := H
                  have A27 := Aside0.mk A270
                  clear A270
                  replace H := Option.bind_eq_some_iff.mp H
                  obtain ⟨t191, A280, H⟩ := H
                  replace H : (some (t190 == t191)) = some r := H
                  have A28 := Aside0.mk A280
                  clear A280
                  obtain rfl := Option.some.inj H
                  go_enter Try.func9, Try.ntmps9
                  go_wp2_with (first | ((with_reducible refine gate_callee (f := 18) rfl ?_); refine goesL_ (some 8) rfl rfl Try.func18 (by kernel_rfl) rfl #[] rfl (by (try simp only [List.map_toArray, List.map_cons, List.map_nil]); first | done | rfl | (simp only [List.length_drop, List.length_take]; rfl)) ?_; (with_reducible refine (governorlaw08_head.calls  true _ A4.out).mono ?_); rintro e w' ⟨rfl, ⟨nd, rfl⟩⟩; refine ⟨_, rfl, ?_⟩) | (go_at_call 19; (with_reducible refine (fixed_Sat.calls a0 t176 _ A6.out).mono ?_); rintro e w' ⟨rfl, ⟨nd, rfl⟩⟩) | (go_at_call 20; (with_reducible refine (governorref08_Sat.calls a0 t177 _ A7.out).mono ?_); rintro e w' ⟨rfl, ⟨nd, rfl⟩⟩) | (go_at_call 21; (with_reducible refine (fixed_Add.calls a0 a1 t178 _ A9.out).mono ?_); rintro e w' ⟨rfl, ⟨nd, rfl⟩⟩) | (go_at_call 22; (with_reducible refine (governorref08_Add.calls a0 a1 t179 _ A10.out).mono ?_); rintro e w' ⟨rfl, ⟨nd, rfl⟩⟩) | (go_at_call 23; (with_reducible refine (fixed_Sub.calls a0 a1 t180 _ A12.out).mono ?_); rintro e w' ⟨rfl, ⟨nd, rfl⟩⟩) | (go_at_call 24; (with_reducible refine (governorref08_Sub.calls a0 a1 t181 _ A13.out).mono ?_); rintro e w' ⟨rfl, ⟨nd, rfl⟩⟩) | (go_at_call 25; (with_reducible refine (fixed_Mul.calls a0 a1 t182 _ A15.out).mono ?_); rintro e w' ⟨rfl, ⟨nd, rfl⟩⟩) | (go_at_call 26; (with_reducible refine (governorref08_Mul.calls a0 a1 t183 _ A16.out).mono ?_); rintro e w' ⟨rfl, ⟨nd, rfl⟩⟩) | (go_at_call 27; (with_reducible refine (fixed_Div.calls a0 a1 t184 _ A18.out).mono ?_); rintro e w' ⟨rfl, ⟨nd, rfl⟩⟩) | (go_at_call 28; (with_reducible refine (governorref08_Div.calls k a0 a1 t185 _ A19.out).mono ?_); rintro e w' ⟨rfl, ⟨nd, rfl⟩⟩) | (go_at_call 29; (with_reducible refine (fixed_Clamp.calls a0 a1 a2 t186 _ A21.out).mono ?_); rintro e w' ⟨rfl, ⟨nd, rfl⟩⟩) | (go_at_call 30; (with_reducible refine (governorref08_Clamp.calls a0 a1 a2 t187 _ A22.out).mono ?_); rintro e w' ⟨rfl, ⟨nd, rfl⟩⟩) | (go_at_call 31; (with_reducible refine (fixed_Up.calls a0 t188 _ A24.out).mono ?_); rintro e w' ⟨rfl, ⟨nd, rfl⟩⟩) | (go_at_call 32; (with_reducible refine (governorref08_Up.calls a0 t189 _ A25.out).mono ?_); rintro e w' ⟨rfl, ⟨nd, rfl⟩⟩) | (go_at_call 33; (with_reducible refine (fixed_Near.calls a0 t190 _ A27.out).mono ?_); rintro e w' ⟨rfl, ⟨nd, rfl⟩⟩) | (go_at_call 34; (with_reducible refine (governorref08_Near.calls a0 t191 _ A28.out).mono ?_); rintro e w' ⟨rfl, ⟨nd, rfl⟩⟩))
                  go_ret
                  exact ⟨by first | rfl | (simp; done) | (simp [*]; done), by repeat (first | exact Drawn0.refl _ | apply Drawn0.step)⟩
                · rw [if_neg c26] at H
                  have c26b0 : (t188 == t189) = false := beq_eq_false_iff_ne.mpr c26
                  have c26b1 : (t188 != t189) = true := bne_iff_ne.mpr c26
                  exact absurd (Option.some.inj H) (by rw [HRT.out]; decide)
              · rw [if_neg c23] at H
                have c23b0 : (t186 == t187) = false := beq_eq_false_iff_ne.mpr c23
                have c23b1 : (t186 != t187) = true := bne_iff_ne.mpr c23
                exact absurd (Option.some.inj H) (by rw [HRT.out]; decide)
            · rw [if_neg c20] at H
              have c20b0 : (t184 == t185) = false := beq_eq_false_iff_ne.mpr c20
              have c20b1 : (t184 != t185) = true := bne_iff_ne.mpr c20
              exact absurd (Option.some.inj H) (by rw [HRT.out]; decide)
          · rw [if_neg c17] at H
            have c17b0 : (t182 == t183) = false := beq_eq_false_iff_ne.mpr c17
            have c17b1 : (t182 != t183) = true := bne_iff_ne.mpr c17
            exact absurd (Option.some.inj H) (by rw [HRT.out]; decide)
        · rw [if_neg c14] at H
          have c14b0 : (t180 == t181) = false := beq_eq_false_iff_ne.mpr c14
          have c14b1 : (t180 != t181) = true := bne_iff_ne.mpr c14
          exact absurd (Option.some.inj H) (by rw [HRT.out]; decide)
      · rw [if_neg c11] at H
        have c11b0 : (t178 == t179) = false := beq_eq_false_iff_ne.mpr c11
        have c11b1 : (t178 != t179) = true := bne_iff_ne.mpr c11
        exact absurd (Option.some.inj H) (by rw [HRT.out]; decide)
    · rw [if_neg c8] at H
      have c8b0 : (t176 == t177) = false := beq_eq_false_iff_ne.mpr c8
      have c8b1 : (t176 != t177) = true := bne_iff_ne.mpr c8
      exact absurd (Option.some.inj H) (by rw [HRT.out]; decide)
  · replace c5 := Bool.eq_false_iff.mpr c5
    subst c5
    have H1 : (some false) = some r := by rw [if_neg (show ¬ (false = true) by decide)] at H; exact H
    clear H
    have H := H1
    clear H1
    exact absurd (Option.some.inj H) (by rw [HRT.out]; decide)

end Go.Proofs.Ytmdkcadngkbphaa.PAll
