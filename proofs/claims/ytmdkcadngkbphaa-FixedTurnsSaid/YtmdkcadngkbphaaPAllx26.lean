-- laid by a program of this session (tprint.py) out of the translation and of texts typed by hand; Lean checks it
import Derived.Test.YtmdkcadngkbphaaPAllx0
import Derived.Test.YtmdkcadngkbphaaPAllx1
import Derived.Test.YtmdkcadngkbphaaPAllx3
import Derived.Test.YtmdkcadngkbphaaPAllx4
import Derived.Test.YtmdkcadngkbphaaPAllx16
import Derived.Test.YtmdkcadngkbphaaPAllx17
import Derived.Test.YtmdkcadngkbphaaPAllx20
import Derived.Test.YtmdkcadngkbphaaPAllx21
namespace Go.Proofs.Ytmdkcadngkbphaa.PAll
open Go.RowKit Go.Proofs.YtmdkcadngkbphaaW.PrintWords Go.Proofs.YtmdkcadngkbphaaW.PrintLast Go.Proofs.YtmdkcadngkbphaaW.PrintMore
attribute [local go_sem] max2_int min2_int max_two min_two max_three min_three max_four min_four   -- for this text's walks alone
set_option linter.unusedVariables false
set_option linter.unusedSimpArgs false

/-! ### governorlaw08_FixedTurns: function 11 -/
def governorlaw08_FixedTurns.f (a0 : Int) (a1 : Int) : Option (Bool) := (governorlaw08_head.f).bind fun t215 => ((fixed_Sat.f a0).bind fun t216 => ((fixed_Sat.f a1).bind fun t217 => (if t215 = true then ((fixed_Add.f t216 t217).bind fun t218 => ((fixed_Add.f t217 t216).bind fun t219 => (if t218 = t219 then ((fixed_Mul.f t216 t217).bind fun t220 => ((fixed_Mul.f t217 t216).bind fun t221 => (if t220 = t221 then ((fixed_Sub.f t216 t217).bind fun t222 => ((fixed_Sub.f t217 t216).bind fun t223 => (if t222 = (wrap64 (-t223)) then ((fixed_Add.f (wrap64 (-t216)) (wrap64 (-t217))).bind fun t224 => ((fixed_Add.f t216 t217).bind fun t225 => (if t224 = (wrap64 (-t225)) then ((fixed_Mul.f (wrap64 (-t216)) t217).bind fun t226 => ((fixed_Mul.f t216 t217).bind fun t227 => (if t226 = (wrap64 (-t227)) then ((fixed_Div.f (wrap64 (-t216)) t217).bind fun t228 => ((fixed_Div.f t216 t217).bind fun t229 => (if t228 = (wrap64 (-t229)) then ((fixed_Near.f (wrap64 (-t216))).bind fun t230 => ((fixed_Near.f t216).bind fun t231 => (if t230 = (wrap64 (-t231)) then ((fixed_Sub.f t216 t217).bind fun t232 => ((fixed_Add.f t216 (wrap64 (-t217))).bind fun t233 => (if t232 = t233 then ((fixed_Mul.f t216 1000).bind fun t234 => (if t234 = t216 then ((fixed_Div.f t216 1000).bind fun t235 => (some (t235 == t216))) else (some false))) else (some false)))) else (some false)))) else (some false)))) else (some false)))) else (some false)))) else (some false)))) else (some false)))) else (some false)))) else (some false))))
set_option maxHeartbeats 8000000 in
set_option maxRecDepth 100000 in
theorem governorlaw08_FixedTurns.calls (a0 : Int) (a1 : Int) (r : Bool) (w : World) (hrT : r = true) (h : governorlaw08_FixedTurns.f a0 a1 = some r) :
    Calls Try.prog 11 #[.int .i64 a0, .int .i64 a1] w fun e w' => e = .returned (.bool r) ∧ Drawn0 w w' := by
  have HRT := Aside0.mk hrT
  clear hrT
  have H : ((governorlaw08_head.f).bind fun t215 => ((fixed_Sat.f a0).bind fun t216 => ((fixed_Sat.f a1).bind fun t217 => (if t215 = true then ((fixed_Add.f t216 t217).bind fun t218 => ((fixed_Add.f t217 t216).bind fun t219 => (if t218 = t219 then ((fixed_Mul.f t216 t217).bind fun t220 => ((fixed_Mul.f t217 t216).bind fun t221 => (if t220 = t221 then ((fixed_Sub.f t216 t217).bind fun t222 => ((fixed_Sub.f t217 t216).bind fun t223 => (if t222 = (wrap64 (-t223)) then ((fixed_Add.f (wrap64 (-t216)) (wrap64 (-t217))).bind fun t224 => ((fixed_Add.f t216 t217).bind fun t225 => (if t224 = (wrap64 (-t225)) then ((fixed_Mul.f (wrap64 (-t216)) t217).bind fun t226 => ((fixed_Mul.f t216 t217).bind fun t227 => (if t226 = (wrap64 (-t227)) then ((fixed_Div.f (wrap64 (-t216)) t217).bind fun t228 => ((fixed_Div.f t216 t217).bind fun t229 => (if t228 = (wrap64 (-t229)) then ((fixed_Near.f (wrap64 (-t216))).bind fun t230 => ((fixed_Near.f t216).bind fun t231 => (if t230 = (wrap64 (-t231)) then ((fixed_Sub.f t216 t217).bind fun t232 => ((fixed_Add.f t216 (wrap64 (-t217))).bind fun t233 => (if t232 = t233 then ((fixed_Mul.f t216 1000).bind fun t234 => (if t234 = t216 then ((fixed_Div.f t216 1000).bind fun t235 => (some (t235 == t216))) else (some false))) else (some false)))) else (some false)))) else (some false)))) else (some false)))) else (some false)))) else (some false)))) else (some false)))) else (some false)))) else (some false))))) = some r := h
  clear h
  replace H := Option.bind_eq_some_iff.mp H
  obtain ⟨t215, A30, H⟩ := H
  replace H : ((fixed_Sat.f a0).bind fun t216 => ((fixed_Sat.f a1).bind fun t217 => (if t215 = true then ((fixed_Add.f t216 t217).bind fun t218 => ((fixed_Add.f t217 t216).bind fun t219 => (if t218 = t219 then ((fixed_Mul.f t216 t217).bind fun t220 => ((fixed_Mul.f t217 t216).bind fun t221 => (if t220 = t221 then ((fixed_Sub.f t216 t217).bind fun t222 => ((fixed_Sub.f t217 t216).bind fun t223 => (if t222 = (wrap64 (-t223)) then ((fixed_Add.f (wrap64 (-t216)) (wrap64 (-t217))).bind fun t224 => ((fixed_Add.f t216 t217).bind fun t225 => (if t224 = (wrap64 (-t225)) then ((fixed_Mul.f (wrap64 (-t216)) t217).bind fun t226 => ((fixed_Mul.f t216 t217).bind fun t227 => (if t226 = (wrap64 (-t227)) then ((fixed_Div.f (wrap64 (-t216)) t217).bind fun t228 => ((fixed_Div.f t216 t217).bind fun t229 => (if t228 = (wrap64 (-t229)) then ((fixed_Near.f (wrap64 (-t216))).bind fun t230 => ((fixed_Near.f t216).bind fun t231 => (if t230 = (wrap64 (-t231)) then ((fixed_Sub.f t216 t217).bind fun t232 => ((fixed_Add.f t216 (wrap64 (-t217))).bind fun t233 => (if t232 = t233 then ((fixed_Mul.f t216 1000).bind fun t234 => (if t234 = t216 then ((fixed_Div.f t216 1000).bind fun t235 => (some (t235 == t216))) else (some false))) else (some false)))) else (some false)))) else (some false)))) else (some false)))) else (some false)))) else (some false)))) else (some false)))) else (some false)))) else (some false)))) = some r := H
  have A3 := Aside0.mk A30
  clear A30
  replace H := Option.bind_eq_some_iff.mp H
  obtain ⟨t216, A40, H⟩ := H
  replace H : ((fixed_Sat.f a1).bind fun t217 => (if t215 = true then ((fixed_Add.f t216 t217).bind fun t218 => ((fixed_Add.f t217 t216).bind fun t219 => (if t218 = t219 then ((fixed_Mul.f t216 t217).bind fun t220 => ((fixed_Mul.f t217 t216).bind fun t221 => (if t220 = t221 then ((fixed_Sub.f t216 t217).bind fun t222 => ((fixed_Sub.f t217 t216).bind fun t223 => (if t222 = (wrap64 (-t223)) then ((fixed_Add.f (wrap64 (-t216)) (wrap64 (-t217))).bind fun t224 => ((fixed_Add.f t216 t217).bind fun t225 => (if t224 = (wrap64 (-t225)) then ((fixed_Mul.f (wrap64 (-t216)) t217).bind fun t226 => ((fixed_Mul.f t216 t217).bind fun t227 => (if t226 = (wrap64 (-t227)) then ((fixed_Div.f (wrap64 (-t216)) t217).bind fun t228 => ((fixed_Div.f t216 t217).bind fun t229 => (if t228 = (wrap64 (-t229)) then ((fixed_Near.f (wrap64 (-t216))).bind fun t230 => ((fixed_Near.f t216).bind fun t231 => (if t230 = (wrap64 (-t231)) then ((fixed_Sub.f t216 t217).bind fun t232 => ((fixed_Add.f t216 (wrap64 (-t217))).bind fun t233 => (if t232 = t233 then ((fixed_Mul.f t216 1000).bind fun t234 => (if t234 = t216 then ((fixed_Div.f t216 1000).bind fun t235 => (some (t235 == t216))) else (some false))) else (some false)))) else (some false)))) else (some false)))) else (some false)))) else (some false)))) else (some false)))) else (some false)))) else (some false)))) else (some false))) = some r := H
  have A4 := Aside0.mk A40
  clear A40
  replace H := Option.bind_eq_some_iff.mp H
  obtain ⟨t217, A50, H⟩ := H
  replace H : (if t215 = true then ((fixed_Add.f t216 t217).bind fun t218 => ((fixed_Add.f t217 t216).bind fun t219 => (if t218 = t219 then ((fixed_Mul.f t216 t217).bind fun t220 => ((fixed_Mul.f t217 t216).bind fun t221 => (if t220 = t221 then ((fixed_Sub.f t216 t217).bind fun t222 => ((fixed_Sub.f t217 t216).bind fun t223 => (if t222 = (wrap64 (-t223)) then ((fixed_Add.f (wrap64 (-t216)) (wrap64 (-t217))).bind fun t224 => ((fixed_Add.f t216 t217).bind fun t225 => (if t224 = (wrap64 (-t225)) then ((fixed_Mul.f (wrap64 (-t216)) t217).bind fun t226 => ((fixed_Mul.f t216 t217).bind fun t227 => (if t226 = (wrap64 (-t227)) then ((fixed_Div.f (wrap64 (-t216)) t217).bind fun t228 => ((fixed_Div.f t216 t217).bind fun t229 => (if t228 = (wrap64 (-t229)) then ((fixed_Near.f (wrap64 (-t216))).bind fun t230 => ((fixed_Near.f t216).bind fun t231 => (if t230 = (wrap64 (-t231)) then ((fixed_Sub.f t216 t217).bind fun t232 => ((fixed_Add.f t216 (wrap64 (-t217))).bind fun t233 => (if t232 = t233 then ((fixed_Mul.f t216 1000).bind fun t234 => (if t234 = t216 then ((fixed_Div.f t216 1000).bind fun t235 => (some (t235 == t216))) else (some false))) else (some false)))) else (some false)))) else (some false)))) else (some false)))) else (some false)))) else (some false)))) else (some false)))) else (some false)))) else (some false)) = some r := H
  have A5 := Aside0.mk A50
  clear A50
  by_cases c6 : t215 = true
  · subst c6
    have H1 : ((fixed_Add.f t216 t217).bind fun t218 => ((fixed_Add.f t217 t216).bind fun t219 => (if t218 = t219 then ((fixed_Mul.f t216 t217).bind fun t220 => ((fixed_Mul.f t217 t216).bind fun t221 => (if t220 = t221 then ((fixed_Sub.f t216 t217).bind fun t222 => ((fixed_Sub.f t217 t216).bind fun t223 => (if t222 = (wrap64 (-t223)) then ((fixed_Add.f (wrap64 (-t216)) (wrap64 (-t217))).bind fun t224 => ((fixed_Add.f t216 t217).bind fun t225 => (if t224 = (wrap64 (-t225)) then ((fixed_Mul.f (wrap64 (-t216)) t217).bind fun t226 => ((fixed_Mul.f t216 t217).bind fun t227 => (if t226 = (wrap64 (-t227)) then ((fixed_Div.f (wrap64 (-t216)) t217).bind fun t228 => ((fixed_Div.f t216 t217).bind fun t229 => (if t228 = (wrap64 (-t229)) then ((fixed_Near.f (wrap64 (-t216))).bind fun t230 => ((fixed_Near.f t216).bind fun t231 => (if t230 = (wrap64 (-t231)) then ((fixed_Sub.f t216 t217).bind fun t232 => ((fixed_Add.f t216 (wrap64 (-t217))).bind fun t233 => (if t232 = t233 then ((fixed_Mul.f t216 1000).bind fun t234 => (if t234 = t216 then ((fixed_Div.f t216 1000).bind fun t235 => (some (t235 == t216))) else (some false))) else (some false)))) else (some false)))) else (some false)))) else (some false)))) else (some false)))) else (some false)))) else (some false)))) else (some false)))) = some r := by rw [if_pos rfl] at H; exact H
    clear H
    have H := H1
    clear H1
    replace H := Option.bind_eq_some_iff.mp H
    obtain ⟨t218, A70, H⟩ := H
    replace H : ((fixed_Add.f t217 t216).bind fun t219 => (if t218 = t219 then ((fixed_Mul.f t216 t217).bind fun t220 => ((fixed_Mul.f t217 t216).bind fun t221 => (if t220 = t221 then ((fixed_Sub.f t216 t217).bind fun t222 => ((fixed_Sub.f t217 t216).bind fun t223 => (if t222 = (wrap64 (-t223)) then ((fixed_Add.f (wrap64 (-t216)) (wrap64 (-t217))).bind fun t224 => ((fixed_Add.f t216 t217).bind fun t225 => (if t224 = (wrap64 (-t225)) then ((fixed_Mul.f (wrap64 (-t216)) t217).bind fun t226 => ((fixed_Mul.f t216 t217).bind fun t227 => (if t226 = (wrap64 (-t227)) then ((fixed_Div.f (wrap64 (-t216)) t217).bind fun t228 => ((fixed_Div.f t216 t217).bind fun t229 => (if t228 = (wrap64 (-t229)) then ((fixed_Near.f (wrap64 (-t216))).bind fun t230 => ((fixed_Near.f t216).bind fun t231 => (if t230 = (wrap64 (-t231)) then ((fixed_Sub.f t216 t217).bind fun t232 => ((fixed_Add.f t216 (wrap64 (-t217))).bind fun t233 => (if t232 = t233 then ((fixed_Mul.f t216 1000).bind fun t234 => (if t234 = t216 then ((fixed_Div.f t216 1000).bind fun t235 => (some (t235 == t216))) else (some false))) else (some false)))) else (some false)))) else (some false)))) else (some false)))) else (some false)))) else (some false)))) else (some false)))) else (some false))) = some r := H
    have A7 := Aside0.mk A70
    clear A70
    replace H := Option.bind_eq_some_iff.mp H
    obtain ⟨t219, A80, H⟩ := H
    replace H : (if t218 = t219 then ((fixed_Mul.f t216 t217).bind fun t220 => ((fixed_Mul.f t217 t216).bind fun t221 => (if t220 = t221 then ((fixed_Sub.f t216 t217).bind fun t222 => ((fixed_Sub.f t217 t216).bind fun t223 => (if t222 = (wrap64 (-t223)) then ((fixed_Add.f (wrap64 (-t216)) (wrap64 (-t217))).bind fun t224 => ((fixed_Add.f t216 t217).bind fun t225 => (if t224 = (wrap64 (-t225)) then ((fixed_Mul.f (wrap64 (-t216)) t217).bind fun t226 => ((fixed_Mul.f t216 t217).bind fun t227 => (if t226 = (wrap64 (-t227)) then ((fixed_Div.f (wrap64 (-t216)) t217).bind fun t228 => ((fixed_Div.f t216 t217).bind fun t229 => (if t228 = (wrap64 (-t229)) then ((fixed_Near.f (wrap64 (-t216))).bind fun t230 => ((fixed_Near.f t216).bind fun t231 => (if t230 = (wrap64 (-t231)) then ((fixed_Sub.f t216 t217).bind fun t232 => ((fixed_Add.f t216 (wrap64 (-t217))).bind fun t233 => (if t232 = t233 then ((fixed_Mul.f t216 1000).bind fun t234 => (if t234 = t216 then ((fixed_Div.f t216 1000).bind fun t235 => (some (t235 == t216))) else (some false))) else (some false)))) else (some false)))) else (some false)))) else (some false)))) else (some false)))) else (some false)))) else (some false)))) else (some false)) = some r := H
    have A8 := Aside0.mk A80
    clear A80
    by_cases c9 : t218 = t219
    · rw [if_pos c9] at H
      have c9b0 : (t218 == t219) = true := beq_iff_eq.mpr c9
      have c9b1 : (t218 != t219) = false := bne_eq_false_iff_eq.mpr c9
      clear c9
      replace H := Option.bind_eq_some_iff.mp H
      obtain ⟨t220, A100, H⟩ := H
      replace H : ((fixed_Mul.f t217 t216).bind fun t221 => (if t220 = t221 then ((fixed_Sub.f t216 t217).bind fun t222 => ((fixed_Sub.f t217 t216).bind fun t223 => (if t222 = (wrap64 (-t223)) then ((fixed_Add.f (wrap64 (-t216)) (wrap64 (-t217))).bind fun t224 => ((fixed_Add.f t216 t217).bind fun t225 => (if t224 = (wrap64 (-t225)) then ((fixed_Mul.f (wrap64 (-t216)) t217).bind fun t226 => ((fixed_Mul.f t216 t217).bind fun t227 => (if t226 = (wrap64 (-t227)) then ((fixed_Div.f (wrap64 (-t216)) t217).bind fun t228 => ((fixed_Div.f t216 t217).bind fun t229 => (if t228 = (wrap64 (-t229)) then ((fixed_Near.f (wrap64 (-t216))).bind fun t230 => ((fixed_Near.f t216).bind fun t231 => (if t230 = (wrap64 (-t231)) then ((fixed_Sub.f t216 t217).bind fun t232 => ((fixed_Add.f t216 (wrap64 (-t217))).bind fun t233 => (if t232 = t233 then ((fixed_Mul.f t216 1000).bind fun t234 => (if t234 = t216 then ((fixed_Div.f t216 1000).bind fun t235 => (some (t235 == t216))) else (some false))) else (some false)))) else (some false)))) else (some false)))) else (some false)))) else (some false)))) else (some false)))) else (some false))) = some r := H
      have A10 := Aside0.mk A100
      clear A100
      replace H := Option.bind_eq_some_iff.mp H
      obtain ⟨t221, A110, H⟩ := H
      replace H : (if t220 = t221 then ((fixed_Sub.f t216 t217).bind fun t222 => ((fixed_Sub.f t217 t216).bind fun t223 => (if t222 = (wrap64 (-t223)) then ((fixed_Add.f (wrap64 (-t216)) (wrap64 (-t217))).bind fun t224 => ((fixed_Add.f t216 t217).bind fun t225 => (if t224 = (wrap64 (-t225)) then ((fixed_Mul.f (wrap64 (-t216)) t217).bind fun t226 => ((fixed_Mul.f t216 t217).bind fun t227 => (if t226 = (wrap64 (-t227)) then ((fixed_Div.f (wrap64 (-t216)) t217).bind fun t228 => ((fixed_Div.f t216 t217).bind fun t229 => (if t228 = (wrap64 (-t229)) then ((fixed_Near.f (wrap64 (-t216))).bind fun t230 => ((fixed_Near.f t216).bind fun t231 => (if t230 = (wrap64 (-t231)) then ((fixed_Sub.f t216 t217).bind fun t232 => ((fixed_Add.f t216 (wrap64 (-t217))).bind fun t233 => (if t232 = t233 then ((fixed_Mul.f t216 1000).bind fun t234 => (if t234 = t216 then ((fixed_Div.f t216 1000).bind fun t235 => (some (t235 == t216))) else (some false))) else (some false)))) else (some false)))) else (some false)))) else (some false)))) else (some false)))) else (some false)))) else (some false)) = some r := H
      have A11 := Aside0.mk A110
      clear A110
      by_cases c12 : t220 = t221
      · rw [if_pos c12] at H
        have c12b0 : (t220 == t221) = true := beq_iff_eq.mpr c12
        have c12b1 : (t220 != t221) = false := bne_eq_false_iff_eq.mpr c12
        clear c12
        replace H := Option.bind_eq_some_iff.mp H
        obtain ⟨t222, A130, H⟩ := H
        replace H : ((fixed_Sub.f t217 t216).bind fun t223 => (if t222 = (wrap64 (-t223)) then ((fixed_Add.f (wrap64 (-t216)) (wrap64 (-t217))).bind fun t224 => ((fixed_Add.f t216 t217).bind fun t225 => (if t224 = (wrap64 (-t225)) then ((fixed_Mul.f (wrap64 (-t216)) t217).bind fun t226 => ((fixed_Mul.f t216 t217).bind fun t227 => (if t226 = (wrap64 (-t227)) then ((fixed_Div.f (wrap64 (-t216)) t217).bind fun t228 => ((fixed_Div.f t216 t217).bind fun t229 => (if t228 = (wrap64 (-t229)) then ((fixed_Near.f (wrap64 (-t216))).bind fun t230 => ((fixed_Near.f t216).bind fun t231 => (if t230 = (wrap64 (-t231)) then ((fixed_Sub.f t216 t217).bind fun t232 => ((fixed_Add.f t216 (wrap64 (-t217))).bind fun t233 => (if t232 = t233 then ((fixed_Mul.f t216 1000).bind fun t234 => (if t234 = t216 then ((fixed_Div.f t216 1000).bind fun t235 => (some (t235 == t216))) else (some false))) else (some false)))) else (some false)))) else (some false)))) else (some false)))) else (some false)))) else (some false))) = some r := H
        have A13 := Aside0.mk A130
        clear A130
        replace H := Option.bind_eq_some_iff.mp H
        obtain ⟨t223, A140, H⟩ := H
        replace H : (if t222 = (wrap64 (-t223)) then ((fixed_Add.f (wrap64 (-t216)) (wrap64 (-t217))).bind fun t224 => ((fixed_Add.f t216 t217).bind fun t225 => (if t224 = (wrap64 (-t225)) then ((fixed_Mul.f (wrap64 (-t216)) t217).bind fun t226 => ((fixed_Mul.f t216 t217).bind fun t227 => (if t226 = (wrap64 (-t227)) then ((fixed_Div.f (wrap64 (-t216)) t217).bind fun t228 => ((fixed_Div.f t216 t217).bind fun t229 => (if t228 = (wrap64 (-t229)) then ((fixed_Near.f (wrap64 (-t216))).bind fun t230 => ((fixed_Near.f t216).bind fun t231 => (if t230 = (wrap64 (-t231)) then ((fixed_Sub.f t216 t217).bind fun t232 => ((fixed_Add.f t216 (wrap64 (-t217))).bind fun t233 => (if t232 = t233 then ((fixed_Mul.f t216 1000).bind fun t234 => (if t234 = t216 then ((fixed_Div.f t216 1000).bind fun t235 => (some (t235 == t216))) else (some false))) else (some false)))) else (some false)))) else (some false)))) else (some false)))) else (some false)))) else (some false)) = some r := H
        have A14 := Aside0.mk A140
        clear A140
        by_cases c15 : t222 = (wrap64 (-t223))
        · rw [if_pos c15] at H
          have c15b0 : (t222 == (wrap64 (-t223))) = true := beq_iff_eq.mpr c15
          have c15b1 : (t222 != (wrap64 (-t223))) = false := bne_eq_false_iff_eq.mpr c15
          clear c15
          replace H := Option.bind_eq_some_iff.mp H
          obtain ⟨t224, A160, H⟩ := H
          replace H : ((fixed_Add.f t216 t217).bind fun t225 => (if t224 = (wrap64 (-t225)) then ((fixed_Mul.f (wrap64 (-t216)) t217).bind fun t226 => ((fixed_Mul.f t216 t217).bind fun t227 => (if t226 = (wrap64 (-t227)) then ((fixed_Div.f (wrap64 (-t216)) t217).bind fun t228 => ((fixed_Div.f t216 t217).bind fun t229 => (if t228 = (wrap64 (-t229)) then ((fixed_Near.f (wrap64 (-t216))).bind fun t230 => ((fixed_Near.f t216).bind fun t231 => (if t230 = (wrap64 (-t231)) then ((fixed_Sub.f t216 t217).bind fun t232 => ((fixed_Add.f t216 (wrap64 (-t217))).bind fun t233 => (if t232 = t233 then ((fixed_Mul.f t216 1000).bind fun t234 => (if t234 = t216 then ((fixed_Div.f t216 1000).bind fun t235 => (some (t235 == t216))) else (some false))) else (some false)))) else (some false)))) else (some false)))) else (some false)))) else (some false))) = some r := H
          have A16 := Aside0.mk A160
          clear A160
          replace H := Option.bind_eq_some_iff.mp H
          obtain ⟨t225, A170, H⟩ := H
          replace H : (if t224 = (wrap64 (-t225)) then ((fixed_Mul.f (wrap64 (-t216)) t217).bind fun t226 => ((fixed_Mul.f t216 t217).bind fun t227 => (if t226 = (wrap64 (-t227)) then ((fixed_Div.f (wrap64 (-t216)) t217).bind fun t228 => ((fixed_Div.f t216 t217).bind fun t229 => (if t228 = (wrap64 (-t229)) then ((fixed_Near.f (wrap64 (-t216))).bind fun t230 => ((fixed_Near.f t216).bind fun t231 => (if t230 = (wrap64 (-t231)) then ((fixed_Sub.f t216 t217).bind fun t232 => ((fixed_Add.f t216 (wrap64 (-t217))).bind fun t233 => (if t232 = t233 then ((fixed_Mul.f t216 1000).bind fun t234 => (if t234 = t216 then ((fixed_Div.f t216 1000).bind fun t235 => (some (t235 == t216))) else (some false))) else (some false)))) else (some false)))) else (some false)))) else (some false)))) else (some false)) = some r := H
          have A17 := Aside0.mk A170
          clear A170
          by_cases c18 : t224 = (wrap64 (-t225))
          · rw [if_pos c18] at H
            have c18b0 : (t224 == (wrap64 (-t225))) = true := beq_iff_eq.mpr c18
            have c18b1 : (t224 != (wrap64 (-t225))) = false := bne_eq_false_iff_eq.mpr c18
            clear c18
            replace H := Option.bind_eq_some_iff.mp H
            obtain ⟨t226, A190, H⟩ := H
            replace H : ((fixed_Mul.f t216 t217).bind fun t227 => (if t226 = (wrap64 (-t227)) then ((fixed_Div.f (wrap64 (-t216)) t217).bind fun t228 => ((fixed_Div.f t216 t217).bind fun t229 => (if t228 = (wrap64 (-t229)) then ((fixed_Near.f (wrap64 (-t216))).bind fun t230 => ((fixed_Near.f t216).bind fun t231 => (if t230 = (wrap64 (-t231)) then ((fixed_Sub.f t216 t217).bind fun t232 => ((fixed_Add.f t216 (wrap64 (-t217))).bind fun t233 => (if t232 = t233 then ((fixed_Mul.f t216 1000).bind fun t234 => (if t234 = t216 then ((fixed_Div.f t216 1000).bind fun t235 => (some (t235 == t216))) else (some false))) else (some false)))) else (some false)))) else (some false)))) else (some false))) = some r := H
            have A19 := Aside0.mk A190
            clear A190
            replace H := Option.bind_eq_some_iff.mp H
            obtain ⟨t227, A200, H⟩ := H
            replace H : (if t226 = (wrap64 (-t227)) then ((fixed_Div.f (wrap64 (-t216)) t217).bind fun t228 => ((fixed_Div.f t216 t217).bind fun t229 => (if t228 = (wrap64 (-t229)) then ((fixed_Near.f (wrap64 (-t216))).bind fun t230 => ((fixed_Near.f t216).bind fun t231 => (if t230 = (wrap64 (-t231)) then ((fixed_Sub.f t216 t217).bind fun t232 => ((fixed_Add.f t216 (wrap64 (-t217))).bind fun t233 => (if t232 = t233 then ((fixed_Mul.f t216 1000).bind fun t234 => (if t234 = t216 then ((fixed_Div.f t216 1000).bind fun t235 => (some (t235 == t216))) else (some false))) else (some false)))) else (some false)))) else (some false)))) else (some false)) = some r := H
            have A20 := Aside0.mk A200
            clear A200
            by_cases c21 : t226 = (wrap64 (-t227))
            · rw [if_pos c21] at H
              have c21b0 : (t226 == (wrap64 (-t227))) = true := beq_iff_eq.mpr c21
              have c21b1 : (t226 != (wrap64 (-t227))) = false := bne_eq_false_iff_eq.mpr c21
              clear c21
              replace H := Option.bind_eq_some_iff.mp H
              obtain ⟨t228, A220, H⟩ := H
              replace H : ((fixed_Div.f t216 t217).bind fun t229 => (if t228 = (wrap64 (-t229)) then ((fixed_Near.f (wrap64 (-t216))).bind fun t230 => ((fixed_Near.f t216).bind fun t231 => (if t230 = (wrap64 (-t231)) then ((fixed_Sub.f t216 t217).bind fun t232 => ((fixed_Add.f t216 (wrap64 (-t217))).bind fun t233 => (if t232 = t233 then ((fixed_Mul.f t216 1000).bind fun t234 => (if t234 = t216 then ((fixed_Div.f t216 1000).bind fun t235 => (some (t235 == t216))) else (some false))) else (some false)))) else (some false)))) else (some false))) = some r := H
              have A22 := Aside0.mk A220
              clear A220
              replace H := Option.bind_eq_some_iff.mp H
              obtain ⟨t229, A230, H⟩ := H
              replace H : (if t228 = (wrap64 (-t229)) then ((fixed_Near.f (wrap64 (-t216))).bind fun t230 => ((fixed_Near.f t216).bind fun t231 => (if t230 = (wrap64 (-t231)) then ((fixed_Sub.f t216 t217).bind fun t232 => ((fixed_Add.f t216 (wrap64 (-t217))).bind fun t233 => (if t232 = t233 then ((fixed_Mul.f t216 1000).bind fun t234 => (if t234 = t216 then ((fixed_Div.f t216 1000).bind fun t235 => (some (t235 == t216))) else (some false))) else (some false)))) else (some false)))) else (some false)) = some r := H
              have A23 := Aside0.mk A230
              clear A230
              by_cases c24 : t228 = (wrap64 (-t229))
              · rw [if_pos c24] at H
                have c24b0 : (t228 == (wrap64 (-t229))) = true := beq_iff_eq.mpr c24
                have c24b1 : (t228 != (wrap64 (-t229))) = false := bne_eq_false_iff_eq.mpr c24
                clear c24
                replace H := Option.bind_eq_some_iff.mp H
                obtain ⟨t230, A250, H⟩ := H
                replace H : ((fixed_Near.f t216).bind fun t231 => (if t230 = (wrap64 (-t231)) then ((fixed_Sub.f t216 t217).bind fun t232 => ((fixed_Add.f t216 (wrap64 (-t217))).bind fun t233 => (if t232 = t233 then ((fixed_Mul.f t216 1000).bind fun t234 => (if t234 = t216 then ((fixed_Div.f t216 1000).bind fun t235 => (some (t235 == t216))) else (some false))) else (some false)))) else (some false))) = some r := H
                have A25 := Aside0.mk A250
                clear A250
                replace H := Option.bind_eq_some_iff.mp H
                obtain ⟨t231, A260, H⟩ := H
                replace H : (if t230 = (wrap64 (-t231)) then ((fixed_Sub.f t216 t217).bind fun t232 => ((fixed_Add.f t216 (wrap64 (-t217))).bind fun t233 => (if t232 = t233 then ((fixed_Mul.f t216 1000).bind fun t234 => (if t234 = t216 then ((fixed_Div.f t216 1000).bind fun t235 => (some (t235 == t216))) else (some false))) else (some false)))) else (some false)) = some r := H
                have A26 := Aside0.mk A260
                clear A260
                by_cases c27 : t230 = (wrap64 (-t231))
                · rw [if_pos c27] at H
                  have c27b0 : (t230 == (wrap64 (-t231))) = true := beq_iff_eq.mpr c27
                  have c27b1 : (t230 != (wrap64 (-t231))) = false := bne_eq_false_iff_eq.mpr c27
                  clear c27
                  replace H := Option.bind_eq_some_iff.mp H
                  obtain ⟨t232, A280, H⟩ := H
                  replace H : ((fixed_Add.f t216 (wrap64 (-t217))).bind fun t233 => (if t232 = t233 then ((fixed_Mul.f t216 1000).bind fun t234 => (if t234 = t216 then ((fixed_Div.f t216 1000).bind fun t235 => (some (t235 == t216))) else (some false))) else (some false))) = some r := H
                  have A28 := Aside0.mk A280
                  clear A280
                  replace H := Option.bind_eq_some_iff.mp H
                  obtain ⟨t233, A290, H⟩ := H
                  replace H : (if t232 = t233 then ((fixed_Mul.f t216 1000).bind fun t234 => (if t234 = t216 then ((fixed_Div.f t216 1000).bind fun t235 => (some (t235 == t216))) else (some false))) else (some false)) = some r := H
                  have A29 := Aside0.mk A290
                  clear A290
                  by_cases c30 : t232 = t233
                  · rw [if_pos c30] at H
                    have c30b0 : (t232 == t233) = true := beq_iff_eq.mpr c30
                    have c30b1 : (t232 != t233) = false := bne_eq_false_iff_eq.mpr c30
                    clear c30
                    replace H := Option.bind_eq_some_iff.mp H
                    obtain ⟨t234, A310, H⟩ := H
                    replace H : (if t234 = t216 then ((fixed_Div.f t216 1000).bind fun t235 => (some (t235 == t216))) else (some false)) = some r := H
                    have A31 := Aside0.mk A310
                    clear A310
                    by_cases c32 : t234 = t216
                    · rw [if_pos c32] at H
                      have c32b0 : (t234 == t216) = true := beq_iff_eq.mpr c32
                      have c32b1 : (t234 != t216) = false := bne_eq_false_iff_eq.mpr c32
                      clear c32
                      replace H := Option.bind_eq_some_iff.mp H
                      obtain ⟨t235, A330, H⟩ := H
                      replace H : (some (t235 == t216)) = some r := H
                      have A33 := Aside0.mk A330
                      clear A330
                      obtain rfl := Option.some.inj H
                      go_enter Try.func11, Try.ntmps11
                      go_wp2_with (first | ((with_reducible refine gate_callee (f := 18) rfl ?_); refine goesL_ (some 8) rfl rfl Try.func18 (by kernel_rfl) rfl #[] rfl (by (try simp only [List.map_toArray, List.map_cons, List.map_nil]); first | done | rfl | (simp only [List.length_drop, List.length_take]; rfl)) ?_; (with_reducible refine (governorlaw08_head.calls  true _ A3.out).mono ?_); rintro e w' ⟨rfl, ⟨nd, rfl⟩⟩; refine ⟨_, rfl, ?_⟩) | ((with_reducible refine gate_callee (f := 19) rfl ?_); refine goesL_ (some 10) rfl rfl Try.func19 (by kernel_rfl) rfl #[.int .i64 a0] rfl (by (try simp only [List.map_toArray, List.map_cons, List.map_nil]); first | done | rfl | (simp only [List.length_drop, List.length_take]; rfl)) ?_; (with_reducible refine (fixed_Sat.calls a0 t216 _ A4.out).mono ?_); rintro e w' ⟨rfl, ⟨nd, rfl⟩⟩; refine ⟨_, rfl, ?_⟩) | ((with_reducible refine gate_callee (f := 19) rfl ?_); refine goesL_ (some 12) rfl rfl Try.func19 (by kernel_rfl) rfl #[.int .i64 a1] rfl (by (try simp only [List.map_toArray, List.map_cons, List.map_nil]); first | done | rfl | (simp only [List.length_drop, List.length_take]; rfl)) ?_; (with_reducible refine (fixed_Sat.calls a1 t217 _ A5.out).mono ?_); rintro e w' ⟨rfl, ⟨nd, rfl⟩⟩; refine ⟨_, rfl, ?_⟩) | (go_at_call 21; (with_reducible refine (fixed_Add.calls t216 t217 t218 _ A7.out).mono ?_); rintro e w' ⟨rfl, ⟨nd, rfl⟩⟩; clear A7) | (go_at_call 21; (with_reducible refine (fixed_Add.calls t217 t216 t219 _ A8.out).mono ?_); rintro e w' ⟨rfl, ⟨nd, rfl⟩⟩) | (go_at_call 25; (with_reducible refine (fixed_Mul.calls t216 t217 t220 _ A10.out).mono ?_); rintro e w' ⟨rfl, ⟨nd, rfl⟩⟩; clear A10) | (go_at_call 25; (with_reducible refine (fixed_Mul.calls t217 t216 t221 _ A11.out).mono ?_); rintro e w' ⟨rfl, ⟨nd, rfl⟩⟩) | (go_at_call 23; (with_reducible refine (fixed_Sub.calls t216 t217 t222 _ A13.out).mono ?_); rintro e w' ⟨rfl, ⟨nd, rfl⟩⟩; clear A13) | (go_at_call 23; (with_reducible refine (fixed_Sub.calls t217 t216 t223 _ A14.out).mono ?_); rintro e w' ⟨rfl, ⟨nd, rfl⟩⟩) | (go_at_call 21; (with_reducible refine (fixed_Add.calls (wrap64 (-t216)) (wrap64 (-t217)) t224 _ A16.out).mono ?_); rintro e w' ⟨rfl, ⟨nd, rfl⟩⟩) | (go_at_call 21; (with_reducible refine (fixed_Add.calls t216 t217 t225 _ A17.out).mono ?_); rintro e w' ⟨rfl, ⟨nd, rfl⟩⟩; clear A17) | (go_at_call 25; (with_reducible refine (fixed_Mul.calls (wrap64 (-t216)) t217 t226 _ A19.out).mono ?_); rintro e w' ⟨rfl, ⟨nd, rfl⟩⟩) | (go_at_call 25; (with_reducible refine (fixed_Mul.calls t216 t217 t227 _ A20.out).mono ?_); rintro e w' ⟨rfl, ⟨nd, rfl⟩⟩; clear A20) | (go_at_call 27; (with_reducible refine (fixed_Div.calls (wrap64 (-t216)) t217 t228 _ A22.out).mono ?_); rintro e w' ⟨rfl, ⟨nd, rfl⟩⟩) | (go_at_call 27; (with_reducible refine (fixed_Div.calls t216 t217 t229 _ A23.out).mono ?_); rintro e w' ⟨rfl, ⟨nd, rfl⟩⟩) | (go_at_call 33; (with_reducible refine (fixed_Near.calls (wrap64 (-t216)) t230 _ A25.out).mono ?_); rintro e w' ⟨rfl, ⟨nd, rfl⟩⟩) | (go_at_call 33; (with_reducible refine (fixed_Near.calls t216 t231 _ A26.out).mono ?_); rintro e w' ⟨rfl, ⟨nd, rfl⟩⟩) | (go_at_call 23; (with_reducible refine (fixed_Sub.calls t216 t217 t232 _ A28.out).mono ?_); rintro e w' ⟨rfl, ⟨nd, rfl⟩⟩; clear A28) | (go_at_call 21; (with_reducible refine (fixed_Add.calls t216 (wrap64 (-t217)) t233 _ A29.out).mono ?_); rintro e w' ⟨rfl, ⟨nd, rfl⟩⟩) | (go_at_call 25; (with_reducible refine (fixed_Mul.calls t216 1000 t234 _ A31.out).mono ?_); rintro e w' ⟨rfl, ⟨nd, rfl⟩⟩) | (go_at_call 27; (with_reducible refine (fixed_Div.calls t216 1000 t235 _ A33.out).mono ?_); rintro e w' ⟨rfl, ⟨nd, rfl⟩⟩))
                      go_ret
                      exact ⟨by first | rfl | (simp; done) | (simp [*]; done), by repeat (first | exact Drawn0.refl _ | apply Drawn0.step)⟩
                    · rw [if_neg c32] at H
                      have c32b0 : (t234 == t216) = false := beq_eq_false_iff_ne.mpr c32
                      have c32b1 : (t234 != t216) = true := bne_iff_ne.mpr c32
                      exact absurd (Option.some.inj H) (by rw [HRT.out]; decide)
                  · rw [if_neg c30] at H
                    have c30b0 : (t232 == t233) = false := beq_eq_false_iff_ne.mpr c30
                    have c30b1 : (t232 != t233) = true := bne_iff_ne.mpr c30
                    exact absurd (Option.some.inj H) (by rw [HRT.out]; decide)
                · rw [if_neg c27] at H
                  have c27b0 : (t230 == (wrap64 (-t231))) = false := beq_eq_false_iff_ne.mpr c27
                  have c27b1 : (t230 != (wrap64 (-t231))) = true := bne_iff_ne.mpr c27
                  exact absurd (Option.some.inj H) (by rw [HRT.out]; decide)
              · rw [if_neg c24] at H
                have c24b0 : (t228 == (wrap64 (-t229))) = false := beq_eq_false_iff_ne.mpr c24
                have c24b1 : (t228 != (wrap64 (-t229))) = true := bne_iff_ne.mpr c24
                exact absurd (Option.some.inj H) (by rw [HRT.out]; decide)
            · rw [if_neg c21] at H
              have c21b0 : (t226 == (wrap64 (-t227))) = false := beq_eq_false_iff_ne.mpr c21
              have c21b1 : (t226 != (wrap64 (-t227))) = true := bne_iff_ne.mpr c21
              exact absurd (Option.some.inj H) (by rw [HRT.out]; decide)
          · rw [if_neg c18] at H
            have c18b0 : (t224 == (wrap64 (-t225))) = false := beq_eq_false_iff_ne.mpr c18
            have c18b1 : (t224 != (wrap64 (-t225))) = true := bne_iff_ne.mpr c18
            exact absurd (Option.some.inj H) (by rw [HRT.out]; decide)
        · rw [if_neg c15] at H
          have c15b0 : (t222 == (wrap64 (-t223))) = false := beq_eq_false_iff_ne.mpr c15
          have c15b1 : (t222 != (wrap64 (-t223))) = true := bne_iff_ne.mpr c15
          exact absurd (Option.some.inj H) (by rw [HRT.out]; decide)
      · rw [if_neg c12] at H
        have c12b0 : (t220 == t221) = false := beq_eq_false_iff_ne.mpr c12
        have c12b1 : (t220 != t221) = true := bne_iff_ne.mpr c12
        exact absurd (Option.some.inj H) (by rw [HRT.out]; decide)
    · rw [if_neg c9] at H
      have c9b0 : (t218 == t219) = false := beq_eq_false_iff_ne.mpr c9
      have c9b1 : (t218 != t219) = true := bne_iff_ne.mpr c9
      exact absurd (Option.some.inj H) (by rw [HRT.out]; decide)
  · replace c6 := Bool.eq_false_iff.mpr c6
    subst c6
    have H1 : (some false) = some r := by rw [if_neg (show ¬ (false = true) by decide)] at H; exact H
    clear H
    have H := H1
    clear H1
    exact absurd (Option.some.inj H) (by rw [HRT.out]; decide)

end Go.Proofs.Ytmdkcadngkbphaa.PAll
