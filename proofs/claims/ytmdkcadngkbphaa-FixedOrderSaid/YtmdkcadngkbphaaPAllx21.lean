-- laid by a program of this session (tprint.py) out of the translation and of texts typed by hand; Lean checks it
import Derived.Test.YtmdkcadngkbphaaPAllx0
import Derived.Test.YtmdkcadngkbphaaPAllx1
import Derived.Test.YtmdkcadngkbphaaPAllx3
import Derived.Test.YtmdkcadngkbphaaPAllx4
import Derived.Test.YtmdkcadngkbphaaPAllx5
import Derived.Test.YtmdkcadngkbphaaPAllx16
import Derived.Test.YtmdkcadngkbphaaPAllx17
import Derived.Test.YtmdkcadngkbphaaPAllx18
import Derived.Test.YtmdkcadngkbphaaPAllx20
namespace Go.Proofs.Ytmdkcadngkbphaa.PAll
open Go.RowKit Go.Proofs.YtmdkcadngkbphaaW.PrintWords Go.Proofs.YtmdkcadngkbphaaW.PrintLast Go.Proofs.YtmdkcadngkbphaaW.PrintMore
attribute [local go_sem] max2_int min2_int max_two min_two max_three min_three max_four min_four   -- for this text's walks alone
set_option linter.unusedVariables false
set_option linter.unusedSimpArgs false

/-! ### governorlaw08_head: function 18 -/
def governorlaw08_head.f  : Option (Bool) := (fixed_Sat.f 4611686018427387904).bind fun t147 => (if t147 = 1000000000 then ((fixed_Sat.f (-5)).bind fun t148 => (if t148 = (-5) then ((fixed_Add.f 999999999 5).bind fun t149 => (if t149 = 1000000000 then ((fixed_Sub.f 1 3).bind fun t150 => (if t150 = (-2) then ((fixed_Mul.f 1500 (-1500)).bind fun t151 => (if t151 = (-2250) then ((fixed_Mul.f (-1) 999).bind fun t152 => (if t152 = 0 then ((fixed_Div.f 1000 3000).bind fun t153 => (if t153 = 333 then ((fixed_Div.f (-1) 0).bind fun t154 => (if t154 = (-1000000000) then ((fixed_Div.f 0 0).bind fun t155 => (if t155 = 0 then ((fixed_Clamp.f 5 7 9).bind fun t156 => (if t156 = 7 then ((fixed_Clamp.f 5 7 3).bind fun t157 => (if t157 = 7 then ((fixed_Up.f 1001).bind fun t158 => (if t158 = 2 then ((fixed_Up.f (-1001)).bind fun t159 => (if t159 = (-1) then ((fixed_Near.f 1500).bind fun t160 => (if t160 = 2 then ((fixed_Near.f (-1500)).bind fun t161 => (if t161 = (-2) then ((fixed_Near.f 1499).bind fun t162 => (some (t162 == 1))) else (some false))) else (some false))) else (some false))) else (some false))) else (some false))) else (some false))) else (some false))) else (some false))) else (some false))) else (some false))) else (some false))) else (some false))) else (some false))) else (some false))) else (some false))
set_option maxHeartbeats 8000000 in
set_option maxRecDepth 100000 in
theorem governorlaw08_head.calls  (r : Bool) (w : World) (h : governorlaw08_head.f  = some r) :
    Calls Try.prog 18 #[] w fun e w' => e = .returned (.bool r) ∧ Drawn0 w w' := by
  have HRT := Aside0.mk (Option.some.inj (h.symm.trans (show governorlaw08_head.f = some true by decide +kernel)))
  have H : ((fixed_Sat.f 4611686018427387904).bind fun t147 => (if t147 = 1000000000 then ((fixed_Sat.f (-5)).bind fun t148 => (if t148 = (-5) then ((fixed_Add.f 999999999 5).bind fun t149 => (if t149 = 1000000000 then ((fixed_Sub.f 1 3).bind fun t150 => (if t150 = (-2) then ((fixed_Mul.f 1500 (-1500)).bind fun t151 => (if t151 = (-2250) then ((fixed_Mul.f (-1) 999).bind fun t152 => (if t152 = 0 then ((fixed_Div.f 1000 3000).bind fun t153 => (if t153 = 333 then ((fixed_Div.f (-1) 0).bind fun t154 => (if t154 = (-1000000000) then ((fixed_Div.f 0 0).bind fun t155 => (if t155 = 0 then ((fixed_Clamp.f 5 7 9).bind fun t156 => (if t156 = 7 then ((fixed_Clamp.f 5 7 3).bind fun t157 => (if t157 = 7 then ((fixed_Up.f 1001).bind fun t158 => (if t158 = 2 then ((fixed_Up.f (-1001)).bind fun t159 => (if t159 = (-1) then ((fixed_Near.f 1500).bind fun t160 => (if t160 = 2 then ((fixed_Near.f (-1500)).bind fun t161 => (if t161 = (-2) then ((fixed_Near.f 1499).bind fun t162 => (some (t162 == 1))) else (some false))) else (some false))) else (some false))) else (some false))) else (some false))) else (some false))) else (some false))) else (some false))) else (some false))) else (some false))) else (some false))) else (some false))) else (some false))) else (some false))) else (some false))) = some r := h
  clear h
  replace H := Option.bind_eq_some_iff.mp H
  obtain ⟨t147, A10, H⟩ := H
  replace H : (if t147 = 1000000000 then ((fixed_Sat.f (-5)).bind fun t148 => (if t148 = (-5) then ((fixed_Add.f 999999999 5).bind fun t149 => (if t149 = 1000000000 then ((fixed_Sub.f 1 3).bind fun t150 => (if t150 = (-2) then ((fixed_Mul.f 1500 (-1500)).bind fun t151 => (if t151 = (-2250) then ((fixed_Mul.f (-1) 999).bind fun t152 => (if t152 = 0 then ((fixed_Div.f 1000 3000).bind fun t153 => (if t153 = 333 then ((fixed_Div.f (-1) 0).bind fun t154 => (if t154 = (-1000000000) then ((fixed_Div.f 0 0).bind fun t155 => (if t155 = 0 then ((fixed_Clamp.f 5 7 9).bind fun t156 => (if t156 = 7 then ((fixed_Clamp.f 5 7 3).bind fun t157 => (if t157 = 7 then ((fixed_Up.f 1001).bind fun t158 => (if t158 = 2 then ((fixed_Up.f (-1001)).bind fun t159 => (if t159 = (-1) then ((fixed_Near.f 1500).bind fun t160 => (if t160 = 2 then ((fixed_Near.f (-1500)).bind fun t161 => (if t161 = (-2) then ((fixed_Near.f 1499).bind fun t162 => (some (t162 == 1))) else (some false))) else (some false))) else (some false))) else (some false))) else (some false))) else (some false))) else (some false))) else (some false))) else (some false))) else (some false))) else (some false))) else (some false))) else (some false))) else (some false))) else (some false)) = some r := H
  have A1 := Aside0.mk A10
  clear A10
  by_cases c2 : t147 = 1000000000
  · rw [if_pos c2] at H
    have c2b0 : (t147 == 1000000000) = true := beq_iff_eq.mpr c2
    have c2b1 : (t147 != 1000000000) = false := bne_eq_false_iff_eq.mpr c2
    clear c2
    replace H := Option.bind_eq_some_iff.mp H
    obtain ⟨t148, A30, H⟩ := H
    replace H : (if t148 = (-5) then ((fixed_Add.f 999999999 5).bind fun t149 => (if t149 = 1000000000 then ((fixed_Sub.f 1 3).bind fun t150 => (if t150 = (-2) then ((fixed_Mul.f 1500 (-1500)).bind fun t151 => (if t151 = (-2250) then ((fixed_Mul.f (-1) 999).bind fun t152 => (if t152 = 0 then ((fixed_Div.f 1000 3000).bind fun t153 => (if t153 = 333 then ((fixed_Div.f (-1) 0).bind fun t154 => (if t154 = (-1000000000) then ((fixed_Div.f 0 0).bind fun t155 => (if t155 = 0 then ((fixed_Clamp.f 5 7 9).bind fun t156 => (if t156 = 7 then ((fixed_Clamp.f 5 7 3).bind fun t157 => (if t157 = 7 then ((fixed_Up.f 1001).bind fun t158 => (if t158 = 2 then ((fixed_Up.f (-1001)).bind fun t159 => (if t159 = (-1) then ((fixed_Near.f 1500).bind fun t160 => (if t160 = 2 then ((fixed_Near.f (-1500)).bind fun t161 => (if t161 = (-2) then ((fixed_Near.f 1499).bind fun t162 => (some (t162 == 1))) else (some false))) else (some false))) else (some false))) else (some false))) else (some false))) else (some false))) else (some false))) else (some false))) else (some false))) else (some false))) else (some false))) else (some false))) else (some false))) else (some false)) = some r := H
    have A3 := Aside0.mk A30
    clear A30
    by_cases c4 : t148 = (-5)
    · rw [if_pos c4] at H
      have c4b0 : (t148 == (-5)) = true := beq_iff_eq.mpr c4
      have c4b1 : (t148 != (-5)) = false := bne_eq_false_iff_eq.mpr c4
      clear c4
      replace H := Option.bind_eq_some_iff.mp H
      obtain ⟨t149, A50, H⟩ := H
      replace H : (if t149 = 1000000000 then ((fixed_Sub.f 1 3).bind fun t150 => (if t150 = (-2) then ((fixed_Mul.f 1500 (-1500)).bind fun t151 => (if t151 = (-2250) then ((fixed_Mul.f (-1) 999).bind fun t152 => (if t152 = 0 then ((fixed_Div.f 1000 3000).bind fun t153 => (if t153 = 333 then ((fixed_Div.f (-1) 0).bind fun t154 => (if t154 = (-1000000000) then ((fixed_Div.f 0 0).bind fun t155 => (if t155 = 0 then ((fixed_Clamp.f 5 7 9).bind fun t156 => (if t156 = 7 then ((fixed_Clamp.f 5 7 3).bind fun t157 => (if t157 = 7 then ((fixed_Up.f 1001).bind fun t158 => (if t158 = 2 then ((fixed_Up.f (-1001)).bind fun t159 => (if t159 = (-1) then ((fixed_Near.f 1500).bind fun t160 => (if t160 = 2 then ((fixed_Near.f (-1500)).bind fun t161 => (if t161 = (-2) then ((fixed_Near.f 1499).bind fun t162 => (some (t162 == 1))) else (some false))) else (some false))) else (some false))) else (some false))) else (some false))) else (some false))) else (some false))) else (some false))) else (some false))) else (some false))) else (some false))) else (some false))) else (some false)) = some r := H
      have A5 := Aside0.mk A50
      clear A50
      by_cases c6 : t149 = 1000000000
      · rw [if_pos c6] at H
        have c6b0 : (t149 == 1000000000) = true := beq_iff_eq.mpr c6
        have c6b1 : (t149 != 1000000000) = false := bne_eq_false_iff_eq.mpr c6
        clear c6
        replace H := Option.bind_eq_some_iff.mp H
        obtain ⟨t150, A70, H⟩ := H
        replace H : (if t150 = (-2) then ((fixed_Mul.f 1500 (-1500)).bind fun t151 => (if t151 = (-2250) then ((fixed_Mul.f (-1) 999).bind fun t152 => (if t152 = 0 then ((fixed_Div.f 1000 3000).bind fun t153 => (if t153 = 333 then ((fixed_Div.f (-1) 0).bind fun t154 => (if t154 = (-1000000000) then ((fixed_Div.f 0 0).bind fun t155 => (if t155 = 0 then ((fixed_Clamp.f 5 7 9).bind fun t156 => (if t156 = 7 then ((fixed_Clamp.f 5 7 3).bind fun t157 => (if t157 = 7 then ((fixed_Up.f 1001).bind fun t158 => (if t158 = 2 then ((fixed_Up.f (-1001)).bind fun t159 => (if t159 = (-1) then ((fixed_Near.f 1500).bind fun t160 => (if t160 = 2 then ((fixed_Near.f (-1500)).bind fun t161 => (if t161 = (-2) then ((fixed_Near.f 1499).bind fun t162 => (some (t162 == 1))) else (some false))) else (some false))) else (some false))) else (some false))) else (some false))) else (some false))) else (some false))) else (some false))) else (some false))) else (some false))) else (some false))) else (some false)) = some r := H
        have A7 := Aside0.mk A70
        clear A70
        by_cases c8 : t150 = (-2)
        · rw [if_pos c8] at H
          have c8b0 : (t150 == (-2)) = true := beq_iff_eq.mpr c8
          have c8b1 : (t150 != (-2)) = false := bne_eq_false_iff_eq.mpr c8
          clear c8
          replace H := Option.bind_eq_some_iff.mp H
          obtain ⟨t151, A90, H⟩ := H
          replace H : (if t151 = (-2250) then ((fixed_Mul.f (-1) 999).bind fun t152 => (if t152 = 0 then ((fixed_Div.f 1000 3000).bind fun t153 => (if t153 = 333 then ((fixed_Div.f (-1) 0).bind fun t154 => (if t154 = (-1000000000) then ((fixed_Div.f 0 0).bind fun t155 => (if t155 = 0 then ((fixed_Clamp.f 5 7 9).bind fun t156 => (if t156 = 7 then ((fixed_Clamp.f 5 7 3).bind fun t157 => (if t157 = 7 then ((fixed_Up.f 1001).bind fun t158 => (if t158 = 2 then ((fixed_Up.f (-1001)).bind fun t159 => (if t159 = (-1) then ((fixed_Near.f 1500).bind fun t160 => (if t160 = 2 then ((fixed_Near.f (-1500)).bind fun t161 => (if t161 = (-2) then ((fixed_Near.f 1499).bind fun t162 => (some (t162 == 1))) else (some false))) else (some false))) else (some false))) else (some false))) else (some false))) else (some false))) else (some false))) else (some false))) else (some false))) else (some false))) else (some false)) = some r := H
          have A9 := Aside0.mk A90
          clear A90
          by_cases c10 : t151 = (-2250)
          · rw [if_pos c10] at H
            have c10b0 : (t151 == (-2250)) = true := beq_iff_eq.mpr c10
            have c10b1 : (t151 != (-2250)) = false := bne_eq_false_iff_eq.mpr c10
            clear c10
            replace H := Option.bind_eq_some_iff.mp H
            obtain ⟨t152, A110, H⟩ := H
            replace H : (if t152 = 0 then ((fixed_Div.f 1000 3000).bind fun t153 => (if t153 = 333 then ((fixed_Div.f (-1) 0).bind fun t154 => (if t154 = (-1000000000) then ((fixed_Div.f 0 0).bind fun t155 => (if t155 = 0 then ((fixed_Clamp.f 5 7 9).bind fun t156 => (if t156 = 7 then ((fixed_Clamp.f 5 7 3).bind fun t157 => (if t157 = 7 then ((fixed_Up.f 1001).bind fun t158 => (if t158 = 2 then ((fixed_Up.f (-1001)).bind fun t159 => (if t159 = (-1) then ((fixed_Near.f 1500).bind fun t160 => (if t160 = 2 then ((fixed_Near.f (-1500)).bind fun t161 => (if t161 = (-2) then ((fixed_Near.f 1499).bind fun t162 => (some (t162 == 1))) else (some false))) else (some false))) else (some false))) else (some false))) else (some false))) else (some false))) else (some false))) else (some false))) else (some false))) else (some false)) = some r := H
            have A11 := Aside0.mk A110
            clear A110
            by_cases c12 : t152 = 0
            · rw [if_pos c12] at H
              have c12b0 : (t152 == 0) = true := beq_iff_eq.mpr c12
              have c12b1 : (t152 != 0) = false := bne_eq_false_iff_eq.mpr c12
              clear c12
              replace H := Option.bind_eq_some_iff.mp H
              obtain ⟨t153, A130, H⟩ := H
              replace H : (if t153 = 333 then ((fixed_Div.f (-1) 0).bind fun t154 => (if t154 = (-1000000000) then ((fixed_Div.f 0 0).bind fun t155 => (if t155 = 0 then ((fixed_Clamp.f 5 7 9).bind fun t156 => (if t156 = 7 then ((fixed_Clamp.f 5 7 3).bind fun t157 => (if t157 = 7 then ((fixed_Up.f 1001).bind fun t158 => (if t158 = 2 then ((fixed_Up.f (-1001)).bind fun t159 => (if t159 = (-1) then ((fixed_Near.f 1500).bind fun t160 => (if t160 = 2 then ((fixed_Near.f (-1500)).bind fun t161 => (if t161 = (-2) then ((fixed_Near.f 1499).bind fun t162 => (some (t162 == 1))) else (some false))) else (some false))) else (some false))) else (some false))) else (some false))) else (some false))) else (some false))) else (some false))) else (some false)) = some r := H
              have A13 := Aside0.mk A130
              clear A130
              by_cases c14 : t153 = 333
              · rw [if_pos c14] at H
                have c14b0 : (t153 == 333) = true := beq_iff_eq.mpr c14
                have c14b1 : (t153 != 333) = false := bne_eq_false_iff_eq.mpr c14
                clear c14
                replace H := Option.bind_eq_some_iff.mp H
                obtain ⟨t154, A150, H⟩ := H
                replace H : (if t154 = (-1000000000) then ((fixed_Div.f 0 0).bind fun t155 => (if t155 = 0 then ((fixed_Clamp.f 5 7 9).bind fun t156 => (if t156 = 7 then ((fixed_Clamp.f 5 7 3).bind fun t157 => (if t157 = 7 then ((fixed_Up.f 1001).bind fun t158 => (if t158 = 2 then ((fixed_Up.f (-1001)).bind fun t159 => (if t159 = (-1) then ((fixed_Near.f 1500).bind fun t160 => (if t160 = 2 then ((fixed_Near.f (-1500)).bind fun t161 => (if t161 = (-2) then ((fixed_Near.f 1499).bind fun t162 => (some (t162 == 1))) else (some false))) else (some false))) else (some false))) else (some false))) else (some false))) else (some false))) else (some false))) else (some false)) = some r := H
                have A15 := Aside0.mk A150
                clear A150
                by_cases c16 : t154 = (-1000000000)
                · rw [if_pos c16] at H
                  have c16b0 : (t154 == (-1000000000)) = true := beq_iff_eq.mpr c16
                  have c16b1 : (t154 != (-1000000000)) = false := bne_eq_false_iff_eq.mpr c16
                  clear c16
                  replace H := Option.bind_eq_some_iff.mp H
                  obtain ⟨t155, A170, H⟩ := H
                  replace H : (if t155 = 0 then ((fixed_Clamp.f 5 7 9).bind fun t156 => (if t156 = 7 then ((fixed_Clamp.f 5 7 3).bind fun t157 => (if t157 = 7 then ((fixed_Up.f 1001).bind fun t158 => (if t158 = 2 then ((fixed_Up.f (-1001)).bind fun t159 => (if t159 = (-1) then ((fixed_Near.f 1500).bind fun t160 => (if t160 = 2 then ((fixed_Near.f (-1500)).bind fun t161 => (if t161 = (-2) then ((fixed_Near.f 1499).bind fun t162 => (some (t162 == 1))) else (some false))) else (some false))) else (some false))) else (some false))) else (some false))) else (some false))) else (some false)) = some r := H
                  have A17 := Aside0.mk A170
                  clear A170
                  by_cases c18 : t155 = 0
                  · rw [if_pos c18] at H
                    have c18b0 : (t155 == 0) = true := beq_iff_eq.mpr c18
                    have c18b1 : (t155 != 0) = false := bne_eq_false_iff_eq.mpr c18
                    clear c18
                    replace H := Option.bind_eq_some_iff.mp H
                    obtain ⟨t156, A190, H⟩ := H
                    replace H : (if t156 = 7 then ((fixed_Clamp.f 5 7 3).bind fun t157 => (if t157 = 7 then ((fixed_Up.f 1001).bind fun t158 => (if t158 = 2 then ((fixed_Up.f (-1001)).bind fun t159 => (if t159 = (-1) then ((fixed_Near.f 1500).bind fun t160 => (if t160 = 2 then ((fixed_Near.f (-1500)).bind fun t161 => (if t161 = (-2) then ((fixed_Near.f 1499).bind fun t162 => (some (t162 == 1))) else (some false))) else (some false))) else (some false))) else (some false))) else (some false))) else (some false)) = some r := H
                    have A19 := Aside0.mk A190
                    clear A190
                    by_cases c20 : t156 = 7
                    · rw [if_pos c20] at H
                      have c20b0 : (t156 == 7) = true := beq_iff_eq.mpr c20
                      have c20b1 : (t156 != 7) = false := bne_eq_false_iff_eq.mpr c20
                      clear c20
                      replace H := Option.bind_eq_some_iff.mp H
                      obtain ⟨t157, A210, H⟩ := H
                      replace H : (if t157 = 7 then ((fixed_Up.f 1001).bind fun t158 => (if t158 = 2 then ((fixed_Up.f (-1001)).bind fun t159 => (if t159 = (-1) then ((fixed_Near.f 1500).bind fun t160 => (if t160 = 2 then ((fixed_Near.f (-1500)).bind fun t161 => (if t161 = (-2) then ((fixed_Near.f 1499).bind fun t162 => (some (t162 == 1))) else (some false))) else (some false))) else (some false))) else (some false))) else (some false)) = some r := H
                      have A21 := Aside0.mk A210
                      clear A210
                      by_cases c22 : t157 = 7
                      · rw [if_pos c22] at H
                        have c22b0 : (t157 == 7) = true := beq_iff_eq.mpr c22
                        have c22b1 : (t157 != 7) = false := bne_eq_false_iff_eq.mpr c22
                        clear c22
                        replace H := Option.bind_eq_some_iff.mp H
                        obtain ⟨t158, A230, H⟩ := H
                        replace H : (if t158 = 2 then ((fixed_Up.f (-1001)).bind fun t159 => (if t159 = (-1) then ((fixed_Near.f 1500).bind fun t160 => (if t160 = 2 then ((fixed_Near.f (-1500)).bind fun t161 => (if t161 = (-2) then ((fixed_Near.f 1499).bind fun t162 => (some (t162 == 1))) else (some false))) else (some false))) else (some false))) else (some false)) = some r := H
                        have A23 := Aside0.mk A230
                        clear A230
                        by_cases c24 : t158 = 2
                        · rw [if_pos c24] at H
                          have c24b0 : (t158 == 2) = true := beq_iff_eq.mpr c24
                          have c24b1 : (t158 != 2) = false := bne_eq_false_iff_eq.mpr c24
                          clear c24
                          replace H := Option.bind_eq_some_iff.mp H
                          obtain ⟨t159, A250, H⟩ := H
                          replace H : (if t159 = (-1) then ((fixed_Near.f 1500).bind fun t160 => (if t160 = 2 then ((fixed_Near.f (-1500)).bind fun t161 => (if t161 = (-2) then ((fixed_Near.f 1499).bind fun t162 => (some (t162 == 1))) else (some false))) else (some false))) else (some false)) = some r := H
                          have A25 := Aside0.mk A250
                          clear A250
                          by_cases c26 : t159 = (-1)
                          · rw [if_pos c26] at H
                            have c26b0 : (t159 == (-1)) = true := beq_iff_eq.mpr c26
                            have c26b1 : (t159 != (-1)) = false := bne_eq_false_iff_eq.mpr c26
                            clear c26
                            replace H := Option.bind_eq_some_iff.mp H
                            obtain ⟨t160, A270, H⟩ := H
                            replace H : (if t160 = 2 then ((fixed_Near.f (-1500)).bind fun t161 => (if t161 = (-2) then ((fixed_Near.f 1499).bind fun t162 => (some (t162 == 1))) else (some false))) else (some false)) = some r := H
                            have A27 := Aside0.mk A270
                            clear A270
                            by_cases c28 : t160 = 2
                            · rw [if_pos c28] at H
                              have c28b0 : (t160 == 2) = true := beq_iff_eq.mpr c28
                              have c28b1 : (t160 != 2) = false := bne_eq_false_iff_eq.mpr c28
                              clear c28
                              replace H := Option.bind_eq_some_iff.mp H
                              obtain ⟨t161, A290, H⟩ := H
                              replace H : (if t161 = (-2) then ((fixed_Near.f 1499).bind fun t162 => (some (t162 == 1))) else (some false)) = some r := H
                              have A29 := Aside0.mk A290
                              clear A290
                              by_cases c30 : t161 = (-2)
                              · rw [if_pos c30] at H
                                have c30b0 : (t161 == (-2)) = true := beq_iff_eq.mpr c30
                                have c30b1 : (t161 != (-2)) = false := bne_eq_false_iff_eq.mpr c30
                                clear c30
                                replace H := Option.bind_eq_some_iff.mp H
                                obtain ⟨t162, A310, H⟩ := H
                                replace H : (some (t162 == 1)) = some r := H
                                have A31 := Aside0.mk A310
                                clear A310
                                obtain rfl := Option.some.inj H
                                go_enter Try.func18, Try.ntmps18
                                go_wp2_with (first | ((with_reducible refine gate_callee (f := 19) rfl ?_); refine goesL_ (some 1) rfl rfl Try.func19 (by kernel_rfl) rfl #[.int .i64 4611686018427387904] rfl (by (try simp only [List.map_toArray, List.map_cons, List.map_nil]); first | done | rfl | (simp only [List.length_drop, List.length_take]; rfl)) ?_; (with_reducible refine (fixed_Sat.calls 4611686018427387904 t147 _ A1.out).mono ?_); rintro e w' ⟨rfl, ⟨nd, rfl⟩⟩; refine ⟨_, rfl, ?_⟩) | (go_at_call 19; (with_reducible refine (fixed_Sat.calls (-5) t148 _ A3.out).mono ?_); rintro e w' ⟨rfl, ⟨nd, rfl⟩⟩) | (go_at_call 21; (with_reducible refine (fixed_Add.calls 999999999 5 t149 _ A5.out).mono ?_); rintro e w' ⟨rfl, ⟨nd, rfl⟩⟩) | (go_at_call 23; (with_reducible refine (fixed_Sub.calls 1 3 t150 _ A7.out).mono ?_); rintro e w' ⟨rfl, ⟨nd, rfl⟩⟩) | (go_at_call 25; (with_reducible refine (fixed_Mul.calls 1500 (-1500) t151 _ A9.out).mono ?_); rintro e w' ⟨rfl, ⟨nd, rfl⟩⟩) | (go_at_call 25; (with_reducible refine (fixed_Mul.calls (-1) 999 t152 _ A11.out).mono ?_); rintro e w' ⟨rfl, ⟨nd, rfl⟩⟩) | (go_at_call 27; (with_reducible refine (fixed_Div.calls 1000 3000 t153 _ A13.out).mono ?_); rintro e w' ⟨rfl, ⟨nd, rfl⟩⟩) | (go_at_call 27; (with_reducible refine (fixed_Div.calls (-1) 0 t154 _ A15.out).mono ?_); rintro e w' ⟨rfl, ⟨nd, rfl⟩⟩) | (go_at_call 27; (with_reducible refine (fixed_Div.calls 0 0 t155 _ A17.out).mono ?_); rintro e w' ⟨rfl, ⟨nd, rfl⟩⟩) | (go_at_call 29; (with_reducible refine (fixed_Clamp.calls 5 7 9 t156 _ A19.out).mono ?_); rintro e w' ⟨rfl, ⟨nd, rfl⟩⟩) | (go_at_call 29; (with_reducible refine (fixed_Clamp.calls 5 7 3 t157 _ A21.out).mono ?_); rintro e w' ⟨rfl, ⟨nd, rfl⟩⟩) | (go_at_call 31; (with_reducible refine (fixed_Up.calls 1001 t158 _ A23.out).mono ?_); rintro e w' ⟨rfl, ⟨nd, rfl⟩⟩) | (go_at_call 31; (with_reducible refine (fixed_Up.calls (-1001) t159 _ A25.out).mono ?_); rintro e w' ⟨rfl, ⟨nd, rfl⟩⟩) | (go_at_call 33; (with_reducible refine (fixed_Near.calls 1500 t160 _ A27.out).mono ?_); rintro e w' ⟨rfl, ⟨nd, rfl⟩⟩) | (go_at_call 33; (with_reducible refine (fixed_Near.calls (-1500) t161 _ A29.out).mono ?_); rintro e w' ⟨rfl, ⟨nd, rfl⟩⟩) | (go_at_call 33; (with_reducible refine (fixed_Near.calls 1499 t162 _ A31.out).mono ?_); rintro e w' ⟨rfl, ⟨nd, rfl⟩⟩))
                                go_ret
                                exact ⟨by first | rfl | (simp; done) | (simp [*]; done), by repeat (first | exact Drawn0.refl _ | apply Drawn0.step)⟩
                              · rw [if_neg c30] at H
                                have c30b0 : (t161 == (-2)) = false := beq_eq_false_iff_ne.mpr c30
                                have c30b1 : (t161 != (-2)) = true := bne_iff_ne.mpr c30
                                exact absurd (Option.some.inj H) (by rw [HRT.out]; decide)
                            · rw [if_neg c28] at H
                              have c28b0 : (t160 == 2) = false := beq_eq_false_iff_ne.mpr c28
                              have c28b1 : (t160 != 2) = true := bne_iff_ne.mpr c28
                              exact absurd (Option.some.inj H) (by rw [HRT.out]; decide)
                          · rw [if_neg c26] at H
                            have c26b0 : (t159 == (-1)) = false := beq_eq_false_iff_ne.mpr c26
                            have c26b1 : (t159 != (-1)) = true := bne_iff_ne.mpr c26
                            exact absurd (Option.some.inj H) (by rw [HRT.out]; decide)
                        · rw [if_neg c24] at H
                          have c24b0 : (t158 == 2) = false := beq_eq_false_iff_ne.mpr c24
                          have c24b1 : (t158 != 2) = true := bne_iff_ne.mpr c24
                          exact absurd (Option.some.inj H) (by rw [HRT.out]; decide)
                      · rw [if_neg c22] at H
                        have c22b0 : (t157 == 7) = false := beq_eq_false_iff_ne.mpr c22
                        have c22b1 : (t157 != 7) = true := bne_iff_ne.mpr c22
                        exact absurd (Option.some.inj H) (by rw [HRT.out]; decide)
                    · rw [if_neg c20] at H
                      have c20b0 : (t156 == 7) = false := beq_eq_false_iff_ne.mpr c20
                      have c20b1 : (t156 != 7) = true := bne_iff_ne.mpr c20
                      exact absurd (Option.some.inj H) (by rw [HRT.out]; decide)
                  · rw [if_neg c18] at H
                    have c18b0 : (t155 == 0) = false := beq_eq_false_iff_ne.mpr c18
                    have c18b1 : (t155 != 0) = true := bne_iff_ne.mpr c18
                    exact absurd (Option.some.inj H) (by rw [HRT.out]; decide)
                · rw [if_neg c16] at H
                  have c16b0 : (t154 == (-1000000000)) = false := beq_eq_false_iff_ne.mpr c16
                  have c16b1 : (t154 != (-1000000000)) = true := bne_iff_ne.mpr c16
                  exact absurd (Option.some.inj H) (by rw [HRT.out]; decide)
              · rw [if_neg c14] at H
                have c14b0 : (t153 == 333) = false := beq_eq_false_iff_ne.mpr c14
                have c14b1 : (t153 != 333) = true := bne_iff_ne.mpr c14
                exact absurd (Option.some.inj H) (by rw [HRT.out]; decide)
            · rw [if_neg c12] at H
              have c12b0 : (t152 == 0) = false := beq_eq_false_iff_ne.mpr c12
              have c12b1 : (t152 != 0) = true := bne_iff_ne.mpr c12
              exact absurd (Option.some.inj H) (by rw [HRT.out]; decide)
          · rw [if_neg c10] at H
            have c10b0 : (t151 == (-2250)) = false := beq_eq_false_iff_ne.mpr c10
            have c10b1 : (t151 != (-2250)) = true := bne_iff_ne.mpr c10
            exact absurd (Option.some.inj H) (by rw [HRT.out]; decide)
        · rw [if_neg c8] at H
          have c8b0 : (t150 == (-2)) = false := beq_eq_false_iff_ne.mpr c8
          have c8b1 : (t150 != (-2)) = true := bne_iff_ne.mpr c8
          exact absurd (Option.some.inj H) (by rw [HRT.out]; decide)
      · rw [if_neg c6] at H
        have c6b0 : (t149 == 1000000000) = false := beq_eq_false_iff_ne.mpr c6
        have c6b1 : (t149 != 1000000000) = true := bne_iff_ne.mpr c6
        exact absurd (Option.some.inj H) (by rw [HRT.out]; decide)
    · rw [if_neg c4] at H
      have c4b0 : (t148 == (-5)) = false := beq_eq_false_iff_ne.mpr c4
      have c4b1 : (t148 != (-5)) = true := bne_iff_ne.mpr c4
      exact absurd (Option.some.inj H) (by rw [HRT.out]; decide)
  · rw [if_neg c2] at H
    have c2b0 : (t147 == 1000000000) = false := beq_eq_false_iff_ne.mpr c2
    have c2b1 : (t147 != 1000000000) = true := bne_iff_ne.mpr c2
    exact absurd (Option.some.inj H) (by rw [HRT.out]; decide)

end Go.Proofs.Ytmdkcadngkbphaa.PAll
