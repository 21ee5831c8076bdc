import Derived.Test.YtmdkcadngkbphaaCNum
import Derived.Test.YtmdkcadngkbphaaPAllx0
import Derived.Test.YtmdkcadngkbphaaPAllx1
import Derived.Test.YtmdkcadngkbphaaPAllx16
import Derived.Test.YtmdkcadngkbphaaPAllx17
import Derived.Test.YtmdkcadngkbphaaPAllx18
import Derived.Test.YtmdkcadngkbphaaPAllx19
import Derived.Test.YtmdkcadngkbphaaPAllx20
import Derived.Test.YtmdkcadngkbphaaPAllx21
import Derived.Test.YtmdkcadngkbphaaPAllx22
import Derived.Test.YtmdkcadngkbphaaPAllx24
namespace Go.Proofs.Ytmdkcadngkbphaa.PAll
open Go.RowKit Go.Proofs.YtmdkcadngkbphaaW.PrintWords Go.Proofs.YtmdkcadngkbphaaW.PrintLast Go.Proofs.YtmdkcadngkbphaaW.PrintMore
set_option linter.unusedVariables false
set_option linter.unusedSimpArgs false
theorem fixedHead : governorlaw08_head.f = some true := by decide +kernel
theorem refAdd_eq (a b : Int) : governorref08_Add.f a b = fixed_Add.f a b := by
  have h0 := satI_lo a
  have h1 := satI_hi a
  have h2 := satI_lo b
  have h3 := satI_hi b
  unfold governorref08_Add.f fixed_Add.f
  simp only [refSat_eq, Option.bind_some]
  rw [wr (by omega) (by omega)]
theorem refSub_eq (a b : Int) : governorref08_Sub.f a b = fixed_Sub.f a b := by
  have h0 := satI_lo a
  have h1 := satI_hi a
  have h2 := satI_lo b
  have h3 := satI_hi b
  unfold governorref08_Sub.f fixed_Sub.f
  simp only [refSat_eq, Option.bind_some]
  rw [wr (by omega) (by omega)]
theorem clamp_eq (a b c : Int) : fixed_Clamp.f a b c = some (if satI a < satI b then satI b else if satI a > satI c then satI c else satI a) := by
  unfold fixed_Clamp.f
  simp only [sat_eq, Option.bind_some]
  by_cases h1 : satI a < satI b
  · rw [if_pos h1, if_pos h1]
  · rw [if_neg h1, if_neg h1]
    by_cases h2 : satI a > satI c
    · rw [if_pos h2, if_pos h2]
    · rw [if_neg h2, if_neg h2]
theorem refClamp_eq (a b c : Int) : governorref08_Clamp.f a b c = some (if satI a < satI b then satI b else if satI a > satI c then satI c else satI a) := by
  unfold governorref08_Clamp.f
  simp only [refSat_eq, Option.bind_some]
  by_cases h1 : satI a < satI b
  · rw [if_pos h1, if_pos h1]
  · rw [if_neg h1, if_neg h1]
    by_cases h2 : satI a > satI c
    · rw [if_pos h2, if_pos h2]
    · rw [if_neg h2, if_neg h2]
theorem nearI_lin {x : Int} (h0 : -1000000000 ≤ x) (h1 : x ≤ 1000000000) : nearI x = if x < 0 then -((-x + 500) / 1000) else (x + 500) / 1000 := by
  unfold nearI
  by_cases c : x < 0
  · rw [if_pos c, if_pos c, tdiv_pos (by omega)]
  · rw [if_neg c, if_neg c, tdiv_pos (by omega)]
theorem refNear_eq (a : Int) : governorref08_Near.f a = fixed_Near.f a := by
  have h0 := satI_lo a
  have h1 := satI_hi a
  unfold governorref08_Near.f fixed_Near.f
  simp only [refSat_eq, Option.bind_some]
  generalize satI a = x at h0 h1 ⊢
  rw [nearI_lin h0 h1]
  by_cases c : x < 0
  · rw [if_pos c, if_pos c, wr (n := -x) (by omega) (by omega), wr (n := -x + 500) (by omega) (by omega), tdiv_pos (by omega), wr (n := (-x + 500) / 1000) (by omega) (by omega), wr (by omega) (by omega)]
  · rw [if_neg c, if_neg c, wr (n := x + 500) (by omega) (by omega), tdiv_pos (by omega), wr (by omega) (by omega)]
theorem right_eq (a : Int) : governorlaw08_right.f a = some (decide (-1000000000 ≤ a) && decide (a ≤ 1000000000)) := by
  unfold governorlaw08_right.f
  by_cases h : -1000000000 ≤ a <;> simp [h]
theorem right_sat (a : Int) : governorlaw08_right.f (satI a) = some true := by
  rw [right_eq]; simp [satI_lo a, satI_hi a]
theorem right_in {a : Int} (h0 : -1000000000 ≤ a) (h1 : a ≤ 1000000000) : governorlaw08_right.f a = some true := by
  rw [right_eq]; simp [h0, h1]
end Go.Proofs.Ytmdkcadngkbphaa.PAll
