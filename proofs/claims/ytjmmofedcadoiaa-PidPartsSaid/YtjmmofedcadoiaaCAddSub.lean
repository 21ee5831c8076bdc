import Derived.Test.YtjmmofedcadoiaaCBase
import Derived.Test.YtjmmofedcadoiaaPAllx0
import Derived.Test.YtjmmofedcadoiaaPAllx17
import Derived.Test.YtjmmofedcadoiaaPAllx19
import Derived.Test.YtjmmofedcadoiaaPAllx20
import Derived.Test.YtjmmofedcadoiaaPAllx21
import Derived.Test.YtjmmofedcadoiaaPAllx22
import Derived.Test.YtjmmofedcadoiaaPAllx26
namespace Go.Proofs.Ytjmmofedcadoiaa.PAll
open Go.RowKit Go.Proofs.YtjmmofedcadoiaaW.PrintWords Go.Proofs.YtjmmofedcadoiaaW.PrintLast Go.Proofs.YtjmmofedcadoiaaW.PrintMore
set_option linter.unusedVariables false
set_option linter.unusedSimpArgs false
theorem refAdd_eq (a b : Int) : governorref08_Add.f a b = fixed_Add.f a b := by
  have h0 := satI_lo a
  have h1 := satI_hi a
  have h2 := satI_lo b
  have h3 := satI_hi b
  unfold governorref08_Add.f fixed_Add.f
  simp only [refSat_eq, Option.bind_some]
  rw [wr (by omega) (by omega)]
theorem refSub_eq (a b : Int) : governorref08_Sub.f a b = fixed_Sub.f a b := by
  have h0 := satI_lo a
  have h1 := satI_hi a
  have h2 := satI_lo b
  have h3 := satI_hi b
  unfold governorref08_Sub.f fixed_Sub.f
  simp only [refSat_eq, Option.bind_some]
  rw [wr (by omega) (by omega)]
theorem nearI_lin {x : Int} (h0 : -1000000000 ≤ x) (h1 : x ≤ 1000000000) : nearI x = if x < 0 then -((-x + 500) / 1000) else (x + 500) / 1000 := by
  unfold nearI
  by_cases c : x < 0
  · rw [if_pos c, if_pos c, tdiv_pos (by omega)]
  · rw [if_neg c, if_neg c, tdiv_pos (by omega)]
theorem refNear_eq (a : Int) : governorref08_Near.f a = fixed_Near.f a := by
  have h0 := satI_lo a
  have h1 := satI_hi a
  unfold governorref08_Near.f fixed_Near.f
  simp only [refSat_eq, Option.bind_some]
  generalize satI a = x at h0 h1 ⊢
  rw [nearI_lin h0 h1]
  by_cases c : x < 0
  · rw [if_pos c, if_pos c, wr (n := -x) (by omega) (by omega), wr (n := -x + 500) (by omega) (by omega), tdiv_pos (by omega), wr (n := (-x + 500) / 1000) (by omega) (by omega), wr (by omega) (by omega)]
  · rw [if_neg c, if_neg c, wr (n := x + 500) (by omega) (by omega), tdiv_pos (by omega), wr (by omega) (by omega)]
end Go.Proofs.Ytjmmofedcadoiaa.PAll
