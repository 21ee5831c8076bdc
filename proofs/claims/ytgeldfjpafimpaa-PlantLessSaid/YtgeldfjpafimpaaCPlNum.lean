import Derived.Test.YtgeldfjpafimpaaCBase
import Derived.Test.YtgeldfjpafimpaaPAllx0
import Derived.Test.YtgeldfjpafimpaaPAllx10
import Derived.Test.YtgeldfjpafimpaaPAllx19
import Derived.Test.YtgeldfjpafimpaaPAllx7
import Derived.Test.YtgeldfjpafimpaaPAllx8
import Derived.Test.YtgeldfjpafimpaaPAllx9
namespace Go.Proofs.Ytgeldfjpafimpaa.PAll
open Go.RowKit Go.Proofs.YtgeldfjpafimpaaW.PrintWords Go.Proofs.YtgeldfjpafimpaaW.PrintLast Go.Proofs.YtgeldfjpafimpaaW.PrintMore
set_option linter.unusedVariables false
set_option linter.unusedSimpArgs false
theorem refDiv_eq (k : Nat) (a b : Int) : governorref08_Div.f (k + 1 + 1) a b = fixed_Div.f a b := by
  have h0 := satI_lo a
  have h1 := satI_hi a
  unfold governorref08_Div.f fixed_Div.f
  simp only [refSat_eq, Option.bind_some]
  generalize satI a = x at h0 h1 ⊢
  generalize satI b = y
  unfold divI
  have hin := tdivB (b := y) (N := 1000000000000) (show -1000000000000 ≤ x * 1000 by omega) (by omega)
  by_cases c : y = 0
  · rw [if_pos c, if_pos c]
    by_cases c1 : x > 0
    · simp only [governorref08_Div.j0, c1, decide_true, reduceIte]
      rw [if_neg (by omega), satI_big (by omega)]
    · simp only [governorref08_Div.j0, c1, decide_false, Bool.false_eq_true, reduceIte]
      rw [if_pos c]
      by_cases c2 : x < 0
      · simp only [governorref08_Div.j1, c2, decide_true, reduceIte]
        rw [if_neg (by omega), satI_small (by omega)]
      · simp only [governorref08_Div.j1, c2, decide_false, Bool.false_eq_true, reduceIte]
        rw [if_pos c, if_pos (by omega)]
        rfl
  · rw [if_neg c, if_neg c]
    simp only [governorref08_Div.j0, governorref08_Div.j1, Bool.false_eq_true, reduceIte]
    rw [if_neg c, if_neg c]
    rw [wr (n := 1000 * x) (by omega) (by omega), Int.mul_comm 1000 x, wr (by omega) (by omega), refSat_eq]
    rfl
theorem refAdd_eq (a b : Int) : governorref08_Add.f a b = fixed_Add.f a b := by
  have h0 := satI_lo a
  have h1 := satI_hi a
  have h2 := satI_lo b
  have h3 := satI_hi b
  unfold governorref08_Add.f fixed_Add.f
  simp only [refSat_eq, Option.bind_some]
  rw [wr (by omega) (by omega)]
end Go.Proofs.Ytgeldfjpafimpaa.PAll
