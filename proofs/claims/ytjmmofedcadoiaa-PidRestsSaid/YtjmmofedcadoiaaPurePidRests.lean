/- The law PidRests: at its target it wants no more, and carries nothing on; and by what has changed alone, a load that stays wants no more. -/
import Derived.Test.YtjmmofedcadoiaaCBase
import Derived.Test.YtjmmofedcadoiaaCPid
import Derived.Test.YtjmmofedcadoiaaPAllx0
import Derived.Test.YtjmmofedcadoiaaPAllx17
import Derived.Test.YtjmmofedcadoiaaPAllx25
import Derived.Test.YtjmmofedcadoiaaPAllx32
import Derived.Test.YtjmmofedcadoiaaWkPidRests
namespace Go.Proofs.Ytjmmofedcadoiaa.Pure
open Go.RowKit Go.Proofs.Ytjmmofedcadoiaa.PAll Go.Proofs.YtjmmofedcadoiaaW.PrintWords Go.Proofs.YtjmmofedcadoiaaW.PrintLast Go.Proofs.YtjmmofedcadoiaaW.PrintMore
set_option linter.unusedVariables false
set_option linter.unusedSimpArgs false
theorem pidN_0 (kp ki kd : Int) : pidN kp ki kd 0 0 0 = 0 := by
  unfold pidN pidW
  simp only [satI_0, mulI_0, nearI_0, Int.add_zero]
  decide
theorem pidN_d (kd e s : Int) : pidN 0 0 kd e s 0 = 0 := by
  unfold pidN pidW
  simp only [satI_0, mulI_0, mulI_0l, nearI_0, Int.add_zero]
  decide
theorem errI_same (t : Int) : errI t t = 0 := by unfold errI; rw [Int.sub_self, satI_0]
theorem sumI_00 : sumI 0 0 = 0 := by unfold sumI; simp [satI_0]
theorem chgI_same (e : Int) : chgI true e e = 0 := by unfold chgI; simp [satI_0]
theorem chgI_f (p e : Int) : chgI false p e = 0 := rfl
theorem rests_loop (kp ki kd u n t : Int) (hn : Int.tmod (wrap64 n) 40 < 40) (d : Nat) : ∀ (k : Nat) (i : Int) (h : Bool), 0 ≤ i → Int.tmod (wrap64 n) 40 - i ≤ (d : Int) → d + 5 < k →
    governorlaw12_PidRests.l0 k kp ki kd u n true t i 0 0 h = some true := by
  induction d with
  | zero =>
    intro k i h h0 hd hk
    obtain ⟨k, rfl⟩ : ∃ m, k = m + 1 := ⟨k - 1, by omega⟩
    have hp := @pid_eqk k (by omega)
    simp only [governorlaw12_PidRests.l0, governorlaw12_Of.f, hp, Option.bind_some, chgI_same, pidN_d, reduceIte, beq_self_eq_true]
    rw [if_neg (by omega)]
  | succ d ih =>
    intro k i h h0 hd hk
    obtain ⟨k, rfl⟩ : ∃ m, k = m + 1 := ⟨k - 1, by omega⟩
    have hp := @pid_eqk k (by omega)
    have hc : chgI h 0 0 = 0 := by cases h; rfl; exact chgI_same 0
    simp only [governorlaw12_PidRests.l0, governorlaw12_Of.f, hp, Option.bind_some, chgI_same, pidN_d, errI_same, sumI_00, hc, pidN_0, reduceIte, beq_self_eq_true]
    by_cases c : i < Int.tmod (wrap64 n) 40
    · rw [if_pos c, wr (n := i + 1) (by omega) (by omega)]
      rw [if_neg (by decide)]
      exact ih k (i + 1) true (by omega) (by omega) (by omega)
    · rw [if_neg c]
theorem PidRests : governorlaw12_PidRests.Pure := by
  intro t kp ki kd u n _ _ _ _ _ _
  refine ⟨100 + 4, ?_⟩
  unfold governorlaw12_PidRests.f
  rw [pidHead, refSat_eq]
  simp only [Option.bind_some]
  have b := tmod_bounds (wrap64 n) 40 (by omega)
  exact rests_loop kp ki kd u n (satI t) (by omega) 40 104 0 false (by omega) (by omega) (by omega)
end Go.Proofs.Ytjmmofedcadoiaa.Pure
