/- The law PidMirror: what is as far below the target as something else is above it wants as many fewer as that wants more. -/
import Derived.Test.YtjmmofedcadoiaaCBase
import Derived.Test.YtjmmofedcadoiaaCPid
import Derived.Test.YtjmmofedcadoiaaPAllx0
import Derived.Test.YtjmmofedcadoiaaPAllx17
import Derived.Test.YtjmmofedcadoiaaPAllx25
import Derived.Test.YtjmmofedcadoiaaPAllx31
import Derived.Test.YtjmmofedcadoiaaWkPidMirror
namespace Go.Proofs.Ytjmmofedcadoiaa.Pure
open Go.RowKit Go.Proofs.Ytjmmofedcadoiaa.PAll Go.Proofs.YtjmmofedcadoiaaW.PrintWords Go.Proofs.YtjmmofedcadoiaaW.PrintLast Go.Proofs.YtjmmofedcadoiaaW.PrintMore
set_option linter.unusedVariables false
set_option linter.unusedSimpArgs false
theorem errI_odd (v : Int) (h0 : -1000000000 < v) (h1 : v < 100000000) : errI 500 (500 + v) = v := by
  unfold errI satI mx mn; omega
theorem sumI_odd (s e : Int) : sumI (-s) (-e) = -sumI s e := by
  unfold sumI
  rw [satI_neg s, satI_neg e, ← Int.neg_add, satI_neg]
theorem chgI_odd (h : Bool) (p e : Int) : chgI h (-p) (-e) = -chgI h p e := by
  unfold chgI
  cases h
  · simp
  · simp only [reduceIte]
    rw [satI_neg e, satI_neg p, show -satI e - -satI p = -(satI e - satI p) by omega, satI_neg]
theorem pidN_odd (kp ki kd e s c : Int) : pidN kp ki kd (-e) (-s) (-c) = -pidN kp ki kd e s c := by
  have a : pidW kp ki kd (-e) (-s) (-c) = -pidW kp ki kd e s c := by
    unfold pidW
    simp only [satI_neg, mulI_neg, ← Int.neg_add]
  unfold pidN
  rw [a, satI_neg, nearI_neg]
  unfold mx mn
  omega
theorem mirror_loop (us : List Int) (hl : us.length ≤ 900) (m : Int) (lb : List S29) (kp ki kd x : Int) (lw : List S71) (d : Nat) : ∀ (k : Nat) (i s p : Int) (h : Bool), 0 ≤ i → i + (d : Int) = (us.length : Int) → d + 4 < k →
    governorlaw12_PidMirror.l0 k us true i m 500 lb kp ki kd x lw s p h (-s) (-p) h = some true := by
  induction d with
  | zero =>
    intro k i s p h h0 hd hk
    obtain ⟨k, rfl⟩ : ∃ m, k = m + 1 := ⟨k - 1, by omega⟩
    simp only [governorlaw12_PidMirror.l0]
    rw [if_neg (by omega)]
  | succ d ih =>
    intro k i s p h h0 hd hk
    obtain ⟨k, rfl⟩ : ∃ m, k = m + 1 := ⟨k - 1, by omega⟩
    have hp := @pid_eqk k (by omega)
    simp only [governorlaw12_PidMirror.l0, hp, Option.bind_some]
    have b := tmod_bounds (wrap64 (rd us i)) 100000000 (by omega)
    generalize Int.tmod (wrap64 (rd us i)) 100000000 = v at b ⊢
    rw [wr (n := 500 + v) (by omega) (by omega), wr (n := 500 - v) (by omega) (by omega)]
    have q1 : errI 500 (500 + v) = v := errI_odd v (by omega) (by omega)
    have q2 : errI 500 (500 - v) = -v := errI_odd (-v) (by omega) (by omega)
    rw [q1, q2, sumI_odd, chgI_odd, pidN_odd]
    have e2 := sumI_in s v
    have e3 := pidN_in kp ki kd v (sumI s v) (chgI h p v)
    simp only [Int.neg_neg]
    rw [wr (n := sumI s v) (by omega) (by omega), wr (n := v) (by omega) (by omega), wr (n := pidN kp ki kd v (sumI s v) (chgI h p v)) (by omega) (by omega)]
    rw [if_pos (by omega), if_pos h0]
    simp only [reduceIte]
    rw [wr (n := i + 1) (by omega) (by omega)]
    exact ih k (i + 1) _ _ _ (by omega) (by omega) (by omega)
theorem PidMirror : governorlaw12_PidMirror.Pure := by
  intro kp ki kd us _ _ _ _ _
  suffices hs : ∀ n : Nat, 1000 ≤ n → governorlaw12_PidMirror.f (n + 4) kp ki kd us = some true from ⟨1000 + 4, hs 1000 (Nat.le_refl _)⟩
  intro n hn
  unfold governorlaw12_PidMirror.f
  rw [pidHead]
  simp only [Option.bind_some, governorlaw12_Of.f]
  by_cases c : (us.length : Int) > 900
  · rw [if_pos c]
  · rw [if_neg c]
    have q := mirror_loop us (by omega) 3 [] kp ki kd 0 [] us.length (n + 4) 0 0 0 false (by omega) (by omega) (by omega)
    rw [Int.neg_zero] at q
    exact q
end Go.Proofs.Ytjmmofedcadoiaa.Pure
