import Derived.Test.YtjmmofedcadoiaaCAddSub
import Derived.Test.YtjmmofedcadoiaaCBase
import Derived.Test.YtjmmofedcadoiaaCMul
import Derived.Test.YtjmmofedcadoiaaPAllx0
import Derived.Test.YtjmmofedcadoiaaPAllx17
import Derived.Test.YtjmmofedcadoiaaPAllx18
import Derived.Test.YtjmmofedcadoiaaPAllx19
import Derived.Test.YtjmmofedcadoiaaPAllx20
import Derived.Test.YtjmmofedcadoiaaPAllx21
import Derived.Test.YtjmmofedcadoiaaPAllx22
import Derived.Test.YtjmmofedcadoiaaPAllx23
import Derived.Test.YtjmmofedcadoiaaPAllx24
import Derived.Test.YtjmmofedcadoiaaPAllx25
import Derived.Test.YtjmmofedcadoiaaPAllx27
namespace Go.Proofs.Ytjmmofedcadoiaa.PAll
open Go.RowKit Go.Proofs.YtjmmofedcadoiaaW.PrintWords Go.Proofs.YtjmmofedcadoiaaW.PrintLast Go.Proofs.YtjmmofedcadoiaaW.PrintMore
set_option linter.unusedVariables false
set_option linter.unusedSimpArgs false
theorem satI_0 : satI 0 = 0 := satI_in (by omega) (by omega)
theorem satI_satI (n : Int) : satI (satI n) = satI n := satI_in (satI_lo n) (satI_hi n)
theorem satI_neg (n : Int) : satI (-n) = -satI n := by unfold satI mx mn; omega
theorem mulI_neg (a b : Int) : mulI a (-b) = -mulI a b := by
  unfold mulI
  rw [Int.mul_neg, Int.neg_tdiv]
theorem mulI_0 (a : Int) : mulI a 0 = 0 := by unfold mulI; simp
theorem mulI_0l (a : Int) : mulI 0 a = 0 := by unfold mulI; simp
theorem nearI_neg (n : Int) : nearI (-n) = -nearI n := by
  unfold nearI
  by_cases h : n < 0
  · rw [if_pos h, if_neg (by omega), Int.neg_neg]
  · by_cases q : n = 0
    · subst q; decide
    · rw [if_neg h, if_pos (by omega), Int.neg_neg]
theorem nearI_0 : nearI 0 = 0 := by decide
/-- What is off, what has changed, and the answer. -/
def errI (t u : Int) : Int := satI (satI u - satI t)
def sumI (s e : Int) : Int := satI (satI s + satI e)
def chgI (h : Bool) (p e : Int) : Int := if h = true then satI (satI e - satI p) else 0
def pidW (kp ki kd e s c : Int) : Int := satI (satI (satI (satI (satI (mulI (satI kp) (satI e))) + satI (satI (mulI (satI ki) (satI s))))) + satI (satI (mulI (satI kd) (satI c))))
def pidN (kp ki kd e s c : Int) : Int := mx (-1000) (mn 1000 (nearI (satI (pidW kp ki kd e s c))))
theorem errI_in (t u : Int) : -1000000000 ≤ errI t u ∧ errI t u ≤ 1000000000 := ⟨satI_lo _, satI_hi _⟩
theorem sumI_in (t u : Int) : -1000000000 ≤ sumI t u ∧ sumI t u ≤ 1000000000 := ⟨satI_lo _, satI_hi _⟩
theorem pidN_in (kp ki kd e s c : Int) : -1000 ≤ pidN kp ki kd e s c ∧ pidN kp ki kd e s c ≤ 1000 := by unfold pidN mx mn; omega
theorem weighed_eq (k : Nat) (a b c : S62) : pid_weighed.f (k + 4) [a, b, c] = some (satI (satI (satI (satI (satI (mulI (satI a.f0) (satI a.f1))) + satI (satI (mulI (satI b.f0) (satI b.f1))))) + satI (satI (mulI (satI c.f0) (satI c.f1))))) := by
  have hA : ∀ a b, fixed_Add.f a b = some (satI (satI a + satI b)) := fun _ _ => rfl
  have hM : ∀ a b, fixed_Mul.f a b = some (satI (mulI (satI a) (satI b))) := fun _ _ => rfl
  have w1 : wrap64 (0 + 1) = 1 := wr (by omega) (by omega)
  have w2 : wrap64 (1 + 1) = 2 := wr (by omega) (by omega)
  have w3 : wrap64 (2 + 1) = 3 := wr (by omega) (by omega)
  have l3 : ((([a, b, c] : List S62).length : Nat) : Int) = 3 := rfl
  have r0 : rd_T62 [a, b, c] 0 = a := rfl
  have r1 : rd_T62 [a, b, c] 1 = b := rfl
  have r2 : rd_T62 [a, b, c] 2 = c := rfl
  unfold pid_weighed.f
  rw [l3]
  simp only [pid_weighed.l0, l3, hA, hM, w1, w2, w3, r0, r1, r2, Option.bind_some]
  rw [if_pos (by omega), if_pos (by omega), if_pos (by omega), if_pos (by omega), if_pos (by omega), if_pos (by omega), if_pos (by omega), if_pos (by omega), if_pos (by omega), if_neg (by omega)]
  simp only [satI_satI, satI_0, Int.zero_add]
theorem pid_eq (k : Nat) (m t : Int) (lb : List S29) (kp ki kd x : Int) (lw : List S71) (s p : Int) (h : Bool) (u : Int) :
    pid_Next.f (k + 4) m t lb kp ki kd x lw s p h u = some (sumI s (errI t u), errI t u, true, pidN kp ki kd (errI t u) (sumI s (errI t u)) (chgI h p (errI t u))) := by
  have hA : ∀ a b, fixed_Add.f a b = some (satI (satI a + satI b)) := fun _ _ => rfl
  have hS : ∀ a b, fixed_Sub.f a b = some (satI (satI a - satI b)) := fun _ _ => rfl
  have hN : ∀ a, fixed_Near.f a = some (nearI (satI a)) := fun _ => rfl
  unfold pid_Next.f
  cases h <;> simp only [hA, hS, hN, weighed_eq, Option.bind_some, reduceIte, Bool.false_eq_true] <;> simp [sumI, errI, pidN, pidW, chgI]
theorem pid_eqk {k : Nat} (hk : 4 ≤ k) (m t : Int) (lb : List S29) (kp ki kd x : Int) (lw : List S71) (s p : Int) (h : Bool) (u : Int) :
    pid_Next.f k m t lb kp ki kd x lw s p h u = some (sumI s (errI t u), errI t u, true, pidN kp ki kd (errI t u) (sumI s (errI t u)) (chgI h p (errI t u))) := by
  obtain ⟨k, rfl⟩ : ∃ m, k = m + 4 := ⟨k - 4, by omega⟩
  exact pid_eq k m t lb kp ki kd x lw s p h u
theorem pidHead (k : Nat) : governorlaw12_head.f (k + 4) = some true := by
  unfold governorlaw12_head.f
  simp only [governorlaw12_Of.f, Option.bind_some, pid_eq]
  decide +kernel
theorem refPid_eq (k : Nat) (m t : Int) (lb : List S29) (kp ki kd x : Int) (lw : List S71) (s p : Int) (h : Bool) (u : Int) :
    governorref12_Next.f (k + 1) m t lb kp ki kd x lw s p h u = some (sumI s (errI t u), errI t u, true, pidN kp ki kd (errI t u) (sumI s (errI t u)) (chgI h p (errI t u))) := by
  have hA : ∀ a b, fixed_Add.f a b = some (satI (satI a + satI b)) := fun _ _ => rfl
  have hS : ∀ a b, fixed_Sub.f a b = some (satI (satI a - satI b)) := fun _ _ => rfl
  have hM : ∀ a b, fixed_Mul.f a b = some (satI (mulI (satI a) (satI b))) := fun _ _ => rfl
  have hN : ∀ a, fixed_Near.f a = some (nearI (satI a)) := fun _ => rfl
  have e : ∀ n, mn (mx n (-1000)) 1000 = mx (-1000) (mn 1000 n) := fun n => by unfold mx mn; omega
  unfold governorref12_Next.f
  cases h <;> simp only [governorref12_Next.j0, refAdd_eq, refSub_eq, refMul_eq, refNear_eq, hA, hS, hM, hN, e, Option.bind_some, reduceIte, Bool.false_eq_true] <;> simp [sumI, errI, pidN, pidW, chgI]
end Go.Proofs.Ytjmmofedcadoiaa.PAll
