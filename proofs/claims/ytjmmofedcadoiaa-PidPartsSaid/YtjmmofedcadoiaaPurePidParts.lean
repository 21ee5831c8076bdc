/- The law PidParts (P12.3): each weight alone tells its own part; with all of them 0 nothing is wanted, and as much is carried on. -/
import Derived.Test.YtjmmofedcadoiaaCAddSub
import Derived.Test.YtjmmofedcadoiaaCMul
import Derived.Test.YtjmmofedcadoiaaCPid
import Derived.Test.YtjmmofedcadoiaaPAllx0
import Derived.Test.YtjmmofedcadoiaaPAllx17
import Derived.Test.YtjmmofedcadoiaaPAllx18
import Derived.Test.YtjmmofedcadoiaaPAllx19
import Derived.Test.YtjmmofedcadoiaaPAllx20
import Derived.Test.YtjmmofedcadoiaaPAllx21
import Derived.Test.YtjmmofedcadoiaaPAllx22
import Derived.Test.YtjmmofedcadoiaaPAllx23
import Derived.Test.YtjmmofedcadoiaaPAllx24
import Derived.Test.YtjmmofedcadoiaaPAllx25
import Derived.Test.YtjmmofedcadoiaaPAllx30
import Derived.Test.YtjmmofedcadoiaaPAllx31
import Derived.Test.YtjmmofedcadoiaaWkPidParts
namespace Go.Proofs.Ytjmmofedcadoiaa.Pure
open Go.RowKit Go.Proofs.Ytjmmofedcadoiaa.PAll Go.Proofs.YtjmmofedcadoiaaW.PrintWords Go.Proofs.YtjmmofedcadoiaaW.PrintLast Go.Proofs.YtjmmofedcadoiaaW.PrintMore
set_option linter.unusedVariables false
set_option linter.unusedSimpArgs false
def nr (x : Int) : Int := mx (-1000) (mn 1000 (nearI (satI x)))
theorem pidN_p (k e s c : Int) : pidN k 0 0 e s c = nr (satI (mulI (satI k) (satI e))) := by
  unfold pidN pidW nr
  simp only [satI_0, mulI_0l, Int.add_zero, satI_satI]
theorem pidN_i (k e s c : Int) : pidN 0 k 0 e s c = nr (satI (mulI (satI k) (satI s))) := by
  unfold pidN pidW nr
  simp only [satI_0, mulI_0l, Int.add_zero, Int.zero_add, satI_satI]
theorem pidN_c (k e s c : Int) : pidN 0 0 k e s c = nr (satI (mulI (satI k) (satI c))) := by
  unfold pidN pidW nr
  simp only [satI_0, mulI_0l, Int.add_zero, Int.zero_add, satI_satI]
theorem nr_z (x : Int) : nr (satI (mulI (satI 0) x)) = 0 := by
  rw [satI_0, mulI_0l, satI_0]
  decide
theorem pidN_z (e s c : Int) : pidN 0 0 0 e s c = 0 := by
  rw [pidN_p, satI_0, mulI_0l, satI_0]
  decide
theorem near_eq (x : Int) : governorlaw12_near.f x = some (nr x) := by
  have hN : ∀ a, fixed_Near.f a = some (nearI (satI a)) := fun _ => rfl
  have e : ∀ n, mn (mx n (-1000)) 1000 = mx (-1000) (mn 1000 n) := fun n => by unfold mx mn; omega
  unfold governorlaw12_near.f nr
  simp only [refNear_eq, hN, Option.bind_some, e]
theorem PidParts : governorlaw12_PidParts.Pure := by
  intro t w s p h u _ _ _ _ _
  refine ⟨4, ?_⟩
  have hA : ∀ a b, fixed_Add.f a b = some (sumI a b) := fun _ _ => rfl
  have hS : ∀ a b, fixed_Sub.f a b = some (errI b a) := fun _ _ => rfl
  have hM : ∀ a b, fixed_Mul.f a b = some (satI (mulI (satI a) (satI b))) := fun _ _ => rfl
  have h1 : ∀ m t lb kp ki kd x lw s p h u, pid_Next.f 4 m t lb kp ki kd x lw s p h u = _ := pid_eq 0
  have hh : governorlaw12_head.f 4 = some true := pidHead 0
  have hc : ∀ e, chgI true p e = errI p e := fun e => rfl
  have hc' : ∀ e, chgI false p e = 0 := fun e => rfl
  unfold governorlaw12_PidParts.f
  cases h with
  | true => simp only [hh, governorlaw12_Of.f, h1, refSub_eq, refAdd_eq, refMul_eq, hA, hS, hM, hc, pidN_p, pidN_i, pidN_c, pidN_z, nr_z, near_eq, governorlaw12_PidParts.j0, Option.bind_some, reduceIte, beq_self_eq_true, Bool.and_self]
  | false => simp only [hh, governorlaw12_Of.f, h1, refSub_eq, refAdd_eq, refMul_eq, hA, hS, hM, hc', pidN_p, pidN_i, pidN_c, pidN_z, nr_z, near_eq, governorlaw12_PidParts.j0, Option.bind_some, reduceIte, beq_self_eq_true, Bool.and_self, Bool.false_eq_true]
end Go.Proofs.Ytjmmofedcadoiaa.Pure
