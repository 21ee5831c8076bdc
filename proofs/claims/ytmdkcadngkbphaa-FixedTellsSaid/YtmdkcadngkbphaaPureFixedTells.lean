/- The law FixedTells (P8.1): what comes of any numbers is the document's: for all 64 bit numbers. -/
import Derived.Test.YtmdkcadngkbphaaCFixed
import Derived.Test.YtmdkcadngkbphaaCNum
import Derived.Test.YtmdkcadngkbphaaPAllx0
import Derived.Test.YtmdkcadngkbphaaPAllx1
import Derived.Test.YtmdkcadngkbphaaPAllx16
import Derived.Test.YtmdkcadngkbphaaPAllx17
import Derived.Test.YtmdkcadngkbphaaPAllx19
import Derived.Test.YtmdkcadngkbphaaPAllx2
import Derived.Test.YtmdkcadngkbphaaPAllx20
import Derived.Test.YtmdkcadngkbphaaPAllx23
import Derived.Test.YtmdkcadngkbphaaPAllx3
import Derived.Test.YtmdkcadngkbphaaPAllx4
import Derived.Test.YtmdkcadngkbphaaPAllx8
import Derived.Test.YtmdkcadngkbphaaWkFixedTells
namespace Go.Proofs.Ytmdkcadngkbphaa.Pure
open Go.RowKit Go.Proofs.Ytmdkcadngkbphaa.PAll Go.Proofs.YtmdkcadngkbphaaW.PrintWords Go.Proofs.YtmdkcadngkbphaaW.PrintLast Go.Proofs.YtmdkcadngkbphaaW.PrintMore
set_option linter.unusedVariables false
set_option linter.unusedSimpArgs false
theorem FixedTells : governorlaw08_FixedTells.Pure := by
  intro a b c ha hb hc
  refine ⟨2, ?_⟩
  unfold governorlaw08_FixedTells.f
  have hd : governorref08_Div.f 2 a b = some (satI (divI (satI a) (satI b))) := refDiv_eq 0 a b
  have hD : fixed_Div.f a b = some (satI (divI (satI a) (satI b))) := rfl
  have hA : fixed_Add.f a b = some (satI (satI a + satI b)) := rfl
  have hS : fixed_Sub.f a b = some (satI (satI a - satI b)) := rfl
  have hM : fixed_Mul.f a b = some (satI (mulI (satI a) (satI b))) := rfl
  have hN : fixed_Near.f a = some (nearI (satI a)) := rfl
  simp only [fixedHead, sat_eq, refSat_eq, refAdd_eq, refSub_eq, refMul_eq, hd, hD, hA, hS, hM, clamp_eq, refClamp_eq, up_eq, refUp_eq, refNear_eq, hN, Option.bind_some, reduceIte, beq_self_eq_true]
end Go.Proofs.Ytmdkcadngkbphaa.Pure
