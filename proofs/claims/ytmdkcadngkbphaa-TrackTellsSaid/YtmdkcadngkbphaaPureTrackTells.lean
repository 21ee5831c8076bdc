/- The law TrackTells (P10.1): how many any load wants is the document's: for every target, number of replicas and load. -/
import Derived.Test.YtmdkcadngkbphaaCNum
import Derived.Test.YtmdkcadngkbphaaCTrack
import Derived.Test.YtmdkcadngkbphaaPAllx0
import Derived.Test.YtmdkcadngkbphaaPAllx1
import Derived.Test.YtmdkcadngkbphaaPAllx10
import Derived.Test.YtmdkcadngkbphaaPAllx2
import Derived.Test.YtmdkcadngkbphaaPAllx3
import Derived.Test.YtmdkcadngkbphaaPAllx4
import Derived.Test.YtmdkcadngkbphaaPAllx6
import Derived.Test.YtmdkcadngkbphaaPAllx8
import Derived.Test.YtmdkcadngkbphaaPAllx9
import Derived.Test.YtmdkcadngkbphaaWkTrackTells
namespace Go.Proofs.Ytmdkcadngkbphaa.Pure
open Go.RowKit Go.Proofs.Ytmdkcadngkbphaa.PAll Go.Proofs.YtmdkcadngkbphaaW.PrintWords Go.Proofs.YtmdkcadngkbphaaW.PrintLast Go.Proofs.YtmdkcadngkbphaaW.PrintMore
set_option linter.unusedVariables false
set_option linter.unusedSimpArgs false
theorem TrackTells : governorlaw10_TrackTells.Pure := by
  intro t c u h1 h2 h3
  refine ⟨2, ?_⟩
  unfold governorlaw10_TrackTells.f
  have hc := cl_in c 0 1000 (by decide)
  have hu := cl_in u 0 1000000000 (by decide)
  have ht := cl_in t 1 1000000000 (by decide)
  have e : governorref10_Want.f 2 t c u = some (FT (cl t 1 1000000000) (cl c 0 1000 * cl u 0 1000000000)) := by
    rw [← want_eq]
    unfold governorref10_Want.f track_Want.f
    simp only [into_eq c 0 1000 (by decide), into64_eq u 0 1000000000 (by decide), into64_eq t 1 1000000000 (by decide), Option.bind_some]
    rw [show mn (mx c 0) 1000 = cl c 0 1000 from rfl, show mn (mx u 0) 1000000000 = cl u 0 1000000000 from rfl, show mn (mx t 1) 1000000000 = cl t 1 1000000000 from rfl]
    rw [wr (n := 1000 * cl c 0 1000) (by omega) (by omega), refMul_eq]
    have M : ∀ a b, fixed_Mul.f a b = some (satI (mulI (satI a) (satI b))) := fun _ _ => rfl
    have D : ∀ a b, fixed_Div.f a b = some (satI (divI (satI a) (satI b))) := fun _ _ => rfl
    have DR : ∀ a b, governorref08_Div.f 2 a b = some (satI (divI (satI a) (satI b))) := fun a b => refDiv_eq 0 a b
    simp only [M, D, DR, refUp_eq, up_eq, Option.bind_some, into_eq _ 0 1000 (by decide)]
    rfl
  simp only [trackHead, want_eq, e, Option.bind_some, reduceIte, beq_self_eq_true]
end Go.Proofs.Ytmdkcadngkbphaa.Pure
