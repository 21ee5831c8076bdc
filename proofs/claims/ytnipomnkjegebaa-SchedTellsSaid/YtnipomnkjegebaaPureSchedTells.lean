/- The law SchedTells (P13.1): where any time is, and how many are wanted then, of a period and slots that may be, are the document's: for every period, row of slots and time. -/
import Derived.Test.YtnipomnkjegebaaCSched
import Derived.Test.YtnipomnkjegebaaPAllx0
import Derived.Test.YtnipomnkjegebaaPAllx7
import Derived.Test.YtnipomnkjegebaaWkSchedTells
namespace Go.Proofs.Ytnipomnkjegebaa.Pure
open Go.RowKit Go.Proofs.Ytnipomnkjegebaa.PAll Go.Proofs.YtnipomnkjegebaaW.PrintWords Go.Proofs.YtnipomnkjegebaaW.PrintLast Go.Proofs.YtnipomnkjegebaaW.PrintMore
set_option linter.unusedVariables false
set_option linter.unusedSimpArgs false
theorem SchedTells : governorlaw13_SchedTells.Pure := by
  intro p l t hp hl hs ht
  refine ⟨30, ?_⟩
  unfold governorlaw13_SchedTells.f
  obtain ⟨b, hb, hP⟩ := right_tells l p 30 (by omega)
  rw [schedHead, hb]
  simp only [Option.bind_some]
  cases b with
  | false => rfl
  | true =>
    have R := hP rfl
    simp only [at_eq R.p1 R.p2, refAt_eq R.p1 R.p2, want_eq R.p1 R.p2, refWant_eq R.n8 (k := 30) (by omega) R.p1 R.p2, Option.bind_some, reduceIte, beq_self_eq_true]
end Go.Proofs.Ytnipomnkjegebaa.Pure
