-- laid by a program of this session (tprint.py) out of the translation and of texts typed by hand; Lean checks it
import Derived.Test.YtmdkcadngkbphaaRd
import Derived.Test.YtmdkcadngkbphaaPAllx26
namespace Go.Proofs.Ytmdkcadngkbphaa.PAll
open Go.RowKit Go.Proofs.YtmdkcadngkbphaaW.PrintWords Go.Proofs.YtmdkcadngkbphaaW.PrintLast Go.Proofs.YtmdkcadngkbphaaW.PrintMore
set_option linter.unusedVariables false
/-- THE ONE PURE STATEMENT of the law. -/
def governorlaw08_FixedTurns.Pure : Prop := ∀ (a0 : Int) (a1 : Int), (Lit.int .i64 a0).wf = true → (Lit.int .i64 a1).wf = true → governorlaw08_FixedTurns.f a0 a1 = some true
set_option maxRecDepth 100000 in
theorem governorlaw08_FixedTurns.walk2 (P : governorlaw08_FixedTurns.Pure) (w : World) (x0 : Int) (o0 : (Lit.int .i64 x0).wf = true) (x1 : Int) (o1 : (Lit.int .i64 x1).wf = true) :
    Calls Try.prog 11 #[.int .i64 x0, .int .i64 x1] w fun e w' => e = .returned (.bool true) ∧ Below w.heap.size w w' := by
  have h := P x0 x1 o0 o1
  refine (governorlaw08_FixedTurns.calls x0 x1 true w  rfl h).mono ?_
  rintro e w' ⟨rfl, hd⟩
  exact ⟨rfl, hd.below⟩
end Go.Proofs.Ytmdkcadngkbphaa.PAll
