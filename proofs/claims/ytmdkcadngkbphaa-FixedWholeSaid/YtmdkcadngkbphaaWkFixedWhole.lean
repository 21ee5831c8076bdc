-- laid by a program of this session (tprint.py) out of the translation and of texts typed by hand; Lean checks it
import Derived.Test.YtmdkcadngkbphaaRd
import Derived.Test.YtmdkcadngkbphaaPAllx28
namespace Go.Proofs.Ytmdkcadngkbphaa.PAll
open Go.RowKit Go.Proofs.YtmdkcadngkbphaaW.PrintWords Go.Proofs.YtmdkcadngkbphaaW.PrintLast Go.Proofs.YtmdkcadngkbphaaW.PrintMore
set_option linter.unusedVariables false
/-- THE ONE PURE STATEMENT of the law. -/
def governorlaw08_FixedWhole.Pure : Prop := ∀ (a0 : Int), (Lit.int .i64 a0).wf = true → governorlaw08_FixedWhole.f a0 = some true
set_option maxRecDepth 100000 in
theorem governorlaw08_FixedWhole.walk2 (P : governorlaw08_FixedWhole.Pure) (w : World) (x0 : Int) (o0 : (Lit.int .i64 x0).wf = true) :
    Calls Try.prog 13 #[.int .i64 x0] w fun e w' => e = .returned (.bool true) ∧ Below w.heap.size w w' := by
  have h := P x0 o0
  refine (governorlaw08_FixedWhole.calls x0 true w  rfl h).mono ?_
  rintro e w' ⟨rfl, hd⟩
  exact ⟨rfl, hd.below⟩
end Go.Proofs.Ytmdkcadngkbphaa.PAll
