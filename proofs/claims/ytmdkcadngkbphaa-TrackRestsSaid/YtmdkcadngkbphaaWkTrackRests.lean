-- laid by a program of this session (tprint.py) out of the translation and of texts typed by hand; Lean checks it
import Derived.Test.YtmdkcadngkbphaaRd
import Derived.Test.YtmdkcadngkbphaaPAllx12
namespace Go.Proofs.Ytmdkcadngkbphaa.PAll
open Go.RowKit Go.Proofs.YtmdkcadngkbphaaW.PrintWords Go.Proofs.YtmdkcadngkbphaaW.PrintLast Go.Proofs.YtmdkcadngkbphaaW.PrintMore
set_option linter.unusedVariables false
/-- THE ONE PURE STATEMENT of the law. -/
def governorlaw10_TrackRests.Pure : Prop := ∀ (a0 : Int) (a1 : Int), (Lit.int .u32 a0).wf = true → (Lit.int .u16 a1).wf = true → governorlaw10_TrackRests.f a0 a1 = some true
set_option maxRecDepth 100000 in
theorem governorlaw10_TrackRests.walk2 (P : governorlaw10_TrackRests.Pure) (w : World) (x0 : Int) (o0 : (Lit.int .u32 x0).wf = true) (x1 : Int) (o1 : (Lit.int .u16 x1).wf = true) :
    Calls Try.prog 5 #[.int .u32 x0, .int .u16 x1] w fun e w' => e = .returned (.bool true) ∧ Below w.heap.size w w' := by
  have h := P x0 x1 o0 o1
  refine (governorlaw10_TrackRests.calls x0 x1 true w  rfl h).mono ?_
  rintro e w' ⟨rfl, hd⟩
  exact ⟨rfl, hd.below⟩
end Go.Proofs.Ytmdkcadngkbphaa.PAll
