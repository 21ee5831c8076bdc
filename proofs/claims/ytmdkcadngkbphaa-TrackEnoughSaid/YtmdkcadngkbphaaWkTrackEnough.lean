-- laid by a program of this session (tprint.py) out of the translation and of texts typed by hand; Lean checks it
import Derived.Test.YtmdkcadngkbphaaRd
import Derived.Test.YtmdkcadngkbphaaPAllx13
namespace Go.Proofs.Ytmdkcadngkbphaa.PAll
open Go.RowKit Go.Proofs.YtmdkcadngkbphaaW.PrintWords Go.Proofs.YtmdkcadngkbphaaW.PrintLast Go.Proofs.YtmdkcadngkbphaaW.PrintMore
set_option linter.unusedVariables false
/-- THE ONE PURE STATEMENT of the law. -/
def governorlaw10_TrackEnough.Pure : Prop := ∀ (a0 : Int) (a1 : Int) (a2 : Int), (Lit.int .u32 a0).wf = true → (Lit.int .u16 a1).wf = true → (Lit.int .u32 a2).wf = true → governorlaw10_TrackEnough.f a0 a1 a2 = some true
set_option maxRecDepth 100000 in
theorem governorlaw10_TrackEnough.walk2 (P : governorlaw10_TrackEnough.Pure) (w : World) (x0 : Int) (o0 : (Lit.int .u32 x0).wf = true) (x1 : Int) (o1 : (Lit.int .u16 x1).wf = true) (x2 : Int) (o2 : (Lit.int .u32 x2).wf = true) :
    Calls Try.prog 6 #[.int .u32 x0, .int .u16 x1, .int .u32 x2] w fun e w' => e = .returned (.bool true) ∧ Below w.heap.size w w' := by
  have h := P x0 x1 x2 o0 o1 o2
  refine (governorlaw10_TrackEnough.calls x0 x1 x2 true w  rfl h).mono ?_
  rintro e w' ⟨rfl, hd⟩
  exact ⟨rfl, hd.below⟩
end Go.Proofs.Ytmdkcadngkbphaa.PAll
