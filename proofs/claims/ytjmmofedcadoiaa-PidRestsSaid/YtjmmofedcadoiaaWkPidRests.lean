-- laid by a program of this session (tprint.py) out of the translation and of texts typed by hand; Lean checks it
import Derived.Test.YtjmmofedcadoiaaRd
import Derived.Test.YtjmmofedcadoiaaPAllx32
namespace Go.Proofs.Ytjmmofedcadoiaa.PAll
open Go.RowKit Go.Proofs.YtjmmofedcadoiaaW.PrintWords Go.Proofs.YtjmmofedcadoiaaW.PrintLast Go.Proofs.YtjmmofedcadoiaaW.PrintMore
set_option linter.unusedVariables false
/-- THE ONE PURE STATEMENT of the law. -/
def governorlaw12_PidRests.Pure : Prop := ∀ (a0 : Int) (a1 : Int) (a2 : Int) (a3 : Int) (a4 : Int) (a5 : Int), (Lit.int .i64 a0).wf = true → (Lit.int .i64 a1).wf = true → (Lit.int .i64 a2).wf = true → (Lit.int .i64 a3).wf = true → (Lit.int .i64 a4).wf = true → (Lit.int .u8 a5).wf = true → ∃ k, governorlaw12_PidRests.f k a0 a1 a2 a3 a4 a5 = some true
set_option maxRecDepth 100000 in
theorem governorlaw12_PidRests.walk2 (P : governorlaw12_PidRests.Pure) (w : World) (x0 : Int) (o0 : (Lit.int .i64 x0).wf = true) (x1 : Int) (o1 : (Lit.int .i64 x1).wf = true) (x2 : Int) (o2 : (Lit.int .i64 x2).wf = true) (x3 : Int) (o3 : (Lit.int .i64 x3).wf = true) (x4 : Int) (o4 : (Lit.int .i64 x4).wf = true) (x5 : Int) (o5 : (Lit.int .u8 x5).wf = true) :
    Calls Try.prog 13 #[.int .i64 x0, .int .i64 x1, .int .i64 x2, .int .i64 x3, .int .i64 x4, .int .u8 x5] w fun e w' => e = .returned (.bool true) ∧ Below w.heap.size w w' := by
  obtain ⟨k, h⟩ := P x0 x1 x2 x3 x4 x5 o0 o1 o2 o3 o4 o5
  refine (governorlaw12_PidRests.calls k x0 x1 x2 x3 x4 x5 true w  rfl h).mono ?_
  rintro e w' ⟨rfl, hd⟩
  exact ⟨rfl, hd⟩
end Go.Proofs.Ytjmmofedcadoiaa.PAll
