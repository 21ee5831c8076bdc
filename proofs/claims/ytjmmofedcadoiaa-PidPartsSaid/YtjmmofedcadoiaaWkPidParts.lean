-- laid by a program of this session (tprint.py) out of the translation and of texts typed by hand; Lean checks it
import Derived.Test.YtjmmofedcadoiaaRd
import Derived.Test.YtjmmofedcadoiaaPAllx31
namespace Go.Proofs.Ytjmmofedcadoiaa.PAll
open Go.RowKit Go.Proofs.YtjmmofedcadoiaaW.PrintWords Go.Proofs.YtjmmofedcadoiaaW.PrintLast Go.Proofs.YtjmmofedcadoiaaW.PrintMore
set_option linter.unusedVariables false
/-- THE ONE PURE STATEMENT of the law. -/
def governorlaw12_PidParts.Pure : Prop := ∀ (a0 : Int) (a1 : Int) (a2_0 : Int) (a2_1 : Int) (a2_2 : Bool) (a3 : Int), (Lit.int .i64 a0).wf = true → (Lit.int .i64 a1).wf = true → (Lit.int .i64 a2_0).wf = true → (Lit.int .i64 a2_1).wf = true → (Lit.int .i64 a3).wf = true → ∃ k, governorlaw12_PidParts.f k a0 a1 a2_0 a2_1 a2_2 a3 = some true
set_option maxRecDepth 100000 in
theorem governorlaw12_PidParts.walk2 (P : governorlaw12_PidParts.Pure) (w : World) (x0 : Int) (o0 : (Lit.int .i64 x0).wf = true) (x1 : Int) (o1 : (Lit.int .i64 x1).wf = true) (cs2 : Array Value) (x2 : S37) (g2 : k37.K w x2 cs2.toList) (o2 : ok37 x2) (x3 : Int) (o3 : (Lit.int .i64 x3).wf = true) :
    Calls Try.prog 11 #[.int .i64 x0, .int .i64 x1, .agg cs2, .int .i64 x3] w fun e w' => e = .returned (.bool true) ∧ Below w.heap.size w w' := by
  have e2 := k37_open g2
  obtain rfl : cs2 = #[.int .i64 x2.f0, .int .i64 x2.f1, .bool x2.f2] := by cases cs2; simpa using e2
  obtain ⟨k, h⟩ := P x0 x1 x2.f0 x2.f1 x2.f2 x3 o0 o1 o2.1 o2.2.1 o3
  refine (governorlaw12_PidParts.calls k x0 x1 x2.f0 x2.f1 x2.f2 x3 true w  rfl h).mono ?_
  rintro e w' ⟨rfl, hd⟩
  exact ⟨rfl, hd⟩
end Go.Proofs.Ytjmmofedcadoiaa.PAll
