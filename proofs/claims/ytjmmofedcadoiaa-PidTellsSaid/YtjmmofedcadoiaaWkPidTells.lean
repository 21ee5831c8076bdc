-- laid by a program of this session (tprint.py) out of the translation and of texts typed by hand; Lean checks it
import Derived.Test.YtjmmofedcadoiaaRd
import Derived.Test.YtjmmofedcadoiaaPAllx28
namespace Go.Proofs.Ytjmmofedcadoiaa.PAll
open Go.RowKit Go.Proofs.YtjmmofedcadoiaaW.PrintWords Go.Proofs.YtjmmofedcadoiaaW.PrintLast Go.Proofs.YtjmmofedcadoiaaW.PrintMore
set_option linter.unusedVariables false
/-- THE ONE PURE STATEMENT of the law. -/
def governorlaw12_PidTells.Pure : Prop := ∀ (a0 : Int) (a1 : Int) (a2 : Int) (a3 : Int) (a4_0 : Int) (a4_1 : Int) (a4_2 : Bool) (a5 : Int), (Lit.int .i64 a0).wf = true → (Lit.int .i64 a1).wf = true → (Lit.int .i64 a2).wf = true → (Lit.int .i64 a3).wf = true → (Lit.int .i64 a4_0).wf = true → (Lit.int .i64 a4_1).wf = true → (Lit.int .i64 a5).wf = true → ∃ k, governorlaw12_PidTells.f k a0 a1 a2 a3 a4_0 a4_1 a4_2 a5 = some true
set_option maxRecDepth 100000 in
theorem governorlaw12_PidTells.walk2 (P : governorlaw12_PidTells.Pure) (w : World) (x0 : Int) (o0 : (Lit.int .i64 x0).wf = true) (x1 : Int) (o1 : (Lit.int .i64 x1).wf = true) (x2 : Int) (o2 : (Lit.int .i64 x2).wf = true) (x3 : Int) (o3 : (Lit.int .i64 x3).wf = true) (cs4 : Array Value) (x4 : S37) (g4 : k37.K w x4 cs4.toList) (o4 : ok37 x4) (x5 : Int) (o5 : (Lit.int .i64 x5).wf = true) :
    Calls Try.prog 9 #[.int .i64 x0, .int .i64 x1, .int .i64 x2, .int .i64 x3, .agg cs4, .int .i64 x5] w fun e w' => e = .returned (.bool true) ∧ Below w.heap.size w w' := by
  have e4 := k37_open g4
  obtain rfl : cs4 = #[.int .i64 x4.f0, .int .i64 x4.f1, .bool x4.f2] := by cases cs4; simpa using e4
  obtain ⟨k, h⟩ := P x0 x1 x2 x3 x4.f0 x4.f1 x4.f2 x5 o0 o1 o2 o3 o4.1 o4.2.1 o5
  refine (governorlaw12_PidTells.calls k x0 x1 x2 x3 x4.f0 x4.f1 x4.f2 x5 true w  rfl h).mono ?_
  rintro e w' ⟨rfl, hd⟩
  exact ⟨rfl, hd⟩
end Go.Proofs.Ytjmmofedcadoiaa.PAll
