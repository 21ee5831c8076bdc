-- laid by a program of this session (tprint.py) out of the translation and of texts typed by hand; Lean checks it
import Derived.Test.YtjmmofedcadoiaaRd
import Derived.Test.YtjmmofedcadoiaaPAllx12
namespace Go.Proofs.Ytjmmofedcadoiaa.PAll
open Go.RowKit Go.Proofs.YtjmmofedcadoiaaW.PrintWords Go.Proofs.YtjmmofedcadoiaaW.PrintLast Go.Proofs.YtjmmofedcadoiaaW.PrintMore
set_option linter.unusedVariables false
/-- THE ONE PURE STATEMENT of the law. -/
def governorlaw11_StepFinds.Pure : Prop := ∀ (l0 : List (S29)) (a1 : Int), l0.length ≤ 9223372036854775807 → (∀ x ∈ l0, ok29 x) → (Lit.int .i64 a1).wf = true → ∃ k, governorlaw11_StepFinds.f k l0 a1 = some true
set_option maxRecDepth 100000 in
theorem governorlaw11_StepFinds.walk2 (P : governorlaw11_StepFinds.Pure) (w : World) (v0 : Value) (x0 : List (S29)) (g0 : (Kd.slice 29 k29).K w x0 [v0]) (o0 : ∀ x ∈ x0, ok29 x) (x1 : Int) (o1 : (Lit.int .i64 x1).wf = true) :
    Calls Try.prog 4 #[v0, .int .i64 x1] w fun e w' => e = .returned (.bool true) ∧ Below w.heap.size w w' := by
  obtain ⟨A0, c0, e0, hc0, hr0⟩ := g0
  obtain rfl := List.singleton_inj.1 e0
  obtain ⟨k, h⟩ := P x0 x1 hr0.2.1 o0 o1
  refine (governorlaw11_StepFinds.calls k A0 c0 x0 x1 true w hr0 hc0 rfl h).mono ?_
  rintro e w' ⟨rfl, hd⟩
  exact ⟨rfl, hd⟩
end Go.Proofs.Ytjmmofedcadoiaa.PAll
