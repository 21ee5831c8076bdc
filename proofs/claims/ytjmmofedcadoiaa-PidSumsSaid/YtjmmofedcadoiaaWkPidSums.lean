-- laid by a program of this session (tprint.py) out of the translation and of texts typed by hand; Lean checks it
import Derived.Test.YtjmmofedcadoiaaRd
import Derived.Test.YtjmmofedcadoiaaPAllx33
namespace Go.Proofs.Ytjmmofedcadoiaa.PAll
open Go.RowKit Go.Proofs.YtjmmofedcadoiaaW.PrintWords Go.Proofs.YtjmmofedcadoiaaW.PrintLast Go.Proofs.YtjmmofedcadoiaaW.PrintMore
set_option linter.unusedVariables false
/-- THE ONE PURE STATEMENT of the law. -/
def governorlaw12_PidSums.Pure : Prop := ∀ (a0 : Int) (l1 : List Int), (Lit.int .i64 a0).wf = true → l1.length ≤ 9223372036854775807 → (∀ x ∈ l1, (fun n_ : Int => (Lit.int .i64 n_).wf = true) x) → ∃ k, governorlaw12_PidSums.f k a0 l1 = some true
set_option maxRecDepth 100000 in
theorem governorlaw12_PidSums.walk2 (P : governorlaw12_PidSums.Pure) (w : World) (x0 : Int) (o0 : (Lit.int .i64 x0).wf = true) (v1 : Value) (x1 : List Int) (g1 : (Kd.slice 2 (Kd.int .i64)).K w x1 [v1]) (o1 : ∀ x ∈ x1, (fun n_ : Int => (Lit.int .i64 n_).wf = true) x) :
    Calls Try.prog 14 #[.int .i64 x0, v1] w fun e w' => e = .returned (.bool true) ∧ Below w.heap.size w w' := by
  obtain ⟨A1, c1, e1, hc1, hr1⟩ := g1
  obtain rfl := List.singleton_inj.1 e1
  obtain ⟨k, h⟩ := P x0 x1 o0 hr1.2.1 o1
  refine (governorlaw12_PidSums.calls k x0 A1 c1 x1 true w hr1 hc1 rfl h).mono ?_
  rintro e w' ⟨rfl, hd⟩
  exact ⟨rfl, hd⟩
end Go.Proofs.Ytjmmofedcadoiaa.PAll
