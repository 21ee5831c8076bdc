-- laid by a program of this session (tprint.py) out of the translation and of texts typed by hand; Lean checks it
import Derived.Test.YtjmmofedcadoiaaRd
import Derived.Test.YtjmmofedcadoiaaPAllx31
namespace Go.Proofs.Ytjmmofedcadoiaa.PAll
open Go.RowKit Go.Proofs.YtjmmofedcadoiaaW.PrintWords Go.Proofs.YtjmmofedcadoiaaW.PrintLast Go.Proofs.YtjmmofedcadoiaaW.PrintMore
set_option linter.unusedVariables false
/-- THE ONE PURE STATEMENT of the law. -/
def governorlaw12_PidMirror.Pure : Prop := ∀ (a0 : Int) (a1 : Int) (a2 : Int) (l3 : List Int), (Lit.int .i64 a0).wf = true → (Lit.int .i64 a1).wf = true → (Lit.int .i64 a2).wf = true → l3.length ≤ 9223372036854775807 → (∀ x ∈ l3, (fun n_ : Int => (Lit.int .i32 n_).wf = true) x) → ∃ k, governorlaw12_PidMirror.f k a0 a1 a2 l3 = some true
set_option maxRecDepth 100000 in
theorem governorlaw12_PidMirror.walk2 (P : governorlaw12_PidMirror.Pure) (w : World) (x0 : Int) (o0 : (Lit.int .i64 x0).wf = true) (x1 : Int) (o1 : (Lit.int .i64 x1).wf = true) (x2 : Int) (o2 : (Lit.int .i64 x2).wf = true) (v3 : Value) (x3 : List Int) (g3 : (Kd.slice 21 (Kd.int .i32)).K w x3 [v3]) (o3 : ∀ x ∈ x3, (fun n_ : Int => (Lit.int .i32 n_).wf = true) x) :
    Calls Try.prog 12 #[.int .i64 x0, .int .i64 x1, .int .i64 x2, v3] w fun e w' => e = .returned (.bool true) ∧ Below w.heap.size w w' := by
  obtain ⟨A3, c3, e3, hc3, hr3⟩ := g3
  obtain rfl := List.singleton_inj.1 e3
  obtain ⟨k, h⟩ := P x0 x1 x2 x3 o0 o1 o2 hr3.2.1 o3
  refine (governorlaw12_PidMirror.calls k x0 x1 x2 A3 c3 x3 true w hr3 hc3 rfl h).mono ?_
  rintro e w' ⟨rfl, hd⟩
  exact ⟨rfl, hd⟩
end Go.Proofs.Ytjmmofedcadoiaa.PAll
