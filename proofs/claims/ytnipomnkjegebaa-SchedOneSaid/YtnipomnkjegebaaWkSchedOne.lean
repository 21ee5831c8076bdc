-- laid by a program of this session (tprint.py) out of the translation and of texts typed by hand; Lean checks it
import Derived.Test.YtnipomnkjegebaaRd
import Derived.Test.YtnipomnkjegebaaPAllx9
namespace Go.Proofs.Ytnipomnkjegebaa.PAll
open Go.RowKit Go.Proofs.YtnipomnkjegebaaW.PrintWords Go.Proofs.YtnipomnkjegebaaW.PrintLast Go.Proofs.YtnipomnkjegebaaW.PrintMore
set_option linter.unusedVariables false
/-- THE ONE PURE STATEMENT of the law. -/
def governorlaw13_SchedOne.Pure : Prop := ∀ (a0 : Int) (l1 : List (S31)) (a2 : Int), (Lit.int .i64 a0).wf = true → l1.length ≤ 9223372036854775807 → (∀ x ∈ l1, ok31 x) → (Lit.int .i64 a2).wf = true → ∃ k, governorlaw13_SchedOne.f k a0 l1 a2 = some true
set_option maxRecDepth 100000 in
theorem governorlaw13_SchedOne.walk2 (P : governorlaw13_SchedOne.Pure) (w : World) (x0 : Int) (o0 : (Lit.int .i64 x0).wf = true) (v1 : Value) (x1 : List (S31)) (g1 : (Kd.slice 31 k31).K w x1 [v1]) (o1 : ∀ x ∈ x1, ok31 x) (x2 : Int) (o2 : (Lit.int .i64 x2).wf = true) :
    Calls Try.prog 6 #[.int .i64 x0, v1, .int .i64 x2] w fun e w' => e = .returned (.bool true) ∧ Below w.heap.size w w' := by
  obtain ⟨A1, c1, e1, hc1, hr1⟩ := g1
  obtain rfl := List.singleton_inj.1 e1
  obtain ⟨k, h⟩ := P x0 x1 x2 o0 hr1.2.1 o1 o2
  refine (governorlaw13_SchedOne.calls k x0 A1 c1 x1 x2 true w hr1 hc1 rfl h).mono ?_
  rintro e w' ⟨rfl, hd⟩
  exact ⟨rfl, hd⟩
end Go.Proofs.Ytnipomnkjegebaa.PAll
