-- laid by a program of this session (tprint.py) out of the translation and of texts typed by hand; Lean checks it
import Derived.Test.YtnipomnkjegebaaRd
import Derived.Test.YtnipomnkjegebaaPAllx10
namespace Go.Proofs.Ytnipomnkjegebaa.PAll
open Go.RowKit Go.Proofs.YtnipomnkjegebaaW.PrintWords Go.Proofs.YtnipomnkjegebaaW.PrintLast Go.Proofs.YtnipomnkjegebaaW.PrintMore
set_option linter.unusedVariables false
/-- THE ONE PURE STATEMENT of the law. -/
def governorlaw13_SchedSame.Pure : Prop := ∀ (a0 : Int) (l1 : List (S31)) (a2 : Int) (l3 : List Int), (Lit.int .i64 a0).wf = true → l1.length ≤ 9223372036854775807 → (∀ x ∈ l1, ok31 x) → (Lit.int .i64 a2).wf = true → l3.length ≤ 9223372036854775807 → (∀ x ∈ l3, (fun n_ : Int => (Lit.int .u8 n_).wf = true) x) → ∃ k, governorlaw13_SchedSame.f k a0 l1 a2 l3 = some true
set_option maxRecDepth 100000 in
theorem governorlaw13_SchedSame.walk2 (P : governorlaw13_SchedSame.Pure) (w : World) (x0 : Int) (o0 : (Lit.int .i64 x0).wf = true) (v1 : Value) (x1 : List (S31)) (g1 : (Kd.slice 31 k31).K w x1 [v1]) (o1 : ∀ x ∈ x1, ok31 x) (x2 : Int) (o2 : (Lit.int .i64 x2).wf = true) (v3 : Value) (x3 : List Int) (g3 : (Kd.slice 5 (Kd.int .u8)).K w x3 [v3]) (o3 : ∀ x ∈ x3, (fun n_ : Int => (Lit.int .u8 n_).wf = true) x) :
    Calls Try.prog 7 #[.int .i64 x0, v1, .int .i64 x2, v3] w fun e w' => e = .returned (.bool true) ∧ Below w.heap.size w w' := by
  obtain ⟨A1, c1, e1, hc1, hr1⟩ := g1
  obtain rfl := List.singleton_inj.1 e1
  obtain ⟨A3, c3, e3, hc3, hr3⟩ := g3
  obtain rfl := List.singleton_inj.1 e3
  obtain ⟨k, h⟩ := P x0 x1 x2 x3 o0 hr1.2.1 o1 o2 hr3.2.1 o3
  refine (governorlaw13_SchedSame.calls k x0 A1 c1 x1 x2 A3 c3 x3 true w hr1 hc1 hr3 hc3 rfl h).mono ?_
  rintro e w' ⟨rfl, hd⟩
  exact ⟨rfl, hd⟩
end Go.Proofs.Ytnipomnkjegebaa.PAll
