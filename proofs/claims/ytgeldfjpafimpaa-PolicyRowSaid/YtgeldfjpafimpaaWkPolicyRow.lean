-- laid by a program of this session (tprint.py) out of the translation and of texts typed by hand; Lean checks it
import Derived.Test.YtgeldfjpafimpaaRd
import Derived.Test.YtgeldfjpafimpaaPAllx54
namespace Go.Proofs.Ytgeldfjpafimpaa.PAll
open Go.RowKit Go.Proofs.YtgeldfjpafimpaaW.PrintWords Go.Proofs.YtgeldfjpafimpaaW.PrintLast Go.Proofs.YtgeldfjpafimpaaW.PrintMore
set_option linter.unusedVariables false
/-- THE ONE PURE STATEMENT of the law. -/
def governorlaw14_PolicyRow.Pure : Prop := ∀ (a0_0 : Int) (a0_1 : Int) (l0_2 : List (S83)) (a0_3 : Int) (a0_4 : Int) (a0_5 : Int) (a0_6 : Int) (l0_7 : List (S71)) (a1 : Int) (l2 : List Int) (a3 : Int), (Lit.int .i64 a0_0).wf = true → (Lit.int .i64 a0_1).wf = true → l0_2.length ≤ 9223372036854775807 → (∀ x ∈ l0_2, ok83 x) → (Lit.int .i64 a0_3).wf = true → (Lit.int .i64 a0_4).wf = true → (Lit.int .i64 a0_5).wf = true → (Lit.int .i64 a0_6).wf = true → l0_7.length ≤ 9223372036854775807 → (∀ x ∈ l0_7, ok71 x) → (Lit.int .u16 a1).wf = true → l2.length ≤ 9223372036854775807 → (∀ x ∈ l2, (fun n_ : Int => (Lit.int .i64 n_).wf = true) x) → (Lit.int .u16 a3).wf = true → ∃ k, governorlaw14_PolicyRow.f k a0_0 a0_1 l0_2 a0_3 a0_4 a0_5 a0_6 l0_7 a1 l2 a3 = some true
set_option maxRecDepth 100000 in
theorem governorlaw14_PolicyRow.walk2 (P : governorlaw14_PolicyRow.Pure) (w : World) (cs0 : Array Value) (x0 : S45) (g0 : k45.K w x0 cs0.toList) (o0 : ok45 x0) (x1 : Int) (o1 : (Lit.int .u16 x1).wf = true) (v2 : Value) (x2 : List Int) (g2 : (Kd.slice 2 (Kd.int .i64)).K w x2 [v2]) (o2 : ∀ x ∈ x2, (fun n_ : Int => (Lit.int .i64 n_).wf = true) x) (x3 : Int) (o3 : (Lit.int .u16 x3).wf = true) :
    Calls Try.prog 13 #[.agg cs0, .int .u16 x1, v2, .int .u16 x3] w fun e w' => e = .returned (.bool true) ∧ Below w.heap.size w w' := by
  obtain ⟨A0_2, c0_2, A0_7, c0_7, e0, hc0_2, hr0_2, hc0_7, hr0_7⟩ := k45_open g0
  obtain rfl : cs0 = #[.int .i64 x0.f0, .int .i64 x0.f1, .slice A0_2 x0.f2.length c0_2, .int .i64 x0.f3, .int .i64 x0.f4, .int .i64 x0.f5, .int .i64 x0.f6, .slice A0_7 x0.f7.length c0_7] := by cases cs0; simpa using e0
  obtain ⟨A2, c2, e2, hc2, hr2⟩ := g2
  obtain rfl := List.singleton_inj.1 e2
  obtain ⟨k, h⟩ := P x0.f0 x0.f1 x0.f2 x0.f3 x0.f4 x0.f5 x0.f6 x0.f7 x1 x2 x3 o0.1 o0.2.1 hr0_2.2.1 o0.2.2.1 o0.2.2.2.1 o0.2.2.2.2.1 o0.2.2.2.2.2.1 o0.2.2.2.2.2.2.1 hr0_7.2.1 o0.2.2.2.2.2.2.2 o1 hr2.2.1 o2 o3
  refine (governorlaw14_PolicyRow.calls k x0.f0 x0.f1 A0_2 c0_2 x0.f2 x0.f3 x0.f4 x0.f5 x0.f6 A0_7 c0_7 x0.f7 x1 A2 c2 x2 x3 true w hr0_2 hc0_2 hr0_7 hc0_7 hr2 hc2 rfl h).mono ?_
  rintro e w' ⟨rfl, hd⟩
  exact ⟨rfl, hd⟩
end Go.Proofs.Ytgeldfjpafimpaa.PAll
