-- laid by a program of this session (tprint.py) out of the translation and of texts typed by hand; Lean checks it
import Derived.Test.YtgeldfjpafimpaaRd
import Derived.Test.YtgeldfjpafimpaaPAllx25
namespace Go.Proofs.Ytgeldfjpafimpaa.PAll
open Go.RowKit Go.Proofs.YtgeldfjpafimpaaW.PrintWords Go.Proofs.YtgeldfjpafimpaaW.PrintLast Go.Proofs.YtgeldfjpafimpaaW.PrintMore
set_option linter.unusedVariables false
/-- THE ONE PURE STATEMENT of the law. -/
def governorlaw16_PlantLess.Pure : Prop := ∀ (a0_0 : Int) (a0_1 : Int) (a0_2 : Int) (a0_3 : Int) (a0_4 : Int) (a0_5 : Int) (a0_6 : Int) (a0_7 : Int) (a0_8 : Int) (a0_9 : Int) (a0_10 : Int) (a0_11 : Int) (a1_0 : Int) (l1_1 : List Int) (a1_2 : Int) (a1_3 : Int) (a2 : Int), (Lit.int .i64 a0_0).wf = true → (Lit.int .i64 a0_1).wf = true → (Lit.int .i64 a0_2).wf = true → (Lit.int .i64 a0_3).wf = true → (Lit.int .i64 a0_4).wf = true → (Lit.int .i64 a0_5).wf = true → (Lit.int .i64 a0_6).wf = true → (Lit.int .i64 a0_7).wf = true → (Lit.int .i64 a0_8).wf = true → (Lit.int .i64 a0_9).wf = true → (Lit.int .i64 a0_10).wf = true → (Lit.int .i64 a0_11).wf = true → (Lit.int .i64 a1_0).wf = true → l1_1.length ≤ 9223372036854775807 → (∀ x ∈ l1_1, (fun n_ : Int => (Lit.int .i64 n_).wf = true) x) → (Lit.int .i64 a1_2).wf = true → (Lit.int .i64 a1_3).wf = true → (Lit.int .u8 a2).wf = true → ∃ k, governorlaw16_PlantLess.f k a0_0 a0_1 a0_2 a0_3 a0_4 a0_5 a0_6 a0_7 a0_8 a0_9 a0_10 a0_11 a1_0 l1_1 a1_2 a1_3 a2 = some true
set_option maxRecDepth 100000 in
theorem governorlaw16_PlantLess.walk2 (P : governorlaw16_PlantLess.Pure) (w : World) (cs0 : Array Value) (x0 : S23) (g0 : k23.K w x0 cs0.toList) (o0 : ok23 x0) (cs1 : Array Value) (x1 : S26) (g1 : k26.K w x1 cs1.toList) (o1 : ok26 x1) (x2 : Int) (o2 : (Lit.int .u8 x2).wf = true) :
    Calls Try.prog 7 #[.agg cs0, .agg cs1, .int .u8 x2] w fun e w' => e = .returned (.bool true) ∧ Below w.heap.size w w' := by
  have e0 := k23_open g0
  obtain rfl : cs0 = #[.int .i64 x0.f0, .int .i64 x0.f1, .int .i64 x0.f2, .int .i64 x0.f3, .int .i64 x0.f4, .int .i64 x0.f5, .int .i64 x0.f6, .int .i64 x0.f7, .int .i64 x0.f8, .int .i64 x0.f9, .int .i64 x0.f10, .int .i64 x0.f11] := by cases cs0; simpa using e0
  obtain ⟨A1_1, c1_1, e1, hc1_1, hr1_1⟩ := k26_open g1
  obtain rfl : cs1 = #[.int .i64 x1.f0, .slice A1_1 x1.f1.length c1_1, .int .i64 x1.f2, .int .i64 x1.f3] := by cases cs1; simpa using e1
  obtain ⟨k, h⟩ := P x0.f0 x0.f1 x0.f2 x0.f3 x0.f4 x0.f5 x0.f6 x0.f7 x0.f8 x0.f9 x0.f10 x0.f11 x1.f0 x1.f1 x1.f2 x1.f3 x2 o0.1 o0.2.1 o0.2.2.1 o0.2.2.2.1 o0.2.2.2.2.1 o0.2.2.2.2.2.1 o0.2.2.2.2.2.2.1 o0.2.2.2.2.2.2.2.1 o0.2.2.2.2.2.2.2.2.1 o0.2.2.2.2.2.2.2.2.2.1 o0.2.2.2.2.2.2.2.2.2.2.1 o0.2.2.2.2.2.2.2.2.2.2.2 o1.1 hr1_1.2.1 o1.2.1 o1.2.2.1 o1.2.2.2 o2
  refine (governorlaw16_PlantLess.calls k x0.f0 x0.f1 x0.f2 x0.f3 x0.f4 x0.f5 x0.f6 x0.f7 x0.f8 x0.f9 x0.f10 x0.f11 x1.f0 A1_1 c1_1 x1.f1 x1.f2 x1.f3 x2 true w hr1_1 hc1_1 rfl h).mono ?_
  rintro e w' ⟨rfl, hd⟩
  exact ⟨rfl, hd⟩
end Go.Proofs.Ytgeldfjpafimpaa.PAll
