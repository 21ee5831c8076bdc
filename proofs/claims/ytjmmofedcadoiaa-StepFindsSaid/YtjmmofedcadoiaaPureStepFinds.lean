/- The law StepFinds (P11.2): all bands up to the one that is found are not above the load, and all behind it are: for every row of bands that may be, and every load. -/
import Derived.Test.YtjmmofedcadoiaaCBase
import Derived.Test.YtjmmofedcadoiaaCStep
import Derived.Test.YtjmmofedcadoiaaPAllx0
import Derived.Test.YtjmmofedcadoiaaPAllx12
import Derived.Test.YtjmmofedcadoiaaPAllx2
import Derived.Test.YtjmmofedcadoiaaPAllx3
import Derived.Test.YtjmmofedcadoiaaWkStepFinds
namespace Go.Proofs.Ytjmmofedcadoiaa.Pure
open Go.RowKit Go.Proofs.Ytjmmofedcadoiaa.PAll Go.Proofs.YtjmmofedcadoiaaW.PrintWords Go.Proofs.YtjmmofedcadoiaaW.PrintLast Go.Proofs.YtjmmofedcadoiaaW.PrintMore
set_option linter.unusedVariables false
set_option linter.unusedSimpArgs false
theorem finds_loop {l : List S29} (hs : SortedS l) (hl : l.length ≤ 8) (u : Int) (d : Nat) : ∀ (k : Nat) (i : Int), 0 ≤ i → i + (d : Int) = (l.length : Int) → d < k → governorlaw11_StepFinds.l0 k l u true (findS l u) i = some true := by
  have hin := findS_in l u
  induction d with
  | zero =>
    intro k i h0 hd hk
    obtain ⟨k, rfl⟩ : ∃ m, k = m + 1 := ⟨k - 1, by omega⟩
    simp only [governorlaw11_StepFinds.l0]
    rw [if_neg (by omega)]
    simp only [reduceIte]
    rw [if_pos hin.1, decide_eq_true hin.2]
  | succ d ih =>
    intro k i h0 hd hk
    obtain ⟨k, rfl⟩ : ∃ m, k = m + 1 := ⟨k - 1, by omega⟩
    simp only [governorlaw11_StepFinds.l0]
    rw [if_pos (by omega), if_pos h0, wr (n := i + 1) (by omega) (by omega)]
    have hf := find_iff hs u i h0 (by omega)
    have e : (decide ((rd_T29 l i).f0 ≤ u) != decide (i ≤ findS l u)) = false := by
      rw [decide_eq_decide.2 hf]; exact bne_self_eq_false _
    rw [e, if_neg (by decide)]
    exact ih k (i + 1) (by omega) (by omega) (by omega)
theorem StepFinds : governorlaw11_StepFinds.Pure := by
  intro l u hl hs hu
  refine ⟨30, ?_⟩
  unfold governorlaw11_StepFinds.f
  obtain ⟨b, hb, hP⟩ := stepRight_tells l 30 (by omega)
  rw [stepHead, hb]
  simp only [Option.bind_some]
  cases b with
  | false => rfl
  | true =>
    have R := hP rfl
    have n8 := R.n8
    simp only [reduceIte, stepFind_eq (bands_sorted R), Option.bind_some]
    exact finds_loop (bands_sorted R) n8 u l.length 30 0 (Int.le_refl _) (by omega) (by omega)
end Go.Proofs.Ytjmmofedcadoiaa.Pure
