/- The law StepAlone (P11.1): of bands alike but for their deltas the same one is found; with all deltas 0 as many are wanted as there are: for every row of bands that may be, number of replicas and load. -/
import Derived.Test.YtjmmofedcadoiaaCBase
import Derived.Test.YtjmmofedcadoiaaCStep
import Derived.Test.YtjmmofedcadoiaaPAllx0
import Derived.Test.YtjmmofedcadoiaaPAllx16
import Derived.Test.YtjmmofedcadoiaaPAllx2
import Derived.Test.YtjmmofedcadoiaaPAllx4
import Derived.Test.YtjmmofedcadoiaaWkStepAlone
namespace Go.Proofs.Ytjmmofedcadoiaa.Pure
open Go.RowKit Go.Proofs.Ytjmmofedcadoiaa.PAll Go.Proofs.YtjmmofedcadoiaaW.PrintWords Go.Proofs.YtjmmofedcadoiaaW.PrintLast Go.Proofs.YtjmmofedcadoiaaW.PrintMore
set_option linter.unusedVariables false
set_option linter.unusedSimpArgs false
def flatB (l : List S29) : List S29 := l.map (fun b => (⟨b.f0, 0⟩ : S29))
theorem flat_find (l : List S29) (u : Int) : findS (flatB l) u = findS l u := by
  unfold findS flatB
  rw [List.filter_map, List.length_map]
  rfl
theorem flat_sorted {l : List S29} (h : SortedS l) : SortedS (flatB l) := by
  refine ⟨by unfold flatB; rw [List.length_map]; exact h.1, ?_⟩
  unfold flatB
  rw [List.pairwise_map]
  exact h.2
theorem flat_delta (l : List S29) (i : Int) : (rd_T29 (flatB l) i).f1 = 0 := by
  unfold rd_T29 flatB
  rw [List.getD_eq_getElem?_getD, List.getElem?_map]
  cases l[i.toNat]? <;> rfl
theorem alone_loop {l : List S29} (hs : SortedS l) (hl : l.length ≤ 8) (a c u : Int) (hc : Int.tmod (wrap64 a) 1001 = c) (h0 : 0 ≤ c) (h1 : c ≤ 1000) (d : Nat) : ∀ (k i : Nat), i + d = l.length → d < k → governorlaw11_StepAlone.l0 k l a u true (flatB (l.take i)) (i : Int) = some true := by
  induction d with
  | zero =>
    intro k i hd hk
    obtain ⟨k, rfl⟩ : ∃ n, k = n + 1 := ⟨k - 1, by omega⟩
    simp only [governorlaw11_StepAlone.l0]
    rw [if_neg (by omega), List.take_of_length_le (by omega), hc]
    have hn : SortedS ([] : List S29) := ⟨by simp, List.Pairwise.nil⟩
    have hw : step_Want.f (flatB l) c u = some c := by
      rw [stepWant_eq (flat_sorted hs), flat_delta, Int.add_zero, cl0_same h0 h1, wr (by omega) (by omega), cl0_same h0 h1]
      simp
    have hw2 : step_Want.f [] c u = some c := by
      rw [stepWant_eq hn, if_neg (by show ¬ (-1 : Int) ≥ 0; omega), cl0_same h0 h1]
    simp only [reduceIte, stepFind_eq (flat_sorted hs), stepFind_eq hs, flat_find, hw, hw2, Option.bind_some, beq_self_eq_true]
  | succ d ih =>
    intro k i hd hk
    obtain ⟨k, rfl⟩ : ∃ n, k = n + 1 := ⟨k - 1, by omega⟩
    have hi : i < l.length := by omega
    simp only [governorlaw11_StepAlone.l0]
    rw [if_pos (by omega), if_pos (by omega), if_pos (by unfold flatB; rw [List.length_map, List.length_take]; omega), wr (n := (i : Int) + 1) (by omega) (by omega), rdB_at l i hi]
    have h := ih k (i + 1) (by omega) (by omega)
    rw [List.take_succ_eq_append_getElem hi] at h
    have e : flatB (l.take i ++ [l[i]]) = flatB (l.take i) ++ [(⟨l[i].f0, 0⟩ : S29)] := by unfold flatB; rw [List.map_append]; rfl
    rw [e, show ((i + 1 : Nat) : Int) = (i : Int) + 1 by omega] at h
    exact h
theorem StepAlone : governorlaw11_StepAlone.Pure := by
  intro l a u hl hs ha hu
  refine ⟨30, ?_⟩
  unfold governorlaw11_StepAlone.f
  obtain ⟨b, hb, hP⟩ := stepRight_tells l 30 (by omega)
  rw [stepHead, hb]
  simp only [Option.bind_some]
  cases b with
  | false => rfl
  | true =>
    have R := hP rfl
    have n8 := R.n8
    have a16 := wfu16 ha
    have hc := tmod_bounds a 1001 (by decide)
    have hc0 : 0 ≤ Int.tmod a 1001 := Int.tmod_nonneg _ a16.1
    simp only [reduceIte]
    exact alone_loop (bands_sorted R) n8 a (Int.tmod a 1001) u (by rw [wr (by omega) (by omega)]) hc0 (by omega) l.length 30 0 (by omega) (by omega)
end Go.Proofs.Ytjmmofedcadoiaa.Pure
