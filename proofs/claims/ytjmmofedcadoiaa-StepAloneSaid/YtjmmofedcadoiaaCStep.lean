import Derived.Test.YtjmmofedcadoiaaCBase
import Derived.Test.YtjmmofedcadoiaaPAllx0
import Derived.Test.YtjmmofedcadoiaaPAllx10
import Derived.Test.YtjmmofedcadoiaaPAllx2
import Derived.Test.YtjmmofedcadoiaaPAllx3
import Derived.Test.YtjmmofedcadoiaaPAllx4
import Derived.Test.YtjmmofedcadoiaaPAllx5
import Derived.Test.YtjmmofedcadoiaaPAllx6
import Derived.Test.YtjmmofedcadoiaaPAllx7
import Derived.Test.YtjmmofedcadoiaaPAllx8
import Derived.Test.YtjmmofedcadoiaaPAllx9
namespace Go.Proofs.Ytjmmofedcadoiaa.PAll
open Go.RowKit Go.Proofs.YtjmmofedcadoiaaW.PrintWords Go.Proofs.YtjmmofedcadoiaaW.PrintLast Go.Proofs.YtjmmofedcadoiaaW.PrintMore
set_option linter.unusedVariables false
set_option linter.unusedSimpArgs false
theorem stepHead : governorlaw11_head.f = some true := by decide +kernel
theorem withinS_eq (a b c : Int) : governorref09_within.f a b c = some (decide (b ≤ a) && decide (a ≤ c)) := by
  unfold governorref09_within.f
  by_cases h : b ≤ a <;> simp [h]
/-- WHAT THE GUARD SAYS. -/
structure BandsP (l : List S29) : Prop where
  n1 : 1 ≤ l.length
  n8 : l.length ≤ 8
  lo : ∀ i : Int, 0 ≤ i → i < (l.length : Int) → 0 ≤ (rd_T29 l i).f0 ∧ (rd_T29 l i).f0 ≤ 1000000000
  up : ∀ i : Int, 0 < i → i < (l.length : Int) → (rd_T29 l (i - 1)).f0 < (rd_T29 l i).f0
  dd : ∀ i : Int, 0 ≤ i → i < (l.length : Int) → -1000 ≤ (rd_T29 l i).f1 ∧ (rd_T29 l i).f1 ≤ 1000
theorem bands_loop (l : List S29) (hl : l.length ≤ 8) (d : Nat) : ∀ (k : Nat) (i : Int), 0 ≤ i → i + (d : Int) = (l.length : Int) → d < k →
    ∃ b, governorref09_bands.l0 k l i = some b ∧ (b = true → 1 ≤ l.length ∧ ∀ j : Int, i ≤ j → j < (l.length : Int) → (0 ≤ (rd_T29 l j).f0 ∧ (rd_T29 l j).f0 ≤ 1000000000) ∧ (0 < j → (rd_T29 l (j - 1)).f0 < (rd_T29 l j).f0) ∧ -1000 ≤ (rd_T29 l j).f1 ∧ (rd_T29 l j).f1 ≤ 1000) := by
  induction d with
  | zero =>
    intro k i h0 hd hk
    obtain ⟨k, rfl⟩ : ∃ m, k = m + 1 := ⟨k - 1, by omega⟩
    simp only [governorref09_bands.l0]
    rw [if_neg (by omega)]
    by_cases c : (l.length : Int) ≥ 1
    · rw [if_pos c]; exact ⟨_, rfl, fun _ => ⟨by omega, fun j h1 h2 => by omega⟩⟩
    · rw [if_neg c]; exact ⟨false, rfl, fun h => by cases h⟩
  | succ d ih =>
    intro k i h0 hd hk
    obtain ⟨k, rfl⟩ : ∃ m, k = m + 1 := ⟨k - 1, by omega⟩
    simp only [governorref09_bands.l0, withinS_eq, Option.bind_some]
    rw [if_pos (by omega), if_pos h0, wr (n := i + 1) (by omega) (by omega), wr (n := i - 1) (by omega) (by omega)]
    obtain ⟨b, hb, hP⟩ := ih k (i + 1) (by omega) (by omega) (by omega)
    by_cases c1 : (decide (0 ≤ (rd_T29 l i).f0) && decide ((rd_T29 l i).f0 ≤ 1000000000)) = true
    · rw [if_pos c1]
      by_cases c2 : (decide (-1000 ≤ (rd_T29 l i).f1) && decide ((rd_T29 l i).f1 ≤ 1000)) = true
      · by_cases c3 : i > 0
        · rw [if_pos c3, if_pos (by omega), if_pos (by omega)]
          by_cases c4 : (rd_T29 l i).f0 ≤ (rd_T29 l (i - 1)).f0
          · rw [if_pos c4]; exact ⟨false, rfl, fun h => by cases h⟩
          · rw [if_neg c4, if_pos c2]
            refine ⟨b, hb, fun h => ⟨by omega, fun j h1 h2 => ?_⟩⟩
            by_cases e : j = i
            · subst e
              simp at c1 c2
              exact ⟨c1, fun _ => by omega, c2⟩
            · exact (hP h).2 j (by omega) h2
        · rw [if_neg c3, if_pos c2]
          refine ⟨b, hb, fun h => ⟨by omega, fun j h1 h2 => ?_⟩⟩
          by_cases e : j = i
          · subst e
            simp at c1 c2
            exact ⟨c1, fun _ => by omega, c2⟩
          · exact (hP h).2 j (by omega) h2
      · by_cases c3 : i > 0
        · rw [if_pos c3, if_pos (by omega), if_pos (by omega)]
          by_cases c4 : (rd_T29 l i).f0 ≤ (rd_T29 l (i - 1)).f0
          · rw [if_pos c4]; exact ⟨false, rfl, fun h => by cases h⟩
          · rw [if_neg c4, if_neg c2]; exact ⟨false, rfl, fun h => by cases h⟩
        · rw [if_neg c3, if_neg c2]; exact ⟨false, rfl, fun h => by cases h⟩
    · rw [if_neg c1]; exact ⟨false, rfl, fun h => by cases h⟩
theorem bands_tells (l : List S29) (k : Nat) (hk : 20 ≤ k) (hl : l.length ≤ 8) : ∃ b, governorref09_bands.f k l = some b ∧ (b = true → BandsP l) := by
  obtain ⟨b, hb, hP⟩ := bands_loop l hl l.length k 0 (by omega) (by omega) (by omega)
  exact ⟨b, hb, fun h => ⟨(hP h).1, hl, fun i h0 h1 => ((hP h).2 i h0 h1).1, fun i h0 h1 => ((hP h).2 i (by omega) h1).2.1 h0, fun i h0 h1 => ((hP h).2 i h0 h1).2.2⟩⟩
theorem stepRight_tells (l : List S29) (k : Nat) (hk : 20 ≤ k) : ∃ b, governorlaw11_Right.f k l = some b ∧ (b = true → BandsP l) := by
  unfold governorlaw11_Right.f
  by_cases c1 : (l.length : Int) ≤ 8
  · rw [if_pos c1]
    obtain ⟨b, hb, hP⟩ := bands_tells l k hk (by omega)
    unfold governorref09_Policy.f
    rw [if_neg (by omega), if_pos rfl, hb]
    cases b
    · exact ⟨false, by simp, fun h => by cases h⟩
    · exact ⟨true, by simp [governorref09_none.f], hP⟩
  · rw [if_neg c1]; exact ⟨false, rfl, fun h => by cases h⟩
theorem rdB_at (l : List S29) (i : Nat) (h : i < l.length) : rd_T29 l (i : Int) = l[i] := by
  simp [rd_T29, h]
theorem bands_mono {l : List S29} (R : BandsP l) (i : Nat) (d : Nat) : ∀ (h : i + 1 + d < l.length), l[i].f0 < l[i + 1 + d].f0 := by
  induction d with
  | zero =>
    intro h
    have h2 := R.up ((i + 1 : Nat) : Int) (by omega) (by omega)
    rw [show ((i + 1 : Nat) : Int) - 1 = ((i : Nat) : Int) by omega, rdB_at l i (by omega), rdB_at l (i + 1) (by omega)] at h2
    exact h2
  | succ d ih =>
    intro h
    have h1 := ih (by omega)
    have h2 := R.up ((i + 1 + d + 1 : Nat) : Int) (by omega) (by omega)
    rw [show ((i + 1 + d + 1 : Nat) : Int) - 1 = ((i + 1 + d : Nat) : Int) by omega, rdB_at l (i + 1 + d) (by omega), rdB_at l (i + 1 + d + 1) (by omega)] at h2
    have h3 : l[i + 1 + (d + 1)] = l[i + 1 + d + 1] := rfl
    rw [h3]
    omega
theorem bands_sorted {l : List S29} (R : BandsP l) : SortedS l := by
  refine ⟨by have := R.n8; omega, List.pairwise_iff_getElem.2 fun i j hi hj hij => ?_⟩
  obtain ⟨d, rfl⟩ : ∃ d, j = i + 1 + d := ⟨j - i - 1, by omega⟩
  exact bands_mono R i d hj
theorem cut_exists {l : List S29} (hs : SortedS l) (u : Int) (d : Nat) : ∀ i j : Int, j - i = (d : Int) → 0 ≤ i → j ≤ (l.length : Int) → cutS l u i j → ∃ c, cutS l u c c ∧ 0 ≤ c ∧ c ≤ (l.length : Int) := by
  induction d with
  | zero => intro i j hd h0 hj hc; obtain rfl : i = j := by omega
            exact ⟨i, hc, h0, hj⟩
  | succ d ih =>
    intro i j hd h0 hj hc
    by_cases h : (rd_T29 l i).f0 ≤ u
    · exact ih (i + 1) j (by omega) (by omega) hj (cutS_le hs hc h0 (by omega) h)
    · exact ⟨i, cutS_gt hs hc h0 (by omega) (by omega), h0, by omega⟩
/-- THE BAND THAT IS FOUND: the bands up to it, and no others, are not above. -/
theorem find_iff {l : List S29} (hs : SortedS l) (u : Int) (i : Int) (h0 : 0 ≤ i) (hi : i < (l.length : Int)) : (rd_T29 l i).f0 ≤ u ↔ i ≤ findS l u := by
  obtain ⟨c, hc, c0, c1⟩ := cut_exists hs u l.length 0 (l.length : Int) (by omega) (Int.le_refl _) (Int.le_refl _) (cutS_start l u)
  rw [cutS_end hc c0 c1, rdS_at l i h0 hi]
  constructor
  · intro h
    by_cases q : c ≤ i
    · have := hc.2 i.toNat (by omega) (by omega)
      omega
    · omega
  · intro h
    exact hc.1 i.toNat (by omega) (by omega)
theorem find_of {l : List S29} (hs : SortedS l) (u : Int) (c : Int) (c0 : -1 ≤ c) (c1 : c < (l.length : Int)) (h1 : 0 ≤ c → (rd_T29 l c).f0 ≤ u) (h2 : c + 1 < (l.length : Int) → u < (rd_T29 l (c + 1)).f0) : findS l u = c := by
  have hin := findS_in l u
  have a1 : c ≤ findS l u := by
    by_cases q : 0 ≤ c
    · exact (find_iff hs u c q c1).1 (h1 q)
    · omega
  by_cases q : c + 1 < (l.length : Int)
  · have := mt (find_iff hs u (c + 1) (by omega) q).2 (by have := h2 q; omega)
    omega
  · omega
theorem refFind_loop {l : List S29} (hs : SortedS l) (hl : l.length ≤ 8) (u : Int) (d : Nat) : ∀ (k : Nat) (i acc : Int), 0 ≤ i → i + (d : Int) = (l.length : Int) → d < k → acc = (if findS l u < i then findS l u else i - 1) →
    governorref11_Find.l0 k l u acc i = some (findS l u) := by
  have hin := findS_in l u
  induction d with
  | zero =>
    intro k i acc h0 hd hk ha
    obtain ⟨k, rfl⟩ : ∃ m, k = m + 1 := ⟨k - 1, by omega⟩
    simp only [governorref11_Find.l0]
    rw [if_neg (by omega), ha, if_pos (by omega)]
  | succ d ih =>
    intro k i acc h0 hd hk ha
    obtain ⟨k, rfl⟩ : ∃ m, k = m + 1 := ⟨k - 1, by omega⟩
    simp only [governorref11_Find.l0]
    rw [if_pos (by omega), if_pos h0, wr (n := i + 1) (by omega) (by omega)]
    have hf := find_iff hs u i h0 (by omega)
    by_cases c : (rd_T29 l i).f0 ≤ u
    · rw [if_pos c]
      have := hf.1 c
      refine ih k (i + 1) i (by omega) (by omega) (by omega) ?_
      by_cases q : findS l u < i + 1
      · rw [if_pos q]; omega
      · rw [if_neg q]; omega
    · rw [if_neg c]
      have := mt hf.2 c
      refine ih k (i + 1) acc (by omega) (by omega) (by omega) ?_
      rw [ha, if_pos (by omega), if_pos (by omega)]
theorem refFind_eq {l : List S29} (R : BandsP l) (u : Int) (k : Nat) (hk : 20 ≤ k) : governorref11_Find.f k l u = some (findS l u) := by
  have n8 := R.n8
  have hin := findS_in l u
  exact refFind_loop (bands_sorted R) R.n8 u l.length k 0 (-1) (Int.le_refl _) (by omega) (by omega) (by by_cases q : findS l u < 0; · rw [if_pos q]; omega
                                                                                                         · rw [if_neg q]; omega)
theorem stepFind_eq {l : List S29} (hs : SortedS l) (u : Int) : step_Find.f l u = some (findS l u) := by
  unfold step_Find.f; rw [if_pos hs]
theorem stepWant_eq {l : List S29} (hs : SortedS l) (c u : Int) : step_Want.f l c u = some (if findS l u ≥ 0 then cl0 (wrap64 (cl0 c + (rd_T29 l (findS l u)).f1)) else cl0 c) := by
  unfold step_Want.f; rw [if_pos hs]
theorem cl0_in (n : Int) : 0 ≤ cl0 n ∧ cl0 n ≤ 1000 := by unfold cl0 mx mn; omega
theorem cl0_mono {m n : Int} (h : m ≤ n) : cl0 m ≤ cl0 n := by unfold cl0 mx mn; omega
theorem cl0_same {n : Int} (h0 : 0 ≤ n) (h1 : n ≤ 1000) : cl0 n = n := by unfold cl0 mx mn; omega
theorem refWant_eq {l : List S29} (R : BandsP l) (c u : Int) (k : Nat) (hk : 20 ≤ k) : governorref11_Want.f k l c u = step_Want.f l c u := by
  have hin := findS_in l u
  unfold governorref11_Want.f
  rw [refFind_eq R u k hk, stepWant_eq (bands_sorted R)]
  simp only [Option.bind_some]
  have e : mn (mx c 0) 1000 = cl0 c := by unfold cl0 mx mn; omega
  have e2 : ∀ n, mn (mx n 0) 1000 = cl0 n := fun n => by unfold cl0 mx mn; omega
  rw [e]
  by_cases q : findS l u ≥ 0
  · rw [if_pos q, if_pos q, if_pos q, if_pos (by omega), e2]
  · rw [if_neg q, if_neg q, e2, cl0_same (cl0_in c).1 (cl0_in c).2]
end Go.Proofs.Ytjmmofedcadoiaa.PAll
