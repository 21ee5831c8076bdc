import Derived.Test.YtgeldfjpafimpaaCBase
import Derived.Test.YtgeldfjpafimpaaCPlant
import Derived.Test.YtgeldfjpafimpaaPAllx0
import Derived.Test.YtgeldfjpafimpaaPAllx11
import Derived.Test.YtgeldfjpafimpaaPAllx4
import Derived.Test.YtgeldfjpafimpaaPAllx6
namespace Go.Proofs.Ytgeldfjpafimpaa.PAll
open Go.RowKit Go.Proofs.YtgeldfjpafimpaaW.PrintWords Go.Proofs.YtgeldfjpafimpaaW.PrintLast Go.Proofs.YtgeldfjpafimpaaW.PrintMore
set_option linter.unusedVariables false
set_option linter.unusedSimpArgs false
/-! ### shrink -/
structure ShP (l : List Int) (many : Int) (k : Nat) (s : List Int × Int) : Prop where
  m0 : 0 ≤ s.2
  m1 : s.2 ≤ many
  len : s.1.length = l.length
  sm : Small s.1
  sum : s.1.sum = l.sum - (many - s.2)
  le : ∀ i : Nat, i < l.length → rd s.1 (i : Int) ≤ rd l (i : Int)
  rest : ∀ i : Nat, i + k < l.length → rd s.1 (i : Int) = rd l (i : Int)
  zero : 0 < s.2 → ∀ i : Nat, l.length ≤ i + k → i < l.length → rd s.1 (i : Int) = 0
  last : ∀ i j : Nat, i < j → j < l.length → rd s.1 (i : Int) < rd l (i : Int) → rd s.1 (j : Int) = 0
theorem shr_spec {l : List Int} {many : Int} (hs : Small l) (h0 : 0 ≤ many) (h1 : many ≤ 1000000) : ∀ k : Nat, k ≤ l.length → ShP l many k (shr l many k) := by
  intro k
  induction k with
  | zero =>
    intro _
    exact ⟨h0, Int.le_refl _, rfl, hs, by show l.sum = l.sum - (many - many); omega, fun _ _ => Int.le_refl _, fun _ _ => rfl, fun _ i h1 h2 => by omega, fun i j _ _ h => by have : rd l (i : Int) < rd l (i : Int) := h; omega⟩
  | succ k ih =>
    intro hk
    have P := ih (by omega)
    obtain ⟨s, hsd⟩ : ∃ s, shr l many k = s := ⟨_, rfl⟩
    rw [hsd] at P
    obtain ⟨n, hn⟩ : ∃ n, rd l ((l.length : Int) - 1 - (k : Int)) = n := ⟨_, rfl⟩
    have eidx : ((l.length : Int) - 1 - (k : Int)) = ((l.length - 1 - k : Nat) : Int) := by omega
    have hnb := small_rd hs (i := (l.length : Int) - 1 - (k : Int)) (by omega) (by omega)
    rw [hn] at hnb
    have hm0 := P.m0
    have hm1 := P.m1
    obtain ⟨g, hg⟩ : ∃ g, mn n s.2 = g := ⟨_, rfl⟩
    have hg1 : g ≤ n ∧ g ≤ s.2 ∧ 0 ≤ g ∧ (g = n ∨ g = s.2) := by rw [← hg]; unfold mn; split <;> omega
    have e : shr l many (k + 1) = (s.1.set (l.length - 1 - k) (n - g), s.2 - g) := by
      show (_, _) = (_, _)
      rw [hsd, hn, hg, wr (n := n - g) (by omega) (by omega), wr (n := s.2 - g) (by omega) (by omega)]
    rw [e]
    have hidx : l.length - 1 - k < s.1.length := by rw [P.len]; omega
    have hcur : rd s.1 ((l.length - 1 - k : Nat) : Int) = n := by rw [P.rest _ (by omega), ← eidx, hn]
    have hne : ∀ i : Nat, i ≠ l.length - 1 - k → rd (s.1.set (l.length - 1 - k) (n - g)) (i : Int) = rd s.1 (i : Int) := fun i hi => rd_set_ne _ (by omega) (by omega)
    have heq : rd (s.1.set (l.length - 1 - k) (n - g)) ((l.length - 1 - k : Nat) : Int) = n - g := rd_set_eq _ hidx
    refine ⟨by show 0 ≤ s.2 - g; omega, by show s.2 - g ≤ many; omega, by show (s.1.set _ _).length = _; rw [List.length_set, P.len], small_set P.sm _ (by omega), ?_, ?_, ?_, ?_, ?_⟩
    · show (s.1.set _ _).sum = l.sum - (many - (s.2 - g))
      rw [sum_set _ _ _ hidx, hcur, P.sum]
      omega
    · intro i hi
      show rd (s.1.set _ _) _ ≤ _
      by_cases c : i = l.length - 1 - k
      · subst c
        rw [heq, ← eidx, hn]
        omega
      · rw [hne i c]; exact P.le i hi
    · intro i hi
      show rd (s.1.set _ _) _ = _
      rw [hne i (by omega)]
      exact P.rest i (by omega)
    · intro hp i h3 h4
      have hp' : 0 < s.2 - g := hp
      show rd (s.1.set _ _) _ = 0
      by_cases c : i = l.length - 1 - k
      · subst c
        rw [heq]
        omega
      · rw [hne i c]
        exact P.zero (by omega) i (by omega) h4
    · intro i j hij hj hlt
      show rd (s.1.set _ _) _ = 0
      have hlt' : rd (s.1.set (l.length - 1 - k) (n - g)) (i : Int) < rd l (i : Int) := hlt
      by_cases c : i = l.length - 1 - k
      · subst c
        rw [heq, ← eidx, hn] at hlt'
        rw [hne j (by omega)]
        exact P.zero (by omega) j (by omega) hj
      · rw [hne i c] at hlt'
        by_cases c2 : i < l.length - 1 - k
        · rw [P.rest i (by omega)] at hlt'
          omega
        · rw [hne j (by omega)]
          exact P.last i j hij hj hlt'
theorem sum_zero_of {l : List Int} (h : ∀ i : Nat, i < l.length → rd l (i : Int) = 0) : l.sum = 0 := by
  induction l with
  | nil => rfl
  | cons x l ih =>
    have h0 := h 0 (by simp)
    rw [rd_get (by simp)] at h0
    simp only [List.getElem_cons_zero] at h0
    rw [List.sum_cons, h0, ih (fun i hi => ?_)]
    · rfl
    · have := h (i + 1) (by simp; omega)
      rw [rd_get (by simp; omega)] at this
      simp only [List.getElem_cons_succ] at this
      rw [rd_get hi]
      exact this
/-! ### trim -/
theorem trimL_split : ∀ (n : Nat) (l : List Int), l.length = n → ∃ m, l = trimL l ++ List.replicate m 0 := by
  intro n
  induction n with
  | zero => intro l h; have := List.eq_nil_of_length_eq_zero h; subst this; exact ⟨0, rfl⟩
  | succ n ih =>
    intro l h
    have hs := snoc_at l (by omega)
    obtain ⟨m, hm⟩ := ih (l.take (l.length - 1)) (by rw [List.length_take]; omega)
    by_cases hx : rd l ((l.length : Int) - 1) = 0
    · refine ⟨m + 1, ?_⟩
      rw [← trimL_end0 l (by omega) hx, List.replicate_succ', ← List.append_assoc, ← hm, ← hx]
      exact hs
    · exact ⟨0, by rw [trimL_end l (by omega) hx]; simp⟩
theorem trimL_sum (l : List Int) : (trimL l).sum = l.sum := by
  obtain ⟨m, hm⟩ := trimL_split _ l rfl
  have h := congrArg List.sum hm
  rw [sum_app, sum_zeros] at h
  omega
theorem trimL_small {l : List Int} (h : Small l) : Small (trimL l) := by
  obtain ⟨m, hm⟩ := trimL_split _ l rfl
  rw [hm] at h
  exact (small_append.1 h).1
theorem trimL_zeros (l : List Int) (m : Nat) : trimL (l ++ List.replicate m 0) = trimL l := by
  induction m with
  | zero => simp
  | succ m ih => rw [List.replicate_succ', ← List.append_assoc, trimL_snoc0, ih]
theorem trimL_rd (l : List Int) {i : Nat} (h : i < (trimL l).length) : rd (trimL l) (i : Int) = rd l (i : Int) := by
  obtain ⟨m, hm⟩ := trimL_split _ l rfl
  have hl : l.length = (trimL l).length + m := by
    have := congrArg List.length hm
    rw [List.length_append, List.length_replicate] at this
    exact this
  rw [rd_get h, rd_get (by omega)]
  have h2 : (trimL l ++ List.replicate m 0)[i]'(by rw [List.length_append]; omega) = (trimL l)[i] := List.getElem_append_left h
  rw [← h2]
  congr 1
  exact hm.symm
theorem trimL_last : ∀ (n : Nat) (l : List Int), l.length = n → ∀ i : Nat, i + 1 = (trimL l).length → rd l (i : Int) ≠ 0 := by
  intro n
  induction n with
  | zero => intro l h i hi; have := List.eq_nil_of_length_eq_zero h; subst this; simp [trimL] at hi
  | succ n ih =>
    intro l h i hi
    by_cases hx : rd l ((l.length : Int) - 1) = 0
    · have e := trimL_end0 l (by omega) hx
      rw [← e] at hi
      have h2 := ih (l.take (l.length - 1)) (by rw [List.length_take]; omega) i hi
      have h3 := trimL_length (l.take (l.length - 1))
      rw [List.length_take] at h3
      rw [rd_get (by rw [List.length_take]; omega)] at h2
      rw [rd_get (by omega)]
      rw [List.getElem_take] at h2
      exact h2
    · rw [trimL_end l (by omega) hx] at hi
      rw [show ((i : Nat) : Int) = (l.length : Int) - 1 by omega]
      exact hx
/-- Behind the row that is left there is nothing. -/
theorem trimL_rest (l : List Int) {i : Nat} (h0 : (trimL l).length ≤ i) (h : i < l.length) : rd l (i : Int) = 0 := by
  obtain ⟨m, hm⟩ := trimL_split _ l rfl
  have h2 : (trimL l ++ List.replicate m 0)[i]'(by rw [← hm]; exact h) = 0 := by
    rw [List.getElem_append_right h0]
    exact List.getElem_replicate _
  rw [rd_get h, ← h2]
  congr 1
/-! ### grow -/
structure GrP (l : List Int) (d more : Int) (r : List Int) : Prop where
  sm : Small r
  sum : r.sum = l.sum + more
  len : r.length ≤ 8
theorem grow_spec {l : List Int} {d more : Int} (hs : Small l) (hl : l.length ≤ 8) (hd : 1 ≤ d) (hd8 : d ≤ 8) (hm : 0 ≤ more) (hsum : l.sum + more ≤ 1000) : GrP l d more (growL d more l) := by
  obtain ⟨l2, hl2⟩ : ∃ l2, (if d - (l.length : Int) > 0 then l ++ List.replicate (d - (l.length : Int)).toNat 0 else l) = l2 := ⟨_, rfl⟩
  have h2 : Small l2 ∧ l2.sum = l.sum ∧ l2.length ≤ 8 ∧ d ≤ (l2.length : Int) := by
    rw [← hl2]
    by_cases c : d - (l.length : Int) > 0
    · rw [if_pos c]
      exact ⟨small_append.2 ⟨hs, small_zeros _⟩, by rw [sum_app, sum_zeros]; omega, by rw [List.length_append, List.length_replicate]; omega, by rw [List.length_append, List.length_replicate]; omega⟩
    · rw [if_neg c]
      exact ⟨hs, rfl, hl, by omega⟩
  obtain ⟨a1, a2, a3, a4⟩ := h2
  have hb := small_rd a1 (i := d - 1) (by omega) (by omega)
  have hc := rd_le_sum a1 (i := d - 1) (by omega) (by omega)
  have e : growL d more l = l2.set (d - 1).toNat (rd l2 (d - 1) + more) := by
    unfold growL
    simp only
    rw [hl2, wr (by omega) (by omega)]
  rw [e]
  refine ⟨small_set a1 _ (by omega), ?_, by rw [List.length_set]; exact a3⟩
  rw [sum_set _ _ _ (by omega), show (((d - 1).toNat : Nat) : Int) = d - 1 by omega]
  omega
/-! ### what is left behind both -/
structure SzP (n : Int) (r : Int × List Int) : Prop where
  r0 : 0 ≤ r.1
  r1 : r.1 ≤ 1000
  len : r.2.length ≤ 8
  sm : Small r.2
  all : r.1 + r.2.sum = n
theorem sized_spec {R d n : Int} {l : List Int} (h0 : 0 ≤ R) (hs : Small l) (hl : l.length ≤ 8) (hd0 : 0 ≤ d) (hd8 : d ≤ 8) (ha : R + l.sum ≤ 1000) (hn0 : 0 ≤ n) (hn : n ≤ 1000) : SzP n (sizedL R d (n - (R + l.sum)) l) := by
  have hsn := sum_nonneg hs
  unfold sizedL
  by_cases c1 : 0 < n - (R + l.sum)
  · rw [if_pos c1]
    by_cases c2 : d = 0
    · rw [if_pos c2, wr (by omega) (by omega)]
      exact ⟨by show 0 ≤ R + (n - (R + l.sum)); omega, by show R + (n - (R + l.sum)) ≤ 1000; omega, hl, hs, by show R + (n - (R + l.sum)) + l.sum = n; omega⟩
    · rw [if_neg c2]
      have G := grow_spec (d := d) hs hl (by omega) hd8 (more := n - (R + l.sum)) (by omega) (by omega)
      exact ⟨h0, by show R ≤ 1000; omega, G.len, G.sm, by show R + (growL _ _ _).sum = n; rw [G.sum]; omega⟩
  · rw [if_neg c1]
    by_cases c2 : n - (R + l.sum) < 0
    · rw [if_pos c2, wr (n := -(n - (R + l.sum))) (by omega) (by omega)]
      have P := shr_spec hs (many := -(n - (R + l.sum))) (by omega) (by omega) l.length (Nat.le_refl _)
      generalize shr l (-(n - (R + l.sum))) l.length = s at P ⊢
      have hm0 := P.m0
      have hm1 := P.m1
      have hsum := P.sum
      have hsn2 := sum_nonneg P.sm
      have hz : 0 < s.2 → s.1.sum = 0 := fun hp => sum_zero_of (fun i hi => P.zero hp i (by omega) (by rw [← P.len]; exact hi))
      rw [wr (by omega) (by omega)]
      refine ⟨?_, by show R - s.2 ≤ 1000; omega, by show s.1.length ≤ 8; rw [P.len]; exact hl, P.sm, by show R - s.2 + s.1.sum = n; omega⟩
      show 0 ≤ R - s.2
      by_cases hp : 0 < s.2
      · have := hz hp; omega
      · omega
    · rw [if_neg c2]
      exact ⟨h0, by show R ≤ 1000; omega, hl, hs, by show R + l.sum = n; omega⟩
end Go.Proofs.Ytgeldfjpafimpaa.PAll
