import Derived.Test.YtgeldfjpafimpaaCBase
import Derived.Test.YtgeldfjpafimpaaPAllx0
import Derived.Test.YtgeldfjpafimpaaPAllx11
import Derived.Test.YtgeldfjpafimpaaPAllx18
import Derived.Test.YtgeldfjpafimpaaPAllx2
namespace Go.Proofs.Ytgeldfjpafimpaa.PAll
open Go.RowKit Go.Proofs.YtgeldfjpafimpaaW.PrintWords Go.Proofs.YtgeldfjpafimpaaW.PrintLast Go.Proofs.YtgeldfjpafimpaaW.PrintMore
set_option linter.unusedVariables false
set_option linter.unusedSimpArgs false
/-! ### rows of small numbers -/
def Small (l : List Int) : Prop := ∀ x ∈ l, 0 ≤ x ∧ x ≤ 1000
theorem small_nil : Small [] := fun x h => by cases h
theorem small_cons {x : Int} {l : List Int} : Small (x :: l) ↔ (0 ≤ x ∧ x ≤ 1000) ∧ Small l := by simp [Small]
theorem small_append {a b : List Int} : Small (a ++ b) ↔ Small a ∧ Small b := by
  constructor
  · intro h; exact ⟨fun x hx => h x (by simp [hx]), fun x hx => h x (by simp [hx])⟩
  · rintro ⟨h1, h2⟩ x hx
    rcases List.mem_append.1 hx with hx | hx
    · exact h1 x hx
    · exact h2 x hx
theorem small_drop {l : List Int} (h : Small l) (n : Nat) : Small (l.drop n) := fun x hx => h x (List.mem_of_mem_drop hx)
theorem small_take {l : List Int} (h : Small l) (n : Nat) : Small (l.take n) := fun x hx => h x (List.mem_of_mem_take hx)
theorem small_zeros (n : Nat) : Small (List.replicate n 0) := fun x hx => by rw [List.eq_of_mem_replicate hx]; omega
theorem sum_nonneg {l : List Int} (h : Small l) : 0 ≤ l.sum := by
  induction l with
  | nil => simp
  | cons x l ih => rw [List.sum_cons]; have := ih (small_cons.1 h).2; have := (small_cons.1 h).1; omega
theorem sum_le {l : List Int} (h : Small l) : l.sum ≤ 1000 * (l.length : Int) := by
  induction l with
  | nil => simp
  | cons x l ih => rw [List.sum_cons, List.length_cons]; have := ih (small_cons.1 h).2; have := (small_cons.1 h).1; omega
theorem sum_app (a b : List Int) : (a ++ b).sum = a.sum + b.sum := by
  induction a with
  | nil => simp
  | cons x a ih => rw [List.cons_append, List.sum_cons, List.sum_cons, ih]; omega
theorem sum_zeros (n : Nat) : (List.replicate n (0 : Int)).sum = 0 := by
  induction n with
  | zero => rfl
  | succ n ih => rw [List.replicate_succ, List.sum_cons, ih]; rfl
theorem rd_nat (l : List Int) (i : Nat) : rd l (i : Int) = l.getD i 0 := by unfold rd; rw [Int.toNat_natCast]
theorem rd_get {l : List Int} {i : Nat} (h : i < l.length) : rd l (i : Int) = l[i] := by
  rw [rd_nat, List.getD_eq_getElem?_getD, List.getElem?_eq_getElem h]; rfl
theorem small_rd {l : List Int} (h : Small l) {i : Int} (h0 : 0 ≤ i) (h1 : i < (l.length : Int)) : 0 ≤ rd l i ∧ rd l i ≤ 1000 := by
  obtain ⟨n, rfl⟩ := Int.eq_ofNat_of_zero_le h0
  rw [rd_get (by omega)]
  exact h _ (List.getElem_mem _)
theorem rd_le_sum {l : List Int} (h : Small l) {i : Int} (h0 : 0 ≤ i) (h1 : i < (l.length : Int)) : rd l i ≤ l.sum := by
  obtain ⟨n, rfl⟩ := Int.eq_ofNat_of_zero_le h0
  rw [rd_get (by omega)]
  clear h0
  induction l generalizing n with
  | nil => simp at h1; omega
  | cons x l ih =>
    rw [List.sum_cons]
    have h2 := small_cons.1 h
    cases n with
    | zero => have := sum_nonneg h2.2; simp only [List.getElem_cons_zero]; omega
    | succ n =>
      simp only [List.getElem_cons_succ]
      have := ih h2.2 n (by simp only [List.length_cons] at h1; omega)
      omega
theorem sum_set (l : List Int) (n : Nat) (x : Int) (h : n < l.length) : (l.set n x).sum = l.sum - rd l (n : Int) + x := by
  rw [rd_get h]
  induction l generalizing n with
  | nil => simp at h
  | cons y l ih =>
    cases n with
    | zero => simp only [List.set_cons_zero, List.sum_cons, List.getElem_cons_zero]; omega
    | succ n =>
      simp only [List.set_cons_succ, List.sum_cons, List.getElem_cons_succ]
      rw [ih n (by simp only [List.length_cons] at h; omega)]
      omega
theorem small_set {l : List Int} (h : Small l) (n : Nat) {x : Int} (hx : 0 ≤ x ∧ x ≤ 1000) : Small (l.set n x) := by
  intro y hy
  rcases List.mem_or_eq_of_mem_set hy with hy | rfl
  · exact h y hy
  · exact hx
theorem rd_set_ne {l : List Int} {n : Nat} {i : Int} (x : Int) (h0 : 0 ≤ i) (h : i ≠ (n : Int)) : rd (l.set n x) i = rd l i := by
  obtain ⟨m, rfl⟩ := Int.eq_ofNat_of_zero_le h0
  rw [rd_nat, rd_nat, List.getD_eq_getElem?_getD, List.getD_eq_getElem?_getD, List.getElem?_set_ne (by omega)]
theorem rd_set_eq {l : List Int} {n : Nat} (x : Int) (h : n < l.length) : rd (l.set n x) (n : Int) = x := by
  rw [rd_nat, List.getD_eq_getElem?_getD, List.getElem?_set_self h]; rfl
/-- How many there are. -/
theorem allL_eq {l : List Int} (h : Small l) : ∀ {R : Int}, 0 ≤ R → R ≤ 1000000 → l.length ≤ 100 → allL R l = R + l.sum := by
  have key : ∀ (l : List Int) (R : Int), Small l → 0 ≤ R → R + 1000 * (l.length : Int) ≤ 9000000 → allL R l = R + l.sum := by
    intro l
    induction l with
    | nil => intro R _ _ _; simp [allL]
    | cons x l ih =>
      intro R hs h0 h1
      have h2 := small_cons.1 hs
      have e : allL R (x :: l) = allL (wrap64 (R + x)) l := rfl
      simp only [List.length_cons] at h1
      rw [e, wr (by omega) (by omega), ih (R + x) h2.2 (by omega) (by omega), List.sum_cons]
      omega
  intro R h0 h1 h2
  exact key l R h h0 (by omega)
/-- May a plant be so? -/
structure PR (R : Int) (l : List Int) (wt ut : Int) : Prop where
  r0 : 0 ≤ R
  r1 : R ≤ 1000
  len : l.length ≤ 8
  sm : Small l
  w0 : 0 ≤ wt
  w1 : wt ≤ 1000000000
  u0 : 0 ≤ ut
  u1 : ut ≤ 1000000000
  all : R + l.sum ≤ 1000
theorem refAll_at (l : List Int) (hl : l.length < 9000000000000000000) (R0 a b : Int) : ∀ (d : Nat) (j : Nat) (R : Int) (k : Nat), l.length = j + d → d < k → governorref16_All.l0 k R (j : Int) R0 l a b = some (allL R (l.drop j)) := by
  intro d
  induction d with
  | zero =>
    intro j R k h hk
    obtain ⟨k, rfl⟩ : ∃ m, k = m + 1 := ⟨k - 1, by omega⟩
    rw [governorref16_All.l0, if_neg (by omega), List.drop_of_length_le (by omega)]
    rfl
  | succ d ih =>
    intro j R k h hk
    obtain ⟨k, rfl⟩ : ∃ m, k = m + 1 := ⟨k - 1, by omega⟩
    rw [governorref16_All.l0, if_pos (by omega), if_pos (by omega)]
    have e : wrap64 ((j : Int) + 1) = ((j + 1 : Nat) : Int) := wr (by omega) (by omega)
    rw [e, ih (j + 1) _ k (by omega) (by omega), List.drop_eq_getElem_cons (show j < l.length by omega), rd_get (by omega)]
    rfl
theorem refAll_eq (R : Int) (l : List Int) (a b : Int) (hl : l.length < 9000000000000000000) (k : Nat) (hk : l.length < k) : governorref16_All.f k R l a b = some (allL R l) :=
  refAll_at l hl R a b l.length 0 R k (by omega) (by omega)
theorem all_eq (R : Int) (l : List Int) (a b : Int) (hl : l.length < 9000000000000000000) (k : Nat) (hk : l.length < k) : plant_All.f k R l a b = some (allL R l) :=
  at_rounds (plant_All.mono R l a b) hk (plant_All_fold R l hl a b)
theorem right_loop (R : Int) (l : List Int) (wt ut : Int) (h0 : 0 ≤ R) (h1 : R ≤ 1000) (hl : l.length ≤ 8) : ∀ (d : Nat) (j : Nat) (k : Nat), l.length = j + d → d + 10 < k → Small (l.take j) →
    ∃ b, governorref16_Right.l0 k (j : Int) R l wt ut = some b ∧ (b = true ↔ Small l ∧ R + l.sum ≤ 1000) := by
  intro d
  induction d with
  | zero =>
    intro j k h hk hs
    obtain ⟨k, rfl⟩ : ∃ m, k = m + 1 := ⟨k - 1, by omega⟩
    have hsm : Small l := by rw [List.take_of_length_le (by omega)] at hs; exact hs
    rw [governorref16_Right.l0, if_neg (by omega), refAll_eq R l wt ut (by omega) k (by omega)]
    simp only [Option.bind_some]
    refine ⟨_, rfl, ?_⟩
    rw [allL_eq hsm h0 (by omega) (by omega), decide_eq_true_eq]
    exact ⟨fun h => ⟨hsm, h⟩, fun h => h.2⟩
  | succ d ih =>
    intro j k h hk hs
    obtain ⟨k, rfl⟩ : ∃ m, k = m + 1 := ⟨k - 1, by omega⟩
    have hj : j < l.length := by omega
    rw [governorref16_Right.l0, if_pos (by omega), if_pos (by omega)]
    have bad : ¬ (0 ≤ rd l (j : Int) ∧ rd l (j : Int) ≤ 1000) → ¬ Small l := fun hn hsm => hn (small_rd hsm (by omega) (by omega))
    by_cases c1 : rd l (j : Int) < 0
    · rw [if_pos c1]
      exact ⟨_, rfl, by simp; intro hsm; exact absurd hsm (bad (by omega))⟩
    · rw [if_neg c1]
      by_cases c2 : rd l (j : Int) > 1000
      · rw [if_pos c2]
        exact ⟨_, rfl, by simp; intro hsm; exact absurd hsm (bad (by omega))⟩
      · rw [if_neg c2]
        have e : wrap64 ((j : Int) + 1) = ((j + 1 : Nat) : Int) := wr (by omega) (by omega)
        rw [e]
        refine ih (j + 1) k (by omega) (by omega) ?_
        rw [List.take_succ_eq_append_getElem hj, small_append]
        refine ⟨hs, fun x hx => ?_⟩
        rw [List.mem_singleton.1 hx, ← rd_get hj]
        omega
/-- What Right tells. -/
theorem right_tells (R : Int) (l : List Int) (wt ut : Int) (hl : l.length ≤ 8) (k : Nat) (hk : 24 ≤ k) : ∃ b, governorref16_Right.f k R l wt ut = some b ∧ (b = true ↔ PR R l wt ut) := by
  have fls : ∀ (c : Bool), ∃ m, k = m + 1 ∧ governorref16_Right.j0 k true R l wt ut = some false := fun _ => ⟨k - 1, by omega, by
    obtain ⟨m, rfl⟩ : ∃ m, k = m + 1 := ⟨k - 1, by omega⟩
    rw [governorref16_Right.j0, if_pos rfl]⟩
  obtain ⟨m, hm, hf⟩ := fls true
  unfold governorref16_Right.f
  by_cases c1 : R < 0
  · rw [if_pos c1, hf]; exact ⟨_, rfl, by simp; intro h; have := h.r0; omega⟩
  rw [if_neg c1]
  by_cases c2 : R > 1000
  · rw [if_pos c2, hf]; exact ⟨_, rfl, by simp; intro h; have := h.r1; omega⟩
  rw [if_neg c2, if_neg (by omega)]
  by_cases c3 : wt < 0
  · rw [if_pos c3, hf]; exact ⟨_, rfl, by simp; intro h; have := h.w0; omega⟩
  rw [if_neg c3]
  by_cases c4 : wt > 1000000000
  · rw [if_pos c4, hf]; exact ⟨_, rfl, by simp; intro h; have := h.w1; omega⟩
  rw [if_neg c4]
  by_cases c5 : ut < 0
  · rw [if_pos c5, hf]; exact ⟨_, rfl, by simp; intro h; have := h.u0; omega⟩
  rw [if_neg c5]
  by_cases c6 : ut > 1000000000
  · rw [decide_eq_true c6, hf]; exact ⟨_, rfl, by simp; intro h; have := h.u1; omega⟩
  rw [decide_eq_false c6, hm, governorref16_Right.j0, if_neg (by simp)]
  obtain ⟨b, h1, h2⟩ := right_loop R l wt ut (by omega) (by omega) hl l.length 0 m (by omega) (by omega) (by rw [List.take_zero]; exact small_nil)
  refine ⟨b, h1, h2.trans ⟨fun h => ⟨by omega, by omega, hl, h.1, by omega, by omega, by omega, by omega, h.2⟩, fun h => ⟨h.sm, h.all⟩⟩⟩
end Go.Proofs.Ytgeldfjpafimpaa.PAll
