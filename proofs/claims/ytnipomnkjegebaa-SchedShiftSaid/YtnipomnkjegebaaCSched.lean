import Derived.Test.YtnipomnkjegebaaPAllx0
import Derived.Test.YtnipomnkjegebaaPAllx2
import Derived.Test.YtnipomnkjegebaaPAllx3
import Derived.Test.YtnipomnkjegebaaPAllx4
import Derived.Test.YtnipomnkjegebaaPAllx6
import Derived.Test.YtnipomnkjegebaaPAllx7
import Derived.IntWalk
namespace Go.Proofs.Ytnipomnkjegebaa.PAll
open Go.RowKit Go.Proofs.YtnipomnkjegebaaW.PrintWords Go.Proofs.YtnipomnkjegebaaW.PrintLast Go.Proofs.YtnipomnkjegebaaW.PrintMore
set_option linter.unusedVariables false
set_option linter.unusedSimpArgs false
theorem wf64 {n : Int} (h : (Lit.int .i64 n).wf = true) : -9223372036854775808 ≤ n ∧ n ≤ 9223372036854775807 := by
  have h' := (Bool.and_eq_true _ _).mp h
  exact ⟨of_decide_eq_true h'.1, of_decide_eq_true h'.2⟩
theorem wf32 {n : Int} (h : (Lit.int .i32 n).wf = true) : -2147483648 ≤ n ∧ n ≤ 2147483647 := by
  have h' := (Bool.and_eq_true _ _).mp h
  exact ⟨of_decide_eq_true h'.1, of_decide_eq_true h'.2⟩
theorem wf16 {n : Int} (h : (Lit.int .i16 n).wf = true) : -32768 ≤ n ∧ n ≤ 32767 := by
  have h' := (Bool.and_eq_true _ _).mp h
  exact ⟨of_decide_eq_true h'.1, of_decide_eq_true h'.2⟩
theorem wfu8 {n : Int} (h : (Lit.int .u8 n).wf = true) : 0 ≤ n ∧ n ≤ 255 := by
  have h' := (Bool.and_eq_true _ _).mp h
  exact ⟨of_decide_eq_true h'.1, of_decide_eq_true h'.2⟩
theorem wr {n : Int} (h0 : -9223372036854775808 ≤ n) (h1 : n ≤ 9223372036854775807) : wrap64 n = n := IntWalk.wrap64_in n ⟨h0, h1⟩

theorem tmod_bounds (t p : Int) (hp : 0 < p) : -p < Int.tmod t p ∧ Int.tmod t p < p := by
  refine ⟨?_, Int.tmod_lt_of_pos t hp⟩
  have h := Int.tmod_lt_of_pos (-t) hp
  rw [Int.neg_tmod] at h
  omega
theorem tmod_emod (t p : Int) : Int.tmod t p % p = t % p := by
  have h : Int.tmod t p = t - p * Int.tdiv t p := by have := Int.tmod_add_mul_tdiv t p; omega
  rw [h, Int.sub_mul_emod_self_left]
theorem at_eq {p t : Int} (hp1 : 1 ≤ p) (hp2 : p ≤ 1099511627776) : sched_At.f p t = some (t % p) := by
  unfold sched_At.f
  rw [if_neg (by omega)]
  have hb := tmod_bounds t p (by omega)
  rw [wr (by omega) (by omega), Int.tmod_eq_emod_of_nonneg (by omega), Int.add_emod_right, tmod_emod]
theorem refAt_eq {p t : Int} (hp1 : 1 ≤ p) (hp2 : p ≤ 1099511627776) : governorref13_At.f p t = some (t % p) := by
  unfold governorref13_At.f
  rw [if_neg (by omega)]
  have hb := tmod_bounds t p (by omega)
  have he := tmod_emod t p
  by_cases h : Int.tmod t p < 0
  · rw [if_pos h, wr (by omega) (by omega), ← he]
    congr 1
    have h1 : (Int.tmod t p + p) % p = Int.tmod t p + p := Int.emod_eq_of_lt (by omega) (by omega)
    rw [← h1, Int.add_emod_right]
  · rw [if_neg h, ← he, Int.emod_eq_of_lt (by omega) (by omega)]
theorem emod_in (t p : Int) (hp : 1 ≤ p) : 0 ≤ t % p ∧ t % p < p := ⟨Int.emod_nonneg t (by omega), Int.emod_lt_of_pos t (by omega)⟩
theorem want_eq {p : Int} {l : List S31} {t : Int} (hp1 : 1 ≤ p) (hp2 : p ≤ 1099511627776) : sched_Want.f p l t = some (backS l (t % p)) := by
  unfold sched_Want.f
  rw [at_eq hp1 hp2]
  rfl
theorem backS_nil (a : Int) : backS [] a = 0 := rfl
theorem backS_snoc (l : List S31) (s : S31) (a : Int) : backS (l ++ [s]) a = if s.f0 ≤ a then s.f1 else backS l a := by
  unfold backS
  rw [List.reverse_append]
  by_cases h : s.f0 ≤ a <;> simp [h]
theorem rd_at (l : List S31) (i : Nat) (h : i < l.length) : rd_T31 l (i : Int) = l[i] := by
  simp [rd_T31, h]
theorem take_snoc {α : Type} (l : List α) (i : Nat) (h : i < l.length) : l.take (i + 1) = l.take i ++ [l[i]] := by
  rw [List.take_succ_eq_append_getElem h]
/-- THE REFERENCE's LOOP. -/
theorem ref_loop (l : List S31) (a : Int) (hl : l.length ≤ 8) (d : Nat) : ∀ (k i : Nat), i + d = l.length → d < k → governorref13_Want.l0 k l a (backS (l.take i) a) (i : Int) = some (backS l a) := by
  induction d with
  | zero =>
    intro k i hd hk
    obtain ⟨k, rfl⟩ : ∃ m, k = m + 1 := ⟨k - 1, by omega⟩
    simp only [governorref13_Want.l0]
    rw [if_neg (by omega), List.take_of_length_le (by omega)]
  | succ d ih =>
    intro k i hd hk
    obtain ⟨k, rfl⟩ : ∃ m, k = m + 1 := ⟨k - 1, by omega⟩
    have hi : i < l.length := by omega
    simp only [governorref13_Want.l0]
    rw [if_pos (by omega), if_pos (by omega), wr (by omega) (by omega), rd_at l i hi]
    have h := ih k (i + 1) (by omega) (by omega)
    rw [take_snoc l i hi, backS_snoc] at h
    rw [show ((i + 1 : Nat) : Int) = (i : Int) + 1 by omega] at h
    by_cases hc : l[i].f0 ≤ a
    · rw [if_pos hc] at h ⊢; exact h
    · rw [if_neg hc] at h ⊢; exact h
theorem refWant_eq {p : Int} {l : List S31} {t : Int} {k : Nat} (hl : l.length ≤ 8) (hk : 20 ≤ k) (hp1 : 1 ≤ p) (hp2 : p ≤ 1099511627776) : governorref13_Want.f k p l t = some (backS l (t % p)) := by
  unfold governorref13_Want.f
  rw [refAt_eq hp1 hp2]
  have h := ref_loop l (t % p) hl l.length k 0 (by omega) (by omega)
  rw [List.take_zero, backS_nil] at h
  exact h
/-- WHAT THE GUARD SAYS. -/
structure RightP (p : Int) (l : List S31) : Prop where
  p1 : 1 ≤ p
  p2 : p ≤ 1099511627776
  n1 : 1 ≤ l.length
  n8 : l.length ≤ 8
  z : (rd_T31 l 0).f0 = 0
  lo : ∀ i : Int, 0 ≤ i → i < (l.length : Int) → 0 ≤ (rd_T31 l i).f0 ∧ (rd_T31 l i).f0 ≤ p - 1
  up : ∀ i : Int, 0 < i → i < (l.length : Int) → (rd_T31 l (i - 1)).f0 < (rd_T31 l i).f0
  nn : ∀ i : Int, 0 ≤ i → i < (l.length : Int) → 0 ≤ (rd_T31 l i).f1 ∧ (rd_T31 l i).f1 ≤ 1000
theorem within_eq (a b c : Int) : governorref09_within.f a b c = some (decide (b ≤ a) && decide (a ≤ c)) := by
  unfold governorref09_within.f
  by_cases h : b ≤ a <;> simp [h]
theorem slots_loop (l : List S31) (p : Int) (hp1 : 1 ≤ p) (hp2 : p ≤ 1099511627776) (hl : l.length ≤ 8) (d : Nat) : ∀ (k : Nat) (i : Int), 0 ≤ i → i + (d : Int) = (l.length : Int) → d < k →
    ∃ b, governorref09_slots.l0 k l p i = some b ∧ (b = true → ∀ j : Int, i ≤ j → j < (l.length : Int) → (0 ≤ (rd_T31 l j).f0 ∧ (rd_T31 l j).f0 ≤ p - 1) ∧ (0 < j → (rd_T31 l (j - 1)).f0 < (rd_T31 l j).f0) ∧ 0 ≤ (rd_T31 l j).f1 ∧ (rd_T31 l j).f1 ≤ 1000) := by
  induction d with
  | zero =>
    intro k i h0 hd hk
    obtain ⟨k, rfl⟩ : ∃ m, k = m + 1 := ⟨k - 1, by omega⟩
    simp only [governorref09_slots.l0]
    rw [if_neg (by omega)]
    exact ⟨true, rfl, fun _ j h1 h2 => by omega⟩
  | succ d ih =>
    intro k i h0 hd hk
    obtain ⟨k, rfl⟩ : ∃ m, k = m + 1 := ⟨k - 1, by omega⟩
    simp only [governorref09_slots.l0, within_eq, Option.bind_some]
    rw [if_pos (by omega), if_pos h0, wr (n := p - 1) (by omega) (by omega), wr (n := i + 1) (by omega) (by omega), wr (n := i - 1) (by omega) (by omega)]
    obtain ⟨b, hb, hP⟩ := ih k (i + 1) (by omega) (by omega) (by omega)
    by_cases c1 : (decide (0 ≤ (rd_T31 l i).f0) && decide ((rd_T31 l i).f0 ≤ p - 1)) = true
    · rw [if_pos c1]
      by_cases c2 : (decide (0 ≤ (rd_T31 l i).f1) && decide ((rd_T31 l i).f1 ≤ 1000)) = true
      · by_cases c3 : i > 0
        · rw [if_pos c3, if_pos (by omega), if_pos (by omega)]
          by_cases c4 : (rd_T31 l i).f0 ≤ (rd_T31 l (i - 1)).f0
          · rw [if_pos c4]; exact ⟨false, rfl, fun h => by cases h⟩
          · rw [if_neg c4, if_pos c2]
            refine ⟨b, hb, fun h j h1 h2 => ?_⟩
            by_cases e : j = i
            · subst e
              simp at c1 c2
              exact ⟨c1, fun _ => by omega, c2⟩
            · exact hP h j (by omega) h2
        · rw [if_neg c3, if_pos c2]
          refine ⟨b, hb, fun h j h1 h2 => ?_⟩
          by_cases e : j = i
          · subst e
            simp at c1 c2
            exact ⟨c1, fun _ => by omega, c2⟩
          · exact hP h j (by omega) h2
      · by_cases c3 : i > 0
        · rw [if_pos c3, if_pos (by omega), if_pos (by omega)]
          by_cases c4 : (rd_T31 l i).f0 ≤ (rd_T31 l (i - 1)).f0
          · rw [if_pos c4]; exact ⟨false, rfl, fun h => by cases h⟩
          · rw [if_neg c4, if_neg c2]; exact ⟨false, rfl, fun h => by cases h⟩
        · rw [if_neg c3, if_neg c2]; exact ⟨false, rfl, fun h => by cases h⟩
    · rw [if_neg c1]; exact ⟨false, rfl, fun h => by cases h⟩
theorem slots_tells (l : List S31) (p : Int) (k : Nat) (hk : 20 ≤ k) (hl : l.length ≤ 8) : ∃ b, governorref09_slots.f k l p = some b ∧ (b = true → RightP p l) := by
  obtain ⟨k, rfl⟩ : ∃ m, k = m + 1 := ⟨k - 1, by omega⟩
  unfold governorref09_slots.f
  simp only [governorref09_slots.j0, within_eq, Option.bind_some]
  by_cases c1 : (l.length : Int) < 1
  · rw [if_pos c1]; exact ⟨false, by simp, fun h => by cases h⟩
  · rw [if_neg c1, if_neg (by omega), if_pos (by omega)]
    by_cases c2 : (rd_T31 l 0).f0 = 0
    · rw [if_pos c2]
      by_cases c3 : 1 ≤ p ∧ p ≤ 1099511627776
      · obtain ⟨b, hb, hP⟩ := slots_loop l p c3.1 c3.2 hl l.length k 0 (by omega) (by omega) (by omega)
        refine ⟨b, by simp [c3.1, c3.2, hb], fun h => ⟨c3.1, c3.2, by omega, hl, c2, fun i h0 h1 => (hP h i h0 h1).1, fun i h0 h1 => (hP h i (by omega) h1).2.1 h0, fun i h0 h1 => (hP h i h0 h1).2.2⟩⟩
      · refine ⟨false, ?_, fun h => by cases h⟩
        have : (decide (1 ≤ p) && decide (p ≤ 1099511627776)) = false := by
          rw [Bool.eq_false_iff]; intro h; simp at h; exact c3 h
        simp [this]
    · rw [if_neg c2]; exact ⟨false, by simp, fun h => by cases h⟩
theorem right_tells (l : List S31) (p : Int) (k : Nat) (hk : 20 ≤ k) : ∃ b, governorlaw13_Right.f k p l = some b ∧ (b = true → RightP p l) := by
  unfold governorlaw13_Right.f
  by_cases c1 : (l.length : Int) ≤ 8
  · rw [if_pos c1]
    obtain ⟨b, hb, hP⟩ := slots_tells l p k hk (by omega)
    unfold governorref09_Policy.f
    rw [if_neg (by omega), if_neg (by omega), if_neg (by omega), if_pos rfl, hb]
    cases b
    · exact ⟨false, by simp, fun h => by cases h⟩
    · exact ⟨true, by simp [governorref09_none.f], hP⟩
  · rw [if_neg c1]; exact ⟨false, rfl, fun h => by cases h⟩
theorem schedHead : governorlaw13_head.f = some true := by decide +kernel
end Go.Proofs.Ytnipomnkjegebaa.PAll
