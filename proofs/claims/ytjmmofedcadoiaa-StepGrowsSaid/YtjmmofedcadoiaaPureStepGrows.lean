/- The law StepGrows (P11.3): where deltas rise, too, more load wants no fewer; more replicas never want fewer: for every row of bands that may be, number of replicas, load and 16 bit number. -/
import Derived.Test.YtjmmofedcadoiaaCBase
import Derived.Test.YtjmmofedcadoiaaCStep
import Derived.Test.YtjmmofedcadoiaaPAllx0
import Derived.Test.YtjmmofedcadoiaaPAllx15
import Derived.Test.YtjmmofedcadoiaaPAllx2
import Derived.Test.YtjmmofedcadoiaaPAllx3
import Derived.Test.YtjmmofedcadoiaaPAllx4
import Derived.Test.YtjmmofedcadoiaaWkStepGrows
namespace Go.Proofs.Ytjmmofedcadoiaa.Pure
open Go.RowKit Go.Proofs.Ytjmmofedcadoiaa.PAll Go.Proofs.YtjmmofedcadoiaaW.PrintWords Go.Proofs.YtjmmofedcadoiaaW.PrintLast Go.Proofs.YtjmmofedcadoiaaW.PrintMore
set_option linter.unusedVariables false
set_option linter.unusedSimpArgs false
def RiseP (l : List S29) (n : Int) : Prop := ∀ i : Int, 0 ≤ i → i < n → (i = 0 → 0 ≤ (rd_T29 l i).f1) ∧ (0 < i → (rd_T29 l (i - 1)).f1 ≤ (rd_T29 l i).f1)
theorem rise_le {l : List S29} (h : RiseP l (l.length : Int)) (d : Nat) : ∀ i : Int, 0 ≤ i → i + (d : Int) < (l.length : Int) → (rd_T29 l i).f1 ≤ (rd_T29 l (i + d)).f1 := by
  induction d with
  | zero => intro i h0 h1; rw [show i + ((0 : Nat) : Int) = i by omega]; exact Int.le_refl _
  | succ d ih =>
    intro i h0 h1
    have a := ih i h0 (by omega)
    have b := (h (i + ((d + 1 : Nat) : Int)) (by omega) h1).2 (by omega)
    rw [show i + ((d + 1 : Nat) : Int) - 1 = i + (d : Int) by omega] at b
    omega
theorem rise_zero {l : List S29} (h : RiseP l (l.length : Int)) (i : Int) (h0 : 0 ≤ i) (h1 : i < (l.length : Int)) : 0 ≤ (rd_T29 l i).f1 := by
  have a := (h 0 (Int.le_refl _) (by omega)).1 rfl
  have b := rise_le h i.toNat 0 (Int.le_refl _) (by omega)
  rw [show (0 : Int) + (i.toNat : Int) = i by omega] at b
  omega
theorem grows_end {l : List S29} (R : BandsP l) (c u m : Int) (m0 : 0 ≤ m) (m1 : m ≤ 65535) (c0 : -32768 ≤ c) (c1 : c ≤ 32767) (u0 : -9223372036854775808 ≤ u) (u1 : u ≤ 1125899906842624) (b : Bool) (hb : b = true → RiseP l (l.length : Int)) :
    ((step_Want.f l (wrap64 c) u).bind fun t176 => (if true = true then (if b = true then ((step_Want.f l (wrap64 c) (wrap64 (u + (wrap64 m)))).bind fun t177 => (if t177 ≥ t176 then ((step_Want.f l (wrap64 ((wrap64 c) + (wrap64 m))) u).bind fun t178 => (some (decide (t178 ≥ t176)))) else (some false))) else ((step_Want.f l (wrap64 ((wrap64 c) + (wrap64 m))) u).bind fun t179 => (some (decide (t179 ≥ t176))))) else (some false))) = some true := by
  have S := bands_sorted R
  rw [wr (n := c) (by omega) (by omega), wr (n := m) (by omega) (by omega), wr (n := u + m) (by omega) (by omega), wr (n := c + m) (by omega) (by omega)]
  simp only [stepWant_eq S, Option.bind_some, reduceIte]
  have k0 := cl0_in c
  have k1 := cl0_in (c + m)
  have kk := cl0_mono (show c ≤ c + m by omega)
  have hi := findS_in l u
  have hj := findS_in l (u + m)
  -- more replicas
  have more : (if findS l u ≥ 0 then cl0 (wrap64 (cl0 (c + m) + (rd_T29 l (findS l u)).f1)) else cl0 (c + m)) ≥ (if findS l u ≥ 0 then cl0 (wrap64 (cl0 c + (rd_T29 l (findS l u)).f1)) else cl0 c) := by
    by_cases q : findS l u ≥ 0
    · rw [if_pos q, if_pos q]
      have d := R.dd (findS l u) q hi.2
      rw [wr (by omega) (by omega), wr (by omega) (by omega)]
      exact cl0_mono (by omega)
    · rw [if_neg q, if_neg q]; exact kk
  by_cases hb2 : b = true
  · rw [if_pos hb2]
    have P := hb hb2
    have load : (if findS l (u + m) ≥ 0 then cl0 (wrap64 (cl0 c + (rd_T29 l (findS l (u + m))).f1)) else cl0 c) ≥ (if findS l u ≥ 0 then cl0 (wrap64 (cl0 c + (rd_T29 l (findS l u)).f1)) else cl0 c) := by
      by_cases q : findS l u ≥ 0
      · have hle : findS l u ≤ findS l (u + m) := (find_iff S (u + m) (findS l u) q hi.2).1 (by have := (find_iff S u (findS l u) q hi.2).2 (Int.le_refl _); omega)
        rw [if_pos q, if_pos (by omega)]
        have d := R.dd (findS l u) q hi.2
        have d2 := R.dd (findS l (u + m)) (by omega) hj.2
        have r := rise_le P (findS l (u + m) - findS l u).toNat (findS l u) q (by omega)
        rw [show findS l u + ((findS l (u + m) - findS l u).toNat : Int) = findS l (u + m) by omega] at r
        rw [wr (by omega) (by omega), wr (by omega) (by omega)]
        exact cl0_mono (by omega)
      · rw [if_neg q]
        by_cases q2 : findS l (u + m) ≥ 0
        · rw [if_pos q2]
          have d2 := R.dd (findS l (u + m)) q2 hj.2
          have z := rise_zero P (findS l (u + m)) q2 hj.2
          rw [wr (by omega) (by omega)]
          have e := cl0_same k0.1 k0.2
          have := cl0_mono (show cl0 c ≤ cl0 c + (rd_T29 l (findS l (u + m))).f1 by omega)
          omega
        · rw [if_neg q2]; exact Int.le_refl _
    rw [if_pos load, decide_eq_true more]
  · rw [if_neg hb2, decide_eq_true more]
theorem grows_loop {l : List S29} (R : BandsP l) (c u m : Int) (m0 : 0 ≤ m) (m1 : m ≤ 65535) (c0 : -32768 ≤ c) (c1 : c ≤ 32767) (u0 : -9223372036854775808 ≤ u) (u1 : u ≤ 1125899906842624) (d : Nat) : ∀ (k : Nat) (i : Int) (b : Bool), 0 ≤ i → i + (d : Int) = (l.length : Int) → d < k → (b = true → RiseP l i) →
    governorlaw11_StepGrows.l0 k l c u m true b i = some true := by
  have n8 := R.n8
  induction d with
  | zero =>
    intro k i b h0 hd hk hb
    obtain ⟨k, rfl⟩ : ∃ n, k = n + 1 := ⟨k - 1, by omega⟩
    simp only [governorlaw11_StepGrows.l0]
    rw [if_neg (by omega)]
    obtain rfl : i = (l.length : Int) := by omega
    exact grows_end R c u m m0 m1 c0 c1 u0 u1 b hb
  | succ d ih =>
    intro k i b h0 hd hk hb
    obtain ⟨k, rfl⟩ : ∃ n, k = n + 1 := ⟨k - 1, by omega⟩
    simp only [governorlaw11_StepGrows.l0]
    rw [if_pos (by omega), wr (n := i + 1) (by omega) (by omega), wr (n := i - 1) (by omega) (by omega)]
    have no := ih k (i + 1) false (by omega) (by omega) (by omega) (fun h => by cases h)
    have ext : b = true → ((i = 0 → 0 ≤ (rd_T29 l i).f1) ∧ (0 < i → (rd_T29 l (i - 1)).f1 ≤ (rd_T29 l i).f1)) → RiseP l (i + 1) := by
      intro h1 h2 j j0 j1
      by_cases e : j = i
      · subst e; exact h2
      · exact hb h1 j j0 (by omega)
    by_cases hb2 : b = true
    · rw [if_pos hb2]
      by_cases q : i = 0
      · rw [if_pos q, if_pos h0]
        by_cases q2 : (rd_T29 l i).f1 ≥ 0
        · rw [if_pos q2]
          exact ih k (i + 1) true (by omega) (by omega) (by omega) (fun _ => ext hb2 ⟨fun _ => q2, fun h => by omega⟩)
        · rw [if_neg q2, if_neg (by omega)]; exact no
      · rw [if_neg q, if_pos (by omega), if_pos h0, if_pos (by omega), if_pos (by omega)]
        exact ih k (i + 1) _ (by omega) (by omega) (by omega) (fun h => ext hb2 ⟨fun h => absurd h q, fun _ => of_decide_eq_true h⟩)
    · rw [if_neg hb2]; exact no
theorem StepGrows : governorlaw11_StepGrows.Pure := by
  intro l c u m hl hs hc hu hm
  refine ⟨31, ?_⟩
  unfold governorlaw11_StepGrows.f
  obtain ⟨b, hb, hP⟩ := stepRight_tells l 31 (by omega)
  rw [stepHead, hb]
  simp only [Option.bind_some]
  cases b with
  | false => rfl
  | true =>
    have R := hP rfl
    have n8 := R.n8
    have c16 := wf16 hc
    have u64 := wf64 hu
    have m16 := wfu16 hm
    simp only [reduceIte, governorlaw11_StepGrows.j0]
    by_cases q : u > 1125899906842624
    · rw [if_pos (decide_eq_true q)]
    · rw [if_neg (by simpa using q)]
      exact grows_loop R c u m m16.1 m16.2 c16.1 c16.2 u64.1 (by omega) l.length 30 0 true (Int.le_refl _) (by omega) (by omega) (fun _ i h0 h1 => by omega)
end Go.Proofs.Ytjmmofedcadoiaa.Pure
