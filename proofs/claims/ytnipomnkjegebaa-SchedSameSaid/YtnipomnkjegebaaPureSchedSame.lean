/- The law SchedSame (P13.1): what is wanted is one of the slots' numbers; with a slot for each time, the time's: for every period and row of slots that may be, every time, and every row of numbers. -/
import Derived.Test.YtnipomnkjegebaaCSched
import Derived.Test.YtnipomnkjegebaaPAllx0
import Derived.Test.YtnipomnkjegebaaPAllx10
import Derived.Test.YtnipomnkjegebaaPAllx3
import Derived.Test.YtnipomnkjegebaaWkSchedSame
namespace Go.Proofs.Ytnipomnkjegebaa.Pure
open Go.RowKit Go.Proofs.Ytnipomnkjegebaa.PAll Go.Proofs.YtnipomnkjegebaaW.PrintWords Go.Proofs.YtnipomnkjegebaaW.PrintLast Go.Proofs.YtnipomnkjegebaaW.PrintMore
set_option linter.unusedVariables false
set_option linter.unusedSimpArgs false
theorem back_one (l : List S31) (a : Int) (ha : 0 ≤ a) (n : Nat) : ∀ (h1 : 0 < l.length) (hz : l[0].f0 = 0) (hn : n + 1 ≤ l.length), ∃ i : Nat, i ≤ n ∧ ∃ h : i < l.length, backS (l.take (n + 1)) a = l[i].f1 := by
  induction n with
  | zero =>
    intro h1 hz hn
    refine ⟨0, Nat.le_refl _, h1, ?_⟩
    rw [take_snoc l 0 h1, backS_snoc, if_pos (by omega)]
  | succ n ih =>
    intro h1 hz hn
    rw [take_snoc l (n + 1) (by omega), backS_snoc]
    by_cases c : l[n + 1].f0 ≤ a
    · rw [if_pos c]; exact ⟨n + 1, Nat.le_refl _, by omega, rfl⟩
    · rw [if_neg c]
      obtain ⟨i, hi, h, e⟩ := ih h1 hz (by omega)
      exact ⟨i, by omega, h, e⟩
theorem same_l0 (l : List S31) (t : Int) (ns : List Int) (n : Int) (hl : l.length ≤ 8) (k : Nat) (d : Nat) : ∀ (i : Nat) (b : Bool), i + d = l.length → (b = true ∨ ∃ j : Nat, i ≤ j ∧ ∃ h : j < l.length, n = l[j].f1) →
    governorlaw13_SchedSame.l0 (k + d + 1) l t ns true n b (i : Int) = governorlaw13_SchedSame.l1 k t ns true true [] 0 := by
  induction d with
  | zero =>
    intro i b hd hb
    have hb' : b = true := by
      rcases hb with hb | ⟨j, h1, h2, _⟩
      · exact hb
      · omega
    subst hb'
    rw [show k + 0 + 1 = k + 1 from rfl]
    simp only [governorlaw13_SchedSame.l0]
    rw [if_neg (by omega)]
  | succ d ih =>
    intro i b hd hb
    rw [show k + (d + 1) + 1 = (k + d + 1) + 1 by omega]
    have hi : i < l.length := by omega
    simp only [governorlaw13_SchedSame.l0]
    rw [if_pos (by omega), wr (by omega) (by omega), rd_at l i hi, show (i : Int) + 1 = ((i + 1 : Nat) : Int) by omega]
    by_cases c : b = true
    · rw [if_pos c]; exact ih (i + 1) true (by omega) (.inl rfl)
    · rw [if_neg c, if_pos (by omega)]
      refine ih (i + 1) _ (by omega) ?_
      rcases hb with hb | ⟨j, h1, h2, h3⟩
      · exact absurd hb c
      · by_cases e : j = i
        · subst e; left; simp [h3]
        · right; exact ⟨j, by omega, h2, h3⟩
def allF (ns : List Int) (m : Nat) : List S31 := (List.range m).map (fun i : Nat => (⟨(i : Int), wrap64 (rd ns (i : Int))⟩ : S31))
theorem allF_succ (ns : List Int) (m : Nat) : allF ns (m + 1) = allF ns m ++ [(⟨(m : Int), wrap64 (rd ns (m : Int))⟩ : S31)] := by simp [allF, List.range_succ]
theorem allF_length (ns : List Int) (m : Nat) : (allF ns m).length = m := by simp [allF]
theorem back_all (ns : List Int) (a : Int) (ha : 0 ≤ a) (m : Nat) (h : a < (m : Int)) : backS (allF ns m) a = wrap64 (rd ns a) := by
  induction m with
  | zero => omega
  | succ m ih =>
    rw [allF_succ, backS_snoc]
    by_cases c : (m : Int) ≤ a
    · rw [if_pos c, show (m : Int) = a by omega]
    · rw [if_neg c]; exact ih (by omega)
theorem same_l1 (t : Int) (ns : List Int) (k M : Nat) (hM : M = min ns.length 8) (d : Nat) : ∀ (i : Nat), i + d = M → governorlaw13_SchedSame.l1 (k + d + 1) t ns true true (allF ns i) (i : Int) = governorlaw13_SchedSame.j2 k t ns true true (allF ns M) := by
  induction d with
  | zero =>
    intro i hd
    obtain rfl : i = M := by omega
    rw [show k + 0 + 1 = k + 1 from rfl]
    simp only [governorlaw13_SchedSame.l1]
    by_cases c : (i : Int) < (ns.length : Int)
    · rw [if_pos c, if_neg (by omega)]
    · rw [if_neg c]
  | succ d ih =>
    intro i hd
    rw [show k + (d + 1) + 1 = (k + d + 1) + 1 by omega]
    simp only [governorlaw13_SchedSame.l1]
    rw [if_pos (by omega), if_pos (by omega), if_pos (by omega), if_pos (by rw [allF_length]; omega), wr (n := (i : Int) + 1) (by omega) (by omega), ← allF_succ, show (i : Int) + 1 = ((i + 1 : Nat) : Int) by omega]
    exact ih (i + 1) (by omega)
theorem SchedSame : governorlaw13_SchedSame.Pure := by
  intro p l t ns hp hl hs ht hn hns
  refine ⟨60, ?_⟩
  unfold governorlaw13_SchedSame.f
  obtain ⟨b, hb, hP⟩ := right_tells l p 60 (by omega)
  rw [schedHead, hb]
  simp only [Option.bind_some]
  cases b with
  | false => rfl
  | true =>
    have R := hP rfl
    have p1 := R.p1
    have p2 := R.p2
    have n1 := R.n1
    have n8 := R.n8
    have hin := emod_in t p p1
    have h0 := R.z
    rw [show (0 : Int) = ((0 : Nat) : Int) from rfl, rd_at l 0 (by omega)] at h0
    simp only [want_eq p1 p2, Option.bind_some, reduceIte]
    obtain ⟨i, hi, h, e⟩ := back_one l (t % p) hin.1 (l.length - 1) (by omega) h0 (by omega)
    rw [show l.length - 1 + 1 = l.length by omega, List.take_length] at e
    have hM8 : min ns.length 8 ≤ 8 := Nat.min_le_right _ _
    have s1 := same_l0 l t ns (backS l (t % p)) n8 (60 - l.length - 1) l.length 0 false (by omega) (.inr ⟨i, by omega, h, e⟩)
    rw [show 60 - l.length - 1 + l.length + 1 = 60 by omega] at s1
    rw [show (0 : Int) = ((0 : Nat) : Int) from rfl, s1]
    have s2 := same_l1 t ns (60 - l.length - 1 - min ns.length 8 - 1) (min ns.length 8) rfl (min ns.length 8) 0 (by omega)
    rw [show 60 - l.length - 1 - min ns.length 8 - 1 + min ns.length 8 + 1 = 60 - l.length - 1 by omega] at s2
    rw [show ([] : List S31) = allF ns 0 from rfl]
    refine s2.trans ?_
    obtain ⟨q, hq⟩ : ∃ q, 60 - l.length - 1 - min ns.length 8 - 1 = q + 1 := ⟨60 - l.length - 1 - min ns.length 8 - 1 - 1, by omega⟩
    rw [hq]
    simp only [governorlaw13_SchedSame.j2, allF_length]
    by_cases c : ((min ns.length 8 : Nat) : Int) = 0
    · rw [if_pos c]; rfl
    · rw [if_neg c]
      have m1 : (1 : Int) ≤ ((min ns.length 8 : Nat) : Int) := by omega
      have m2 : ((min ns.length 8 : Nat) : Int) ≤ 1099511627776 := by omega
      have hin2 := emod_in t ((min ns.length 8 : Nat) : Int) m1
      simp only [at_eq m1 m2, want_eq m1 m2, Option.bind_some, reduceIte]
      have hml : ((min ns.length 8 : Nat) : Int) ≤ (ns.length : Int) := by have := Nat.min_le_left ns.length 8; omega
      rw [if_pos hin2.1, if_pos hin2.2, if_pos hin2.1, if_pos (by omega), back_all ns _ hin2.1 _ hin2.2]
      simp
end Go.Proofs.Ytnipomnkjegebaa.Pure
