/- The law PlantLess: those that go are those that would be ready last: of what is left as many are ready, or as many begin as ahead. -/
import Derived.Test.YtgeldfjpafimpaaCBase
import Derived.Test.YtgeldfjpafimpaaCPlHead
import Derived.Test.YtgeldfjpafimpaaCPlant
import Derived.Test.YtgeldfjpafimpaaCPlant2
import Derived.Test.YtgeldfjpafimpaaCPlant4
import Derived.Test.YtgeldfjpafimpaaPAllx0
import Derived.Test.YtgeldfjpafimpaaPAllx11
import Derived.Test.YtgeldfjpafimpaaPAllx15
import Derived.Test.YtgeldfjpafimpaaPAllx17
import Derived.Test.YtgeldfjpafimpaaPAllx25
import Derived.Test.YtgeldfjpafimpaaPAllx6
import Derived.Test.YtgeldfjpafimpaaWkPlantLess
namespace Go.Proofs.Ytgeldfjpafimpaa.Pure
open Go.RowKit Go.Proofs.Ytgeldfjpafimpaa.PAll Go.Proofs.YtgeldfjpafimpaaW.PrintWords Go.Proofs.YtgeldfjpafimpaaW.PrintLast Go.Proofs.YtgeldfjpafimpaaW.PrintMore
set_option linter.unusedVariables false
set_option linter.unusedSimpArgs false
structure LsP (R1 : Int) (b : List Int) (s : Int × List Int) : Prop where
  r : s.1 ≤ R1
  e : s.1 < R1 → trimL s.2 = []
  len : s.2.length = b.length
  le : ∀ i : Nat, i < b.length → rd s.2 (i : Int) ≤ rd b (i : Int)
  last : ∀ i j : Nat, i < j → j < b.length → rd s.2 (i : Int) < rd b (i : Int) → rd s.2 (j : Int) = 0
theorem trim_nil {l : List Int} (h : ∀ i : Nat, i < l.length → rd l (i : Int) = 0) : trimL l = [] := by
  refine List.eq_nil_of_length_eq_zero ?_
  rcases Nat.eq_zero_or_pos (trimL l).length with h0 | h0
  · exact h0
  · have h1 := trimL_last _ l rfl ((trimL l).length - 1) (by omega)
    have h2 := trimL_length l
    exact absurd (h _ (by omega)) h1
theorem stS_same {R wt ut delay cap slack : Int} {l : List Int} (P : PR R l wt ut) (C : CfP delay cap slack) : stS R l delay (R + l.sum) = (readyL R l, l.drop 1) := by
  have h0 := P.r0
  have h1 := P.all
  have h2 := sum_nonneg P.sm
  have hn : nW (R + l.sum) = R + l.sum := by unfold nW mx mn; omega
  unfold stS sizedL
  rw [hn, if_neg (by omega), if_neg (by omega)]
theorem less_spec {R wt ut delay cap slack kk : Int} {l : List Int} (P : PR R l wt ut) (C : CfP delay cap slack) (h0 : 0 ≤ kk) (h1 : kk ≤ R + l.sum) : LsP (readyL R l) (l.drop 1) (stS R l delay kk) := by
  obtain ⟨a1, a2, a3, a4, _⟩ := tick_spec P
  have hall := P.all
  have hn : nW kk = kk := by unfold nW mx mn; omega
  unfold stS sizedL
  rw [hn, if_neg (by omega)]
  have hsn := sum_nonneg a2
  by_cases c : kk - (R + l.sum) < 0
  · rw [if_pos c, wr (n := -(kk - (R + l.sum))) (by omega) (by omega)]
    have Q := shr_spec a2 (many := -(kk - (R + l.sum))) (by omega) (by omega) (l.drop 1).length (Nat.le_refl _)
    generalize shr (l.drop 1) (-(kk - (R + l.sum))) (l.drop 1).length = s at Q ⊢
    have m0 := Q.m0
    have m1 := Q.m1
    rw [wr (by omega) (by omega)]
    refine ⟨by show readyL R l - s.2 ≤ _; omega, fun h => ?_, Q.len, Q.le, Q.last⟩
    have h' : readyL R l - s.2 < readyL R l := h
    exact trim_nil (fun i hi => Q.zero (by omega) i (by omega) (by rw [← Q.len]; exact hi))
  · rw [if_neg c]
    exact ⟨Int.le_refl _, fun h => absurd h (Int.lt_irrefl _), rfl, fun _ _ => Int.le_refl _, fun _ _ _ _ h => absurd h (Int.lt_irrefl _)⟩
theorem trim_le {a b : List Int} (hs : Small a) (hlen : a.length = b.length) (hle : ∀ i : Nat, i < b.length → rd a (i : Int) ≤ rd b (i : Int)) (hlast : ∀ i j : Nat, i < j → j < b.length → rd a (i : Int) < rd b (i : Int) → rd a (j : Int) = 0) :
    (trimL a).length ≤ (trimL b).length ∧ (∀ i : Nat, i < (trimL a).length → rd (trimL a) (i : Int) ≤ rd (trimL b) (i : Int)) ∧ (∀ i : Nat, i < (trimL a).length → rd (trimL a) (i : Int) < rd (trimL b) (i : Int) → i + 1 = (trimL a).length) := by
  have ha := trimL_length a
  have h1 : (trimL a).length ≤ (trimL b).length := by
    rcases Nat.eq_zero_or_pos (trimL a).length with h0 | h0
    · omega
    · refine Nat.le_of_not_lt (fun hlt => ?_)
      have h2 := trimL_last _ a rfl ((trimL a).length - 1) (by omega)
      have h3 := small_rd hs (i := (((trimL a).length - 1 : Nat) : Int)) (by omega) (by omega)
      have h4 := hle ((trimL a).length - 1) (by omega)
      have h5 := trimL_rest b (i := (trimL a).length - 1) (by omega) (by omega)
      omega
  refine ⟨h1, fun i hi => ?_, fun i hi hlt => ?_⟩
  · rw [trimL_rd a hi, trimL_rd b (by omega)]
    exact hle i (by omega)
  · rw [trimL_rd a hi, trimL_rd b (by omega)] at hlt
    refine Nat.le_antisymm hi (Nat.le_of_not_lt (fun hn => ?_))
    have h2 := trimL_last _ a rfl ((trimL a).length - 1) (by omega)
    exact h2 (hlast i ((trimL a).length - 1) (by omega) (by omega) hlt)
theorem less_loop (n kk R1 R2 w1 u1 w2 u2 : Int) (y x : List Int) (hxy : x.length ≤ y.length) (hy : y.length ≤ 8) (hle : ∀ i : Nat, i < x.length → rd x (i : Int) ≤ rd y (i : Int)) (hl : ∀ i : Nat, i < x.length → rd x (i : Int) < rd y (i : Int) → i + 1 = x.length)
    (h1 : allL R1 y = n) (h2 : allL R2 x = kk) : ∀ (d j k : Nat), x.length = j + d → d + 12 ≤ k → governorlaw16_PlantLess.l0 k true n kk (j : Int) R1 y w1 u1 R2 x w2 u2 = some true := by
  intro d
  induction d with
  | zero =>
    intro j k h hk
    obtain ⟨k, rfl⟩ : ∃ q, k = q + 1 := ⟨k - 1, by omega⟩
    rw [governorlaw16_PlantLess.l0, if_neg (by omega), if_pos rfl, all_eq R1 y w1 u1 (by omega) k (by omega), h1]
    simp only [Option.bind_some, reduceIte]
    rw [all_eq R2 x w2 u2 (by omega) k (by omega), h2]
    simp
  | succ d ih =>
    intro j k h hk
    obtain ⟨k, rfl⟩ : ∃ q, k = q + 1 := ⟨k - 1, by omega⟩
    have e : wrap64 ((j : Int) + 1) = ((j + 1 : Nat) : Int) := wr (by omega) (by omega)
    have hle1 := hle j (by omega)
    rw [governorlaw16_PlantLess.l0, if_pos (by omega), if_pos (by omega), if_pos (by omega), if_neg (by omega), e]
    by_cases c : rd x (j : Int) < rd y (j : Int)
    · have := hl j (by omega) c
      rw [if_pos c, if_neg (by omega)]
      exact ih (j + 1) k (by omega) (by omega)
    · rw [if_neg c]
      exact ih (j + 1) k (by omega) (by omega)
theorem PlantLess : governorlaw16_PlantLess.Pure := by
  intro a0 a1 a2 a3 a4 a5 a6 a7 a8 a9 a10 a11 R l wt ut few
  intro _ _ _ _ _ _ _ _ _ _ _ _ _ _ _ _ _ hfew
  refine ⟨59 + 1, ?_⟩
  unfold governorlaw16_PlantLess.f
  rw [show governorlaw16_head.f (59 + 1) = some true from plantHeadk 20, show governorref09_Conf.f a0 a1 a2 a3 a4 a5 a6 a7 a8 a9 a10 a11 = some (cfSize a0 a1 a2 && (cfPlant a3 a4 a5 a6 && cfJudge a7 a8 a9 a10 a11)) from rfl]
  simp only [Option.bind_some]
  by_cases hC : (cfSize a0 a1 a2 && (cfPlant a3 a4 a5 a6 && cfJudge a7 a8 a9 a10 a11)) = true
  · rw [if_pos hC]
    have C := conf_pl hC
    by_cases hl : (l.length : Int) > 8
    · rw [if_pos hl, governorlaw16_PlantLess.j0, if_pos rfl]
    · rw [if_neg hl]
      obtain ⟨b, hb, hP⟩ := right_tells R l wt ut (by omega) (59 + 1) (by omega)
      rw [hb]
      simp only [Option.bind_some]
      cases b with
      | false => rw [governorlaw16_PlantLess.j0]; rfl
      | true =>
        have P := hP.1 rfl
        have hlen := P.len
        have hf := wfu8 hfew
        have hr0 := P.r0
        have hall := P.all
        have hsn := sum_nonneg P.sm
        have eA : allL R l = R + l.sum := allL_eq P.sm P.r0 (by omega) (by omega)
        rw [governorlaw16_PlantLess.j0, if_neg (by simp), all_eq R l wt ut (by omega) 59 (by omega), eA]
        simp only [Option.bind_some]
        rw [wr (n := few) (by omega) (by omega), wr (n := R + l.sum - few) (by omega) (by omega)]
        obtain ⟨kk, hkk⟩ : ∃ kk, mx (R + l.sum - few) 0 = kk := ⟨_, rfl⟩
        have hk : 0 ≤ kk ∧ kk ≤ R + l.sum := by rw [← hkk]; unfold mx; split <;> omega
        rw [hkk, step_eq P C (R + l.sum) 0]
        simp only [Option.bind_some]
        rw [step_eq P C kk 0]
        simp only [Option.bind_some]
        have S1 := stS_spec P C (R + l.sum)
        have S2 := stS_spec P C kk
        have hn1 : nW (R + l.sum) = R + l.sum := by unfold nW mx mn; omega
        have hn2 : nW kk = kk := by unfold nW mx mn; omega
        rw [hn1] at S1
        rw [hn2] at S2
        have L := less_spec P C hk.1 hk.2
        have e0 := stS_same P C
        rw [e0] at S1 ⊢
        generalize hs2 : stS R l a5 kk = s2 at S2 L ⊢
        generalize readyL R l = R1 at L S1 ⊢
        generalize l.drop 1 = b at L S1 ⊢
        simp only
        have X := trim_le (a := s2.2) (b := b) S2.sm L.len L.le L.last
        have hlb : (trimL b).length ≤ 8 := Nat.le_trans (trimL_length b) S1.len
        have hl1 : allL R1 (trimL b) = R + l.sum := by
          have sb : Small b := S1.sm
          have r0 : 0 ≤ R1 := S1.r0
          have r1 : R1 ≤ 1000 := S1.r1
          rw [allL_eq (trimL_small sb) r0 (by omega) (by omega), trimL_sum]
          exact S1.all
        have hl2 : allL s2.1 (trimL s2.2) = kk := by
          rw [allL_eq (trimL_small S2.sm) S2.r0 (by have := S2.r1; omega) (by have := X.1; omega), trimL_sum]
          exact S2.all
        have hr := L.r
        rw [if_neg (by omega)]
        have fin : ∀ w1 u1 w2 u2, governorlaw16_PlantLess.j1 59 true (R + l.sum) kk (decide (((trimL s2.2).length : Int) > ((trimL b).length : Int))) R1 (trimL b) w1 u1 s2.1 (trimL s2.2) w2 u2 = some true := fun w1 u1 w2 u2 => by
          have hx := X.1
          rw [governorlaw16_PlantLess.j1, decide_eq_false (by omega), if_neg (by simp)]
          exact less_loop (R + l.sum) kk R1 s2.1 w1 u1 w2 u2 (trimL b) (trimL s2.2) X.1 hlb X.2.1 X.2.2 hl1 hl2 (trimL s2.2).length 0 58 (by omega) (by omega)
        by_cases c : s2.1 < R1
        · rw [if_pos c, L.e c, if_neg (by simp)]
          have := fin (waitI R l a5 (R + l.sum) a4 wt 0) (utilI R l a5 (R + l.sum) a4 wt 0) (waitI R l a5 kk a4 wt 0) (utilI R l a5 kk a4 wt 0)
          rw [L.e c] at this
          exact this
        · rw [if_neg c]
          exact fin _ _ _ _
  · rw [if_neg hC, governorlaw16_PlantLess.j0, if_pos rfl]
end Go.Proofs.Ytgeldfjpafimpaa.Pure
