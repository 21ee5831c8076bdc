import Derived.Test.YtnipomnkjegebaaPAllx0
import Derived.Test.YtnipomnkjegebaaPAllx16
import Derived.Test.YtnipomnkjegebaaPAllx17
import Derived.Test.YtnipomnkjegebaaPAllx18
import Derived.Test.YtnipomnkjegebaaPAllx20
import Derived.Test.YtnipomnkjegebaaPAllx21
import Derived.Test.YtnipomnkjegebaaPAllx22
import Derived.Test.YtnipomnkjegebaaPAllx24
import Derived.IntWalk
namespace Go.Proofs.Ytnipomnkjegebaa.PAll
open Go.RowKit Go.Proofs.YtnipomnkjegebaaW.PrintWords Go.Proofs.YtnipomnkjegebaaW.PrintLast Go.Proofs.YtnipomnkjegebaaW.PrintMore
set_option linter.unusedVariables false
set_option linter.unusedSimpArgs false
theorem wf64 {n : Int} (h : (Lit.int .i64 n).wf = true) : -9223372036854775808 ≤ n ∧ n ≤ 9223372036854775807 := by
  have h' := (Bool.and_eq_true _ _).mp h
  exact ⟨of_decide_eq_true h'.1, of_decide_eq_true h'.2⟩
theorem wf16 {n : Int} (h : (Lit.int .i16 n).wf = true) : -32768 ≤ n ∧ n ≤ 32767 := by
  have h' := (Bool.and_eq_true _ _).mp h
  exact ⟨of_decide_eq_true h'.1, of_decide_eq_true h'.2⟩
theorem wfu16 {n : Int} (h : (Lit.int .u16 n).wf = true) : 0 ≤ n ∧ n ≤ 65535 := by
  have h' := (Bool.and_eq_true _ _).mp h
  exact ⟨of_decide_eq_true h'.1, of_decide_eq_true h'.2⟩
theorem wfu8 {n : Int} (h : (Lit.int .u8 n).wf = true) : 0 ≤ n ∧ n ≤ 255 := by
  have h' := (Bool.and_eq_true _ _).mp h
  exact ⟨of_decide_eq_true h'.1, of_decide_eq_true h'.2⟩
theorem wr {n : Int} (h0 : -9223372036854775808 ≤ n) (h1 : n ≤ 9223372036854775807) : wrap64 n = n := IntWalk.wrap64_in n ⟨h0, h1⟩
theorem limitHead : governorlaw15_head.f = some true := by decide +kernel
theorem time_eq (a : Int) : governorlaw15_time.f a = some (decide (0 ≤ a) && decide (a ≤ 1099511627776)) := by
  unfold governorlaw15_time.f
  by_cases h : 0 ≤ a <;> simp [h]
theorem time_in {a : Int} (h : (decide (0 ≤ a) && decide (a ≤ 1099511627776)) = true) : 0 ≤ a ∧ a ≤ 1099511627776 := by
  simpa using h
/-- What the guard says of the four numbers that matter here. -/
structure ConfP (lo hi rate st : Int) : Prop where
  l1 : 1 ≤ lo
  lh : lo ≤ hi
  h1 : hi ≤ 1000
  r1 : 1 ≤ rate
  r2 : rate ≤ 1000
  s0 : 0 ≤ st
  s1 : st ≤ 1099511627776
theorem conf_in {a0 a1 a2 a3 a4 a5 a6 a7 a8 a9 a10 a11 : Int} (h : (cfSize a0 a1 a2 && (cfPlant a3 a4 a5 a6 && cfJudge a7 a8 a9 a10 a11)) = true) : ConfP a0 a1 a2 a3 := by
  simp only [cfSize, cfPlant, wB, Bool.and_eq_true, decide_eq_true_eq] at h
  exact ⟨by omega, by omega, by omega, by omega, by omega, by omega, by omega⟩
/-- WHAT A TICK LEAVES. -/
def NextP (lo hi rate st cur last : Int) (grew : Bool) (want now : Int) (c l : Int) (gr : Bool) : Prop :=
  ∃ g n : Int, g = mx lo (mn cur hi) ∧ n = mx lo (mn (mx (g - rate) (mn want (g + rate))) hi) ∧
    ((n > g ∧ c = n ∧ l = now ∧ gr = true) ∨ (n ≤ g ∧ grew = true ∧ now - last < st ∧ c = g ∧ l = last ∧ gr = grew) ∨ (n ≤ g ∧ (grew = true → ¬ now - last < st) ∧ c = n ∧ l = last ∧ gr = grew))
theorem limit_next {a0 a1 a2 a3 a4 a5 a6 a7 a8 a9 a10 a11 cur last want now : Int} {grew : Bool} (C : ConfP a0 a1 a2 a3) (n0 : 0 ≤ now) (n1 : now ≤ 2199023255552) (l0 : 0 ≤ last) (l1 : last ≤ 2199023255552) :
    ∃ c l gr, limit_Next.f a0 a1 a2 a3 a4 a5 a6 a7 a8 a9 a10 a11 cur last grew want now = some (c, l, gr) ∧ NextP a0 a1 a2 a3 cur last grew want now c l gr := by
  obtain ⟨c1, c2, c3, c4, c5, c6, c7⟩ := C
  unfold limit_Next.f limit_Into.f limit_within.f
  simp only [Option.bind_some]
  obtain ⟨g, hg⟩ : ∃ g, mx a0 (mn cur a1) = g := ⟨_, rfl⟩
  have g0 : 1 ≤ g ∧ g ≤ 1000 := by rw [← hg]; unfold mx mn; omega
  rw [hg, wr (n := g - a2) (by omega) (by omega), wr (n := g + a2) (by omega) (by omega), wr (n := now - last) (by omega) (by omega)]
  obtain ⟨n, hn⟩ : ∃ n, mx a0 (mn (mx (g - a2) (mn want (g + a2))) a1) = n := ⟨_, rfl⟩
  rw [hn]
  by_cases h1 : n > g
  · exact ⟨n, now, true, by rw [if_pos h1], g, n, hg.symm, hn.symm, .inl ⟨h1, rfl, rfl, rfl⟩⟩
  · rw [if_neg h1]
    by_cases h2 : grew = true
    · rw [if_pos h2]
      by_cases h3 : now - last < a3
      · rw [if_pos h3]
        exact ⟨g, last, grew, rfl, g, n, hg.symm, hn.symm, .inr (.inl ⟨by omega, h2, h3, rfl, rfl, rfl⟩)⟩
      · rw [if_neg h3]
        exact ⟨n, last, grew, rfl, g, n, hg.symm, hn.symm, .inr (.inr ⟨by omega, fun _ => h3, rfl, rfl, rfl⟩)⟩
    · rw [if_neg h2]
      exact ⟨n, last, grew, rfl, g, n, hg.symm, hn.symm, .inr (.inr ⟨by omega, fun h => absurd h h2, rfl, rfl, rfl⟩)⟩
theorem ref_next {a0 a1 a2 a3 cur last want now c l : Int} {grew gr : Bool} (C : ConfP a0 a1 a2 a3) (n0 : 0 ≤ now) (n1 : now ≤ 2199023255552) (l0 : 0 ≤ last) (l1 : last ≤ 2199023255552) (h : NextP a0 a1 a2 a3 cur last grew want now c l gr) :
    r15 (mn (mx cur a0) a1) a0 a1 a2 a3 last want now grew = (c, l, gr) := by
  obtain ⟨c1, c2, c3, c4, c5, c6, c7⟩ := C
  obtain ⟨g, n, hg, hn, h⟩ := h
  have g0 : 1 ≤ g ∧ g ≤ 1000 := by rw [hg]; unfold mx mn; omega
  have e : mn (mx cur a0) a1 = g := by rw [hg]; unfold mx mn; omega
  unfold r15
  rw [e, wr (n := g - a2) (by omega) (by omega), wr (n := g + a2) (by omega) (by omega), wr (n := now - last) (by omega) (by omega)]
  dsimp only
  obtain ⟨m1, hm1⟩ : ∃ m1, (if want < g - a2 then g - a2 else want) = m1 := ⟨_, rfl⟩
  rw [hm1]
  obtain ⟨m2, hm2⟩ : ∃ m2, (if m1 > g + a2 then g + a2 else m1) = m2 := ⟨_, rfl⟩
  rw [hm2]
  have e2 : mn (mx m2 a0) a1 = n := by rw [hn, ← hm2, ← hm1]; unfold mx mn; omega
  rw [e2]
  clear hm1 hm2 e2 hg hn e
  obtain ⟨n4, hn4⟩ : ∃ n4, (if n < g ∧ grew = true ∧ now - last < a3 then g else n) = n4 := ⟨_, rfl⟩
  rw [hn4]
  rcases h with ⟨k1, rfl, rfl, rfl⟩ | ⟨k1, k2, k3, rfl, rfl, rfl⟩ | ⟨k1, k2, rfl, rfl, rfl⟩
  · rw [if_neg (fun h => by omega)] at hn4
    rw [if_pos (by omega), hn4]
  · by_cases k : n < c
    · rw [if_pos ⟨k, k2, k3⟩] at hn4
      rw [if_neg (by omega), hn4]
    · rw [if_neg (fun h => k h.1)] at hn4
      rw [if_neg (by omega), show n4 = c by omega]
  · rw [if_neg (fun h => k2 h.2.1 h.2.2)] at hn4
    rw [if_neg (by omega), hn4]
end Go.Proofs.Ytnipomnkjegebaa.PAll
