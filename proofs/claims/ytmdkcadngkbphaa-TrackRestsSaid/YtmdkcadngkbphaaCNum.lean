import Derived.Test.YtmdkcadngkbphaaPAllx0
import Derived.Test.YtmdkcadngkbphaaPAllx1
import Derived.Test.YtmdkcadngkbphaaPAllx2
import Derived.Test.YtmdkcadngkbphaaPAllx3
import Derived.Test.YtmdkcadngkbphaaPAllx4
import Derived.Test.YtmdkcadngkbphaaPAllx5
import Derived.Test.YtmdkcadngkbphaaPAllx8
import Derived.IntWalk
namespace Go.Proofs.Ytmdkcadngkbphaa.PAll
open Go.RowKit Go.Proofs.YtmdkcadngkbphaaW.PrintWords Go.Proofs.YtmdkcadngkbphaaW.PrintLast Go.Proofs.YtmdkcadngkbphaaW.PrintMore
set_option linter.unusedVariables false
set_option linter.unusedSimpArgs false
theorem wf64 {n : Int} (h : (Lit.int .i64 n).wf = true) : -9223372036854775808 ≤ n ∧ n ≤ 9223372036854775807 := by
  have h' := (Bool.and_eq_true _ _).mp h
  exact ⟨of_decide_eq_true h'.1, of_decide_eq_true h'.2⟩
theorem wf32 {n : Int} (h : (Lit.int .i32 n).wf = true) : -2147483648 ≤ n ∧ n ≤ 2147483647 := by
  have h' := (Bool.and_eq_true _ _).mp h
  exact ⟨of_decide_eq_true h'.1, of_decide_eq_true h'.2⟩
theorem wfu32 {n : Int} (h : (Lit.int .u32 n).wf = true) : 0 ≤ n ∧ n ≤ 4294967295 := by
  have h' := (Bool.and_eq_true _ _).mp h
  exact ⟨of_decide_eq_true h'.1, of_decide_eq_true h'.2⟩
theorem wf16 {n : Int} (h : (Lit.int .i16 n).wf = true) : -32768 ≤ n ∧ n ≤ 32767 := by
  have h' := (Bool.and_eq_true _ _).mp h
  exact ⟨of_decide_eq_true h'.1, of_decide_eq_true h'.2⟩
theorem wfu16 {n : Int} (h : (Lit.int .u16 n).wf = true) : 0 ≤ n ∧ n ≤ 65535 := by
  have h' := (Bool.and_eq_true _ _).mp h
  exact ⟨of_decide_eq_true h'.1, of_decide_eq_true h'.2⟩
theorem wfu8 {n : Int} (h : (Lit.int .u8 n).wf = true) : 0 ≤ n ∧ n ≤ 255 := by
  have h' := (Bool.and_eq_true _ _).mp h
  exact ⟨of_decide_eq_true h'.1, of_decide_eq_true h'.2⟩
theorem wr {n : Int} (h0 : -9223372036854775808 ≤ n) (h1 : n ≤ 9223372036854775807) : wrap64 n = n := IntWalk.wrap64_in n ⟨h0, h1⟩
theorem tmod_bounds (t p : Int) (hp : 0 < p) : -p < Int.tmod t p ∧ Int.tmod t p < p := by
  refine ⟨?_, Int.tmod_lt_of_pos t hp⟩
  have h := Int.tmod_lt_of_pos (-t) hp
  rw [Int.neg_tmod] at h
  omega
/-- Division towards 0, by a number of which omega knows what it is. -/
theorem tdiv_pos {a c : Int} (h : 0 ≤ a) : Int.tdiv a c = a / c := Int.tdiv_eq_ediv_of_nonneg h
theorem tdiv_ng {a c : Int} (h : a ≤ 0) : Int.tdiv a c = -((-a) / c) := by
  have e : Int.tdiv a c = -(Int.tdiv (-a) c) := by rw [Int.neg_tdiv, Int.neg_neg]
  rw [e, tdiv_pos (by omega)]
theorem tdiv_mono {a b c : Int} (hc : 0 < c) (h : a ≤ b) : Int.tdiv a c ≤ Int.tdiv b c := by
  by_cases ha : 0 ≤ a
  · rw [tdiv_pos ha, tdiv_pos (by omega)]; exact Int.ediv_le_ediv hc h
  · by_cases hb : 0 ≤ b
    · rw [tdiv_ng (by omega), tdiv_pos hb]
      have h1 : 0 ≤ (-a) / c := Int.ediv_nonneg (by omega) (by omega)
      have h2 : 0 ≤ b / c := Int.ediv_nonneg hb (by omega)
      omega
    · rw [tdiv_ng (by omega), tdiv_ng (by omega)]
      have := Int.ediv_le_ediv hc (show -b ≤ -a by omega)
      omega
def upI (x : Int) : Int := (x + 1000000999) / 1000 - 1000000
theorem sat_eq (a : Int) : fixed_Sat.f a = some (satI a) := rfl
theorem up_eq (a : Int) : fixed_Up.f a = some (upI (satI a)) := by
  have h0 := satI_lo a
  have h1 := satI_hi a
  unfold fixed_Up.f upI
  rw [sat_eq]
  simp only [Option.bind_some]
  rw [wr (n := satI a + 1000000000) (by omega) (by omega), wr (n := satI a + 1000000000 + 1000) (by omega) (by omega), wr (n := satI a + 1000000000 + 1000 - 1) (by omega) (by omega), tdiv_pos (by omega), wr (n := (satI a + 1000000000 + 1000 - 1) / 1000) (by omega) (by omega), wr (by omega) (by omega)]
  congr 1
  omega
theorem refSat_eq (a : Int) : governorref08_Sat.f a = some (satI a) := by
  unfold governorref08_Sat.f satI mx mn
  by_cases h1 : a > 1000000000
  · rw [if_pos h1]; congr 1; omega
  · rw [if_neg h1]
    by_cases h2 : a < -1000000000
    · rw [if_pos h2]; congr 1; omega
    · rw [if_neg h2]; congr 1; omega
theorem refMul_eq (a b : Int) : governorref08_Mul.f a b = fixed_Mul.f a b := by
  have hp := prod_in (satI_lo a) (satI_hi a) (satI_lo b) (satI_hi b)
  have hd := tdiv_in (b := 1000) (N := 1000000000000000000) hp.1 hp.2
  unfold governorref08_Mul.f fixed_Mul.f mulI
  simp only [refSat_eq, Option.bind_some]
  rw [wr (n := satI a * satI b) (by omega) (by omega), wr (by omega) (by omega)]
theorem satI_big {n : Int} (h : 1000000000 ≤ n) : satI n = 1000000000 := by unfold satI mx mn; omega
theorem satI_small {n : Int} (h : n ≤ -1000000000) : satI n = -1000000000 := by unfold satI mx mn; omega
theorem refDiv_eq (k : Nat) (a b : Int) : governorref08_Div.f (k + 1 + 1) a b = fixed_Div.f a b := by
  have h0 := satI_lo a
  have h1 := satI_hi a
  unfold governorref08_Div.f fixed_Div.f
  simp only [refSat_eq, Option.bind_some]
  generalize satI a = x at h0 h1 ⊢
  generalize satI b = y
  unfold divI
  have hin := tdiv_in (b := y) (N := 1000000000000) (show -1000000000000 ≤ x * 1000 by omega) (by omega)
  by_cases c : y = 0
  · rw [if_pos c, if_pos c]
    by_cases c1 : x > 0
    · simp only [governorref08_Div.j0, c1, decide_true, reduceIte]
      rw [if_neg (by omega), satI_big (by omega)]
    · simp only [governorref08_Div.j0, c1, decide_false, Bool.false_eq_true, reduceIte]
      rw [if_pos c]
      by_cases c2 : x < 0
      · simp only [governorref08_Div.j1, c2, decide_true, reduceIte]
        rw [if_neg (by omega), satI_small (by omega)]
      · simp only [governorref08_Div.j1, c2, decide_false, Bool.false_eq_true, reduceIte]
        rw [if_pos c, if_pos (by omega)]
        rfl
  · rw [if_neg c, if_neg c]
    simp only [governorref08_Div.j0, governorref08_Div.j1, Bool.false_eq_true, reduceIte]
    rw [if_neg c, if_neg c]
    rw [wr (n := 1000 * x) (by omega) (by omega), Int.mul_comm 1000 x, wr (by omega) (by omega), refSat_eq]
    rfl
theorem refUp_eq (a : Int) : governorref08_Up.f a = some (upI (satI a)) := by
  have h0 := satI_lo a
  have h1 := satI_hi a
  unfold governorref08_Up.f
  simp only [refSat_eq, Option.bind_some]
  generalize satI a = x at h0 h1 ⊢
  have hin := tdiv_in (b := 1000) (N := 1000000000) h0 h1
  have hk : Int.tdiv x 1000 = if 0 ≤ x then x / 1000 else -((-x) / 1000) := by
    by_cases c : 0 ≤ x
    · rw [if_pos c, tdiv_pos c]
    · rw [if_neg c, tdiv_ng (by omega)]
  generalize Int.tdiv x 1000 = q at hin hk ⊢
  unfold upI
  rw [wr (n := q) (by omega) (by omega), wr (n := q * 1000) (by omega) (by omega), wr (n := q + 1) (by omega) (by omega)]
  by_cases c : q * 1000 < x
  · rw [if_pos c]; congr 1; omega
  · rw [if_neg c]; congr 1; omega
end Go.Proofs.Ytmdkcadngkbphaa.PAll
