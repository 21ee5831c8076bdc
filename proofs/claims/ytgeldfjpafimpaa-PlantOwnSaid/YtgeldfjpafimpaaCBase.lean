import Derived.Test.YtgeldfjpafimpaaPAllx0
import Derived.Test.YtgeldfjpafimpaaPAllx19
import Derived.Test.YtgeldfjpafimpaaPAllx7
import Derived.IntWalk
namespace Go.Proofs.Ytgeldfjpafimpaa.PAll
open Go.RowKit Go.Proofs.YtgeldfjpafimpaaW.PrintWords Go.Proofs.YtgeldfjpafimpaaW.PrintLast Go.Proofs.YtgeldfjpafimpaaW.PrintMore
set_option linter.unusedVariables false
set_option linter.unusedSimpArgs false
theorem wf64 {n : Int} (h : (Lit.int .i64 n).wf = true) : -9223372036854775808 ≤ n ∧ n ≤ 9223372036854775807 := by
  have h' := (Bool.and_eq_true _ _).mp h
  exact ⟨of_decide_eq_true h'.1, of_decide_eq_true h'.2⟩
theorem wf32 {n : Int} (h : (Lit.int .i32 n).wf = true) : -2147483648 ≤ n ∧ n ≤ 2147483647 := by
  have h' := (Bool.and_eq_true _ _).mp h
  exact ⟨of_decide_eq_true h'.1, of_decide_eq_true h'.2⟩
theorem wfu32 {n : Int} (h : (Lit.int .u32 n).wf = true) : 0 ≤ n ∧ n ≤ 4294967295 := by
  have h' := (Bool.and_eq_true _ _).mp h
  exact ⟨of_decide_eq_true h'.1, of_decide_eq_true h'.2⟩
theorem wf16 {n : Int} (h : (Lit.int .i16 n).wf = true) : -32768 ≤ n ∧ n ≤ 32767 := by
  have h' := (Bool.and_eq_true _ _).mp h
  exact ⟨of_decide_eq_true h'.1, of_decide_eq_true h'.2⟩
theorem wfu16 {n : Int} (h : (Lit.int .u16 n).wf = true) : 0 ≤ n ∧ n ≤ 65535 := by
  have h' := (Bool.and_eq_true _ _).mp h
  exact ⟨of_decide_eq_true h'.1, of_decide_eq_true h'.2⟩
theorem wfu8 {n : Int} (h : (Lit.int .u8 n).wf = true) : 0 ≤ n ∧ n ≤ 255 := by
  have h' := (Bool.and_eq_true _ _).mp h
  exact ⟨of_decide_eq_true h'.1, of_decide_eq_true h'.2⟩
theorem wr {n : Int} (h0 : -9223372036854775808 ≤ n) (h1 : n ≤ 9223372036854775807) : wrap64 n = n := IntWalk.wrap64_in n ⟨h0, h1⟩
theorem tmod_bounds (t p : Int) (hp : 0 < p) : -p < Int.tmod t p ∧ Int.tmod t p < p := by
  refine ⟨?_, Int.tmod_lt_of_pos t hp⟩
  have h := Int.tmod_lt_of_pos (-t) hp
  rw [Int.neg_tmod] at h
  omega
/-- Division towards 0, by a number of which omega knows what it is. -/
theorem tdiv_pos {a c : Int} (h : 0 ≤ a) : Int.tdiv a c = a / c := Int.tdiv_eq_ediv_of_nonneg h
theorem tdiv_ng {a c : Int} (h : a ≤ 0) : Int.tdiv a c = -((-a) / c) := by
  have e : Int.tdiv a c = -(Int.tdiv (-a) c) := by rw [Int.neg_tdiv, Int.neg_neg]
  rw [e, tdiv_pos (by omega)]
theorem tdiv_mono {a b c : Int} (hc : 0 < c) (h : a ≤ b) : Int.tdiv a c ≤ Int.tdiv b c := by
  by_cases ha : 0 ≤ a
  · rw [tdiv_pos ha, tdiv_pos (by omega)]; exact Int.ediv_le_ediv hc h
  · by_cases hb : 0 ≤ b
    · rw [tdiv_ng (by omega), tdiv_pos hb]
      have h1 : 0 ≤ (-a) / c := Int.ediv_nonneg (by omega) (by omega)
      have h2 : 0 ≤ b / c := Int.ediv_nonneg hb (by omega)
      omega
    · rw [tdiv_ng (by omega), tdiv_ng (by omega)]
      have := Int.ediv_le_ediv hc (show -b ≤ -a by omega)
      omega
theorem tdivB {x b N : Int} (h0 : -N ≤ x) (h1 : x ≤ N) : -N ≤ Int.tdiv x b ∧ Int.tdiv x b ≤ N := by
  have h := Int.natAbs_tdiv x b
  have h2 : (Int.tdiv x b).natAbs ≤ x.natAbs := by rw [h]; exact Nat.div_le_self _ _
  omega
theorem sat_eq (a : Int) : fixed_Sat.f a = some (satI a) := rfl
theorem refSat_eq (a : Int) : governorref08_Sat.f a = some (satI a) := by
  unfold governorref08_Sat.f satI mx mn
  by_cases h1 : a > 1000000000
  · rw [if_pos h1]; congr 1; omega
  · rw [if_neg h1]
    by_cases h2 : a < -1000000000
    · rw [if_pos h2]; congr 1; omega
    · rw [if_neg h2]; congr 1; omega
theorem satI_big {n : Int} (h : 1000000000 ≤ n) : satI n = 1000000000 := by unfold satI mx mn; omega
theorem satI_small {n : Int} (h : n ≤ -1000000000) : satI n = -1000000000 := by unfold satI mx mn; omega
end Go.Proofs.Ytgeldfjpafimpaa.PAll
