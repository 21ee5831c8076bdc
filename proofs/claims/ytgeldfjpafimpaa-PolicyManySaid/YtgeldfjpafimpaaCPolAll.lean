import Derived.Test.YtgeldfjpafimpaaCWords
import Derived.Test.YtgeldfjpafimpaaPAllx0
import Derived.Test.YtgeldfjpafimpaaPAllx11
import Derived.Test.YtgeldfjpafimpaaPAllx14
import Derived.Test.YtgeldfjpafimpaaPAllx17
import Derived.Test.YtgeldfjpafimpaaPAllx18
import Derived.Test.YtgeldfjpafimpaaPAllx19
import Derived.Test.YtgeldfjpafimpaaPAllx20
import Derived.Test.YtgeldfjpafimpaaPAllx21
import Derived.Test.YtgeldfjpafimpaaPAllx22
import Derived.Test.YtgeldfjpafimpaaPAllx23
import Derived.Test.YtgeldfjpafimpaaPAllx24
import Derived.Test.YtgeldfjpafimpaaPAllx25
import Derived.Test.YtgeldfjpafimpaaPAllx26
import Derived.Test.YtgeldfjpafimpaaPAllx27
import Derived.Test.YtgeldfjpafimpaaPAllx28
import Derived.Test.YtgeldfjpafimpaaPAllx29
import Derived.Test.YtgeldfjpafimpaaPAllx3
import Derived.Test.YtgeldfjpafimpaaPAllx30
import Derived.Test.YtgeldfjpafimpaaPAllx31
import Derived.Test.YtgeldfjpafimpaaPAllx32
import Derived.Test.YtgeldfjpafimpaaPAllx33
import Derived.Test.YtgeldfjpafimpaaPAllx34
import Derived.Test.YtgeldfjpafimpaaPAllx36
import Derived.Test.YtgeldfjpafimpaaPAllx39
import Derived.Test.YtgeldfjpafimpaaPAllx4
import Derived.Test.YtgeldfjpafimpaaPAllx40
import Derived.Test.YtgeldfjpafimpaaPAllx41
import Derived.Test.YtgeldfjpafimpaaPAllx42
import Derived.Test.YtgeldfjpafimpaaPAllx43
import Derived.Test.YtgeldfjpafimpaaPAllx44
import Derived.Test.YtgeldfjpafimpaaPAllx45
import Derived.Test.YtgeldfjpafimpaaPAllx46
import Derived.Test.YtgeldfjpafimpaaPAllx47
import Derived.Test.YtgeldfjpafimpaaPAllx48
import Derived.Test.YtgeldfjpafimpaaPAllx49
import Derived.Test.YtgeldfjpafimpaaPAllx5
import Derived.Test.YtgeldfjpafimpaaPAllx6
namespace Go.Proofs.Ytgeldfjpafimpaa.PAll
open Go.RowKit Go.Proofs.YtgeldfjpafimpaaW.PrintWords Go.Proofs.YtgeldfjpafimpaaW.PrintLast Go.Proofs.YtgeldfjpafimpaaW.PrintMore
set_option linter.unusedVariables false
set_option linter.unusedSimpArgs false
theorem wf64 {n : Int} (h : (Lit.int .i64 n).wf = true) : -9223372036854775808 ≤ n ∧ n ≤ 9223372036854775807 := by
  have h' := (Bool.and_eq_true _ _).mp h
  exact ⟨of_decide_eq_true h'.1, of_decide_eq_true h'.2⟩
theorem wf32 {n : Int} (h : (Lit.int .i32 n).wf = true) : -2147483648 ≤ n ∧ n ≤ 2147483647 := by
  have h' := (Bool.and_eq_true _ _).mp h
  exact ⟨of_decide_eq_true h'.1, of_decide_eq_true h'.2⟩
theorem wfu32 {n : Int} (h : (Lit.int .u32 n).wf = true) : 0 ≤ n ∧ n ≤ 4294967295 := by
  have h' := (Bool.and_eq_true _ _).mp h
  exact ⟨of_decide_eq_true h'.1, of_decide_eq_true h'.2⟩
theorem wf16 {n : Int} (h : (Lit.int .i16 n).wf = true) : -32768 ≤ n ∧ n ≤ 32767 := by
  have h' := (Bool.and_eq_true _ _).mp h
  exact ⟨of_decide_eq_true h'.1, of_decide_eq_true h'.2⟩
theorem wfu16 {n : Int} (h : (Lit.int .u16 n).wf = true) : 0 ≤ n ∧ n ≤ 65535 := by
  have h' := (Bool.and_eq_true _ _).mp h
  exact ⟨of_decide_eq_true h'.1, of_decide_eq_true h'.2⟩
theorem wfu8 {n : Int} (h : (Lit.int .u8 n).wf = true) : 0 ≤ n ∧ n ≤ 255 := by
  have h' := (Bool.and_eq_true _ _).mp h
  exact ⟨of_decide_eq_true h'.1, of_decide_eq_true h'.2⟩
theorem wr {n : Int} (h0 : -9223372036854775808 ≤ n) (h1 : n ≤ 9223372036854775807) : wrap64 n = n := IntWalk.wrap64_in n ⟨h0, h1⟩
theorem tmod_bounds (t p : Int) (hp : 0 < p) : -p < Int.tmod t p ∧ Int.tmod t p < p := by
  refine ⟨?_, Int.tmod_lt_of_pos t hp⟩
  have h := Int.tmod_lt_of_pos (-t) hp
  rw [Int.neg_tmod] at h
  omega
/-- Division towards 0, by a number of which omega knows what it is. -/
theorem tdiv_pos {a c : Int} (h : 0 ≤ a) : Int.tdiv a c = a / c := Int.tdiv_eq_ediv_of_nonneg h
theorem tdiv_ng {a c : Int} (h : a ≤ 0) : Int.tdiv a c = -((-a) / c) := by
  have e : Int.tdiv a c = -(Int.tdiv (-a) c) := by rw [Int.neg_tdiv, Int.neg_neg]
  rw [e, tdiv_pos (by omega)]
theorem tdiv_mono {a b c : Int} (hc : 0 < c) (h : a ≤ b) : Int.tdiv a c ≤ Int.tdiv b c := by
  by_cases ha : 0 ≤ a
  · rw [tdiv_pos ha, tdiv_pos (by omega)]; exact Int.ediv_le_ediv hc h
  · by_cases hb : 0 ≤ b
    · rw [tdiv_ng (by omega), tdiv_pos hb]
      have h1 : 0 ≤ (-a) / c := Int.ediv_nonneg (by omega) (by omega)
      have h2 : 0 ≤ b / c := Int.ediv_nonneg hb (by omega)
      omega
    · rw [tdiv_ng (by omega), tdiv_ng (by omega)]
      have := Int.ediv_le_ediv hc (show -b ≤ -a by omega)
      omega
theorem tdivB {x b N : Int} (h0 : -N ≤ x) (h1 : x ≤ N) : -N ≤ Int.tdiv x b ∧ Int.tdiv x b ≤ N := by
  have h := Int.natAbs_tdiv x b
  have h2 : (Int.tdiv x b).natAbs ≤ x.natAbs := by rw [h]; exact Nat.div_le_self _ _
  omega
theorem sat_eq (a : Int) : fixed_Sat.f a = some (satI a) := rfl
theorem refSat_eq (a : Int) : governorref08_Sat.f a = some (satI a) := by
  unfold governorref08_Sat.f satI mx mn
  by_cases h1 : a > 1000000000
  · rw [if_pos h1]; congr 1; omega
  · rw [if_neg h1]
    by_cases h2 : a < -1000000000
    · rw [if_pos h2]; congr 1; omega
    · rw [if_neg h2]; congr 1; omega
theorem satI_big {n : Int} (h : 1000000000 ≤ n) : satI n = 1000000000 := by unfold satI mx mn; omega
theorem satI_small {n : Int} (h : n ≤ -1000000000) : satI n = -1000000000 := by unfold satI mx mn; omega
theorem refMul_eq (a b : Int) : governorref08_Mul.f a b = fixed_Mul.f a b := by
  have hp := prod_in (satI_lo a) (satI_hi a) (satI_lo b) (satI_hi b)
  have hd := tdivB (b := 1000) (N := 1000000000000000000) hp.1 hp.2
  unfold governorref08_Mul.f fixed_Mul.f mulI
  simp only [refSat_eq, Option.bind_some]
  rw [wr (n := satI a * satI b) (by omega) (by omega), wr (by omega) (by omega)]
def upI (x : Int) : Int := (x + 1000000999) / 1000 - 1000000
theorem up_eq (a : Int) : fixed_Up.f a = some (upI (satI a)) := by
  have h0 := satI_lo a
  have h1 := satI_hi a
  unfold fixed_Up.f upI
  rw [sat_eq]
  simp only [Option.bind_some]
  rw [wr (n := satI a + 1000000000) (by omega) (by omega), wr (n := satI a + 1000000000 + 1000) (by omega) (by omega), wr (n := satI a + 1000000000 + 1000 - 1) (by omega) (by omega), tdiv_pos (by omega), wr (n := (satI a + 1000000000 + 1000 - 1) / 1000) (by omega) (by omega), wr (by omega) (by omega)]
  congr 1
  omega
theorem refDiv_eq (k : Nat) (a b : Int) : governorref08_Div.f (k + 1 + 1) a b = fixed_Div.f a b := by
  have h0 := satI_lo a
  have h1 := satI_hi a
  unfold governorref08_Div.f fixed_Div.f
  simp only [refSat_eq, Option.bind_some]
  generalize satI a = x at h0 h1 ⊢
  generalize satI b = y
  unfold divI
  have hin := tdivB (b := y) (N := 1000000000000) (show -1000000000000 ≤ x * 1000 by omega) (by omega)
  by_cases c : y = 0
  · rw [if_pos c, if_pos c]
    by_cases c1 : x > 0
    · simp only [governorref08_Div.j0, c1, decide_true, reduceIte]
      rw [if_neg (by omega), satI_big (by omega)]
    · simp only [governorref08_Div.j0, c1, decide_false, Bool.false_eq_true, reduceIte]
      rw [if_pos c]
      by_cases c2 : x < 0
      · simp only [governorref08_Div.j1, c2, decide_true, reduceIte]
        rw [if_neg (by omega), satI_small (by omega)]
      · simp only [governorref08_Div.j1, c2, decide_false, Bool.false_eq_true, reduceIte]
        rw [if_pos c, if_pos (by omega)]
        rfl
  · rw [if_neg c, if_neg c]
    simp only [governorref08_Div.j0, governorref08_Div.j1, Bool.false_eq_true, reduceIte]
    rw [if_neg c, if_neg c]
    rw [wr (n := 1000 * x) (by omega) (by omega), Int.mul_comm 1000 x, wr (by omega) (by omega), refSat_eq]
    rfl
theorem refUp_eq (a : Int) : governorref08_Up.f a = some (upI (satI a)) := by
  have h0 := satI_lo a
  have h1 := satI_hi a
  unfold governorref08_Up.f
  simp only [refSat_eq, Option.bind_some]
  generalize satI a = x at h0 h1 ⊢
  have hin := tdivB (b := 1000) (N := 1000000000) h0 h1
  have hk : Int.tdiv x 1000 = if 0 ≤ x then x / 1000 else -((-x) / 1000) := by
    by_cases c : 0 ≤ x
    · rw [if_pos c, tdiv_pos c]
    · rw [if_neg c, tdiv_ng (by omega)]
  generalize Int.tdiv x 1000 = q at hin hk ⊢
  unfold upI
  rw [wr (n := q) (by omega) (by omega), wr (n := q * 1000) (by omega) (by omega), wr (n := q + 1) (by omega) (by omega)]
  by_cases c : q * 1000 < x
  · rw [if_pos c]; congr 1; omega
  · rw [if_neg c]; congr 1; omega
theorem refAdd_eq (a b : Int) : governorref08_Add.f a b = fixed_Add.f a b := by
  have h0 := satI_lo a
  have h1 := satI_hi a
  have h2 := satI_lo b
  have h3 := satI_hi b
  unfold governorref08_Add.f fixed_Add.f
  simp only [refSat_eq, Option.bind_some]
  rw [wr (by omega) (by omega)]
theorem refSub_eq (a b : Int) : governorref08_Sub.f a b = fixed_Sub.f a b := by
  have h0 := satI_lo a
  have h1 := satI_hi a
  have h2 := satI_lo b
  have h3 := satI_hi b
  unfold governorref08_Sub.f fixed_Sub.f
  simp only [refSat_eq, Option.bind_some]
  rw [wr (by omega) (by omega)]
theorem nearI_lin {x : Int} (h0 : -1000000000 ≤ x) (h1 : x ≤ 1000000000) : nearI x = if x < 0 then -((-x + 500) / 1000) else (x + 500) / 1000 := by
  unfold nearI
  by_cases c : x < 0
  · rw [if_pos c, if_pos c, tdiv_pos (by omega)]
  · rw [if_neg c, if_neg c, tdiv_pos (by omega)]
theorem refNear_eq (a : Int) : governorref08_Near.f a = fixed_Near.f a := by
  have h0 := satI_lo a
  have h1 := satI_hi a
  unfold governorref08_Near.f fixed_Near.f
  simp only [refSat_eq, Option.bind_some]
  generalize satI a = x at h0 h1 ⊢
  rw [nearI_lin h0 h1]
  by_cases c : x < 0
  · rw [if_pos c, if_pos c, wr (n := -x) (by omega) (by omega), wr (n := -x + 500) (by omega) (by omega), tdiv_pos (by omega), wr (n := (-x + 500) / 1000) (by omega) (by omega), wr (by omega) (by omega)]
  · rw [if_neg c, if_neg c, wr (n := x + 500) (by omega) (by omega), tdiv_pos (by omega), wr (by omega) (by omega)]
/-- How many are wanted, of a load times replicas P and a target t. -/
def FT (t P : Int) : Int := mn (upI (mn (mn P 1000000000 * 1000 / t) 1000000000)) 1000
def cl (n lo hi : Int) : Int := mn (mx n lo) hi
theorem into_eq (n lo hi : Int) (h : lo ≤ hi) : track_into_int.f n lo hi = some (cl n lo hi) := by
  unfold track_into_int.f cl mx mn
  by_cases h1 : n < lo
  · rw [if_pos h1]; congr 1; omega
  · rw [if_neg h1]
    by_cases h2 : n > hi
    · rw [if_pos h2]; congr 1; omega
    · rw [if_neg h2]; congr 1; omega
theorem into64_eq (n lo hi : Int) (h : lo ≤ hi) : track_into_int64.f n lo hi = some (cl n lo hi) := by
  unfold track_into_int64.f cl mx mn
  by_cases h1 : n < lo
  · rw [if_pos h1]; congr 1; omega
  · rw [if_neg h1]
    by_cases h2 : n > hi
    · rw [if_pos h2]; congr 1; omega
    · rw [if_neg h2]; congr 1; omega
theorem cl_in (n lo hi : Int) (h : lo ≤ hi) : lo ≤ cl n lo hi ∧ cl n lo hi ≤ hi := by unfold cl mx mn; omega
theorem FT_in {t P : Int} (ht : 1 ≤ t) (hP : 0 ≤ P) : 0 ≤ FT t P ∧ FT t P ≤ 1000 := by
  have h : 0 ≤ mn P 1000000000 * 1000 / t := Int.ediv_nonneg (by unfold mn; omega) (by omega)
  unfold FT
  generalize mn P 1000000000 * 1000 / t = d at h
  unfold upI mn
  omega
theorem trackWant_eq (t c u : Int) : track_Want.f t c u = some (FT (cl t 1 1000000000) (cl c 0 1000 * cl u 0 1000000000)) := by
  have hc := cl_in c 0 1000 (by decide)
  have hu := cl_in u 0 1000000000 (by decide)
  have ht := cl_in t 1 1000000000 (by decide)
  unfold track_Want.f
  simp only [into_eq c 0 1000 (by decide), into64_eq u 0 1000000000 (by decide), into64_eq t 1 1000000000 (by decide), Option.bind_some]
  generalize cl c 0 1000 = x at hc ⊢
  generalize cl u 0 1000000000 = v at hu ⊢
  generalize cl t 1 1000000000 = s at ht ⊢
  have M : ∀ a b, fixed_Mul.f a b = some (satI (mulI (satI a) (satI b))) := fun _ _ => rfl
  have D : ∀ a b, fixed_Div.f a b = some (satI (divI (satI a) (satI b))) := fun _ _ => rfl
  have hP0 : 0 ≤ x * v := Int.mul_nonneg hc.1 hu.1
  have e1 : mulI (satI (1000 * x)) (satI v) = x * v := by
    rw [satI_in (by omega) (by omega), satI_in (by omega) (by omega)]
    unfold mulI
    rw [Int.mul_assoc, Int.mul_comm 1000 (x * v)]
    exact Int.mul_tdiv_cancel _ (by decide)
  rw [wr (n := 1000 * x) (by omega) (by omega)]
  simp only [M, D, Option.bind_some, e1, up_eq]
  generalize x * v = P at hP0 ⊢
  have e2 : satI P = mn P 1000000000 := by unfold satI mx mn; omega
  have e3 : 0 ≤ mn P 1000000000 ∧ mn P 1000000000 ≤ 1000000000 := by unfold mn; omega
  rw [e2, satI_in (n := mn P 1000000000) (by omega) (by omega), satI_in (n := s) (by omega) (by omega)]
  unfold divI
  rw [if_neg (by omega), tdiv_pos (by omega)]
  unfold FT
  have h : 0 ≤ mn P 1000000000 * 1000 / s := Int.ediv_nonneg (by omega) (by omega)
  generalize mn P 1000000000 * 1000 / s = d at h
  have e4 : satI d = mn d 1000000000 := by unfold satI mx mn; omega
  have e5 : satI (mn d 1000000000) = mn d 1000000000 := by unfold satI mx mn; omega
  rw [e4, e5, into_eq _ _ _ (by decide)]
  simp only [Option.bind_some]
  congr 1
  unfold cl upI mx mn
  omega
theorem FT_mono {t P Q : Int} (ht : 1 ≤ t) (h : P ≤ Q) : FT t P ≤ FT t Q := by
  have h1 : mn P 1000000000 * 1000 / t ≤ mn Q 1000000000 * 1000 / t := Int.ediv_le_ediv (by omega) (by unfold mn; omega)
  unfold FT
  generalize mn P 1000000000 * 1000 / t = d at h1 ⊢
  generalize mn Q 1000000000 * 1000 / t = e at h1 ⊢
  unfold upI mn
  omega
theorem FT_anti {s t P : Int} (hs : 1 ≤ s) (h : s ≤ t) (hP : 0 ≤ P) : FT t P ≤ FT s P := by
  have hp : 0 ≤ mn P 1000000000 * 1000 := by unfold mn; omega
  have h1 : mn P 1000000000 * 1000 / t ≤ mn P 1000000000 * 1000 / s := by
    refine (Int.le_ediv_iff_mul_le (by omega)).2 ?_
    have h2 := Int.mul_ediv_self_le (x := mn P 1000000000 * 1000) (k := t) (by omega)
    have h3 : 0 ≤ mn P 1000000000 * 1000 / t := Int.ediv_nonneg hp (by omega)
    have h4 : mn P 1000000000 * 1000 / t * s ≤ mn P 1000000000 * 1000 / t * t := Int.mul_le_mul_of_nonneg_left h h3
    rw [Int.mul_comm t] at h2
    omega
  unfold FT
  generalize mn P 1000000000 * 1000 / t = d at h1 ⊢
  generalize mn P 1000000000 * 1000 / s = e at h1 ⊢
  unfold upI mn
  omega
theorem tmod_emod (t p : Int) : Int.tmod t p % p = t % p := by
  have h : Int.tmod t p = t - p * Int.tdiv t p := by have := Int.tmod_add_mul_tdiv t p; omega
  rw [h, Int.sub_mul_emod_self_left]
theorem at_eq {p t : Int} (hp1 : 1 ≤ p) (hp2 : p ≤ 1099511627776) : sched_At.f p t = some (t % p) := by
  unfold sched_At.f
  rw [if_neg (by omega)]
  have hb := tmod_bounds t p (by omega)
  rw [wr (by omega) (by omega), Int.tmod_eq_emod_of_nonneg (by omega), Int.add_emod_right, tmod_emod]
theorem refAt_eq {p t : Int} (hp1 : 1 ≤ p) (hp2 : p ≤ 1099511627776) : governorref13_At.f p t = some (t % p) := by
  unfold governorref13_At.f
  rw [if_neg (by omega)]
  have hb := tmod_bounds t p (by omega)
  have he := tmod_emod t p
  by_cases h : Int.tmod t p < 0
  · rw [if_pos h, wr (by omega) (by omega), ← he]
    congr 1
    have h1 : (Int.tmod t p + p) % p = Int.tmod t p + p := Int.emod_eq_of_lt (by omega) (by omega)
    rw [← h1, Int.add_emod_right]
  · rw [if_neg h, ← he, Int.emod_eq_of_lt (by omega) (by omega)]
theorem emod_in (t p : Int) (hp : 1 ≤ p) : 0 ≤ t % p ∧ t % p < p := ⟨Int.emod_nonneg t (by omega), Int.emod_lt_of_pos t (by omega)⟩
theorem schedWant_eq {p : Int} {l : List S71} {t : Int} (hp1 : 1 ≤ p) (hp2 : p ≤ 1099511627776) : sched_Want.f p l t = some (backS l (t % p)) := by
  unfold sched_Want.f
  rw [at_eq hp1 hp2]
  rfl
theorem backS_nil (a : Int) : backS [] a = 0 := rfl
theorem backS_snoc (l : List S71) (s : S71) (a : Int) : backS (l ++ [s]) a = if s.f0 ≤ a then s.f1 else backS l a := by
  unfold backS
  rw [List.reverse_append]
  by_cases h : s.f0 ≤ a <;> simp [h]
theorem rd_at (l : List S71) (i : Nat) (h : i < l.length) : rd_T71 l (i : Int) = l[i] := by
  simp [rd_T71, h]
theorem take_snoc {α : Type} (l : List α) (i : Nat) (h : i < l.length) : l.take (i + 1) = l.take i ++ [l[i]] := by
  rw [List.take_succ_eq_append_getElem h]
/-- THE REFERENCE's LOOP. -/
theorem ref_loop (l : List S71) (a : Int) (hl : l.length ≤ 8) (d : Nat) : ∀ (k i : Nat), i + d = l.length → d < k → governorref13_Want.l0 k l a (backS (l.take i) a) (i : Int) = some (backS l a) := by
  induction d with
  | zero =>
    intro k i hd hk
    obtain ⟨k, rfl⟩ : ∃ m, k = m + 1 := ⟨k - 1, by omega⟩
    simp only [governorref13_Want.l0]
    rw [if_neg (by omega), List.take_of_length_le (by omega)]
  | succ d ih =>
    intro k i hd hk
    obtain ⟨k, rfl⟩ : ∃ m, k = m + 1 := ⟨k - 1, by omega⟩
    have hi : i < l.length := by omega
    simp only [governorref13_Want.l0]
    rw [if_pos (by omega), if_pos (by omega), wr (by omega) (by omega), rd_at l i hi]
    have h := ih k (i + 1) (by omega) (by omega)
    rw [take_snoc l i hi, backS_snoc] at h
    rw [show ((i + 1 : Nat) : Int) = (i : Int) + 1 by omega] at h
    by_cases hc : l[i].f0 ≤ a
    · rw [if_pos hc] at h ⊢; exact h
    · rw [if_neg hc] at h ⊢; exact h
theorem schedRef_eq {p : Int} {l : List S71} {t : Int} {k : Nat} (hl : l.length ≤ 8) (hk : 20 ≤ k) (hp1 : 1 ≤ p) (hp2 : p ≤ 1099511627776) : governorref13_Want.f k p l t = some (backS l (t % p)) := by
  unfold governorref13_Want.f
  rw [refAt_eq hp1 hp2]
  have h := ref_loop l (t % p) hl l.length k 0 (by omega) (by omega)
  rw [List.take_zero, backS_nil] at h
  exact h
/-- WHAT THE GUARD SAYS. -/
structure RightP (p : Int) (l : List S71) : Prop where
  p1 : 1 ≤ p
  p2 : p ≤ 1099511627776
  n1 : 1 ≤ l.length
  n8 : l.length ≤ 8
  z : (rd_T71 l 0).f0 = 0
  lo : ∀ i : Int, 0 ≤ i → i < (l.length : Int) → 0 ≤ (rd_T71 l i).f0 ∧ (rd_T71 l i).f0 ≤ p - 1
  up : ∀ i : Int, 0 < i → i < (l.length : Int) → (rd_T71 l (i - 1)).f0 < (rd_T71 l i).f0
  nn : ∀ i : Int, 0 ≤ i → i < (l.length : Int) → 0 ≤ (rd_T71 l i).f1 ∧ (rd_T71 l i).f1 ≤ 1000
theorem withinP_eq (a b c : Int) : governorref09_within.f a b c = some (decide (b ≤ a) && decide (a ≤ c)) := by
  unfold governorref09_within.f
  by_cases h : b ≤ a <;> simp [h]
theorem slots_loop (l : List S71) (p : Int) (hp1 : 1 ≤ p) (hp2 : p ≤ 1099511627776) (hl : l.length ≤ 8) (d : Nat) : ∀ (k : Nat) (i : Int), 0 ≤ i → i + (d : Int) = (l.length : Int) → d < k →
    ∃ b, governorref09_slots.l0 k l p i = some b ∧ (b = true → ∀ j : Int, i ≤ j → j < (l.length : Int) → (0 ≤ (rd_T71 l j).f0 ∧ (rd_T71 l j).f0 ≤ p - 1) ∧ (0 < j → (rd_T71 l (j - 1)).f0 < (rd_T71 l j).f0) ∧ 0 ≤ (rd_T71 l j).f1 ∧ (rd_T71 l j).f1 ≤ 1000) := by
  induction d with
  | zero =>
    intro k i h0 hd hk
    obtain ⟨k, rfl⟩ : ∃ m, k = m + 1 := ⟨k - 1, by omega⟩
    simp only [governorref09_slots.l0]
    rw [if_neg (by omega)]
    exact ⟨true, rfl, fun _ j h1 h2 => by omega⟩
  | succ d ih =>
    intro k i h0 hd hk
    obtain ⟨k, rfl⟩ : ∃ m, k = m + 1 := ⟨k - 1, by omega⟩
    simp only [governorref09_slots.l0, withinP_eq, Option.bind_some]
    rw [if_pos (by omega), if_pos h0, wr (n := p - 1) (by omega) (by omega), wr (n := i + 1) (by omega) (by omega), wr (n := i - 1) (by omega) (by omega)]
    obtain ⟨b, hb, hP⟩ := ih k (i + 1) (by omega) (by omega) (by omega)
    by_cases c1 : (decide (0 ≤ (rd_T71 l i).f0) && decide ((rd_T71 l i).f0 ≤ p - 1)) = true
    · rw [if_pos c1]
      by_cases c2 : (decide (0 ≤ (rd_T71 l i).f1) && decide ((rd_T71 l i).f1 ≤ 1000)) = true
      · by_cases c3 : i > 0
        · rw [if_pos c3, if_pos (by omega), if_pos (by omega)]
          by_cases c4 : (rd_T71 l i).f0 ≤ (rd_T71 l (i - 1)).f0
          · rw [if_pos c4]; exact ⟨false, rfl, fun h => by cases h⟩
          · rw [if_neg c4, if_pos c2]
            refine ⟨b, hb, fun h j h1 h2 => ?_⟩
            by_cases e : j = i
            · subst e
              simp at c1 c2
              exact ⟨c1, fun _ => by omega, c2⟩
            · exact hP h j (by omega) h2
        · rw [if_neg c3, if_pos c2]
          refine ⟨b, hb, fun h j h1 h2 => ?_⟩
          by_cases e : j = i
          · subst e
            simp at c1 c2
            exact ⟨c1, fun _ => by omega, c2⟩
          · exact hP h j (by omega) h2
      · by_cases c3 : i > 0
        · rw [if_pos c3, if_pos (by omega), if_pos (by omega)]
          by_cases c4 : (rd_T71 l i).f0 ≤ (rd_T71 l (i - 1)).f0
          · rw [if_pos c4]; exact ⟨false, rfl, fun h => by cases h⟩
          · rw [if_neg c4, if_neg c2]; exact ⟨false, rfl, fun h => by cases h⟩
        · rw [if_neg c3, if_neg c2]; exact ⟨false, rfl, fun h => by cases h⟩
    · rw [if_neg c1]; exact ⟨false, rfl, fun h => by cases h⟩
theorem slots_tells (l : List S71) (p : Int) (k : Nat) (hk : 20 ≤ k) (hl : l.length ≤ 8) : ∃ b, governorref09_slots.f k l p = some b ∧ (b = true → RightP p l) := by
  obtain ⟨k, rfl⟩ : ∃ m, k = m + 1 := ⟨k - 1, by omega⟩
  unfold governorref09_slots.f
  simp only [governorref09_slots.j0, withinP_eq, Option.bind_some]
  by_cases c1 : (l.length : Int) < 1
  · rw [if_pos c1]; exact ⟨false, by simp, fun h => by cases h⟩
  · rw [if_neg c1, if_neg (by omega), if_pos (by omega)]
    by_cases c2 : (rd_T71 l 0).f0 = 0
    · rw [if_pos c2]
      by_cases c3 : 1 ≤ p ∧ p ≤ 1099511627776
      · obtain ⟨b, hb, hP⟩ := slots_loop l p c3.1 c3.2 hl l.length k 0 (by omega) (by omega) (by omega)
        refine ⟨b, by simp [c3.1, c3.2, hb], fun h => ⟨c3.1, c3.2, by omega, hl, c2, fun i h0 h1 => (hP h i h0 h1).1, fun i h0 h1 => (hP h i (by omega) h1).2.1 h0, fun i h0 h1 => (hP h i h0 h1).2.2⟩⟩
      · refine ⟨false, ?_, fun h => by cases h⟩
        have : (decide (1 ≤ p) && decide (p ≤ 1099511627776)) = false := by
          rw [Bool.eq_false_iff]; intro h; simp at h; exact c3 h
        simp [this]
    · rw [if_neg c2]; exact ⟨false, by simp, fun h => by cases h⟩
theorem withinS_eq (a b c : Int) : governorref09_within.f a b c = some (decide (b ≤ a) && decide (a ≤ c)) := by
  unfold governorref09_within.f
  by_cases h : b ≤ a <;> simp [h]
/-- WHAT THE GUARD SAYS. -/
structure BandsP (l : List S83) : Prop where
  n1 : 1 ≤ l.length
  n8 : l.length ≤ 8
  lo : ∀ i : Int, 0 ≤ i → i < (l.length : Int) → 0 ≤ (rd_T83 l i).f0 ∧ (rd_T83 l i).f0 ≤ 1000000000
  up : ∀ i : Int, 0 < i → i < (l.length : Int) → (rd_T83 l (i - 1)).f0 < (rd_T83 l i).f0
  dd : ∀ i : Int, 0 ≤ i → i < (l.length : Int) → -1000 ≤ (rd_T83 l i).f1 ∧ (rd_T83 l i).f1 ≤ 1000
theorem bands_loop (l : List S83) (hl : l.length ≤ 8) (d : Nat) : ∀ (k : Nat) (i : Int), 0 ≤ i → i + (d : Int) = (l.length : Int) → d < k →
    ∃ b, governorref09_bands.l0 k l i = some b ∧ (b = true → 1 ≤ l.length ∧ ∀ j : Int, i ≤ j → j < (l.length : Int) → (0 ≤ (rd_T83 l j).f0 ∧ (rd_T83 l j).f0 ≤ 1000000000) ∧ (0 < j → (rd_T83 l (j - 1)).f0 < (rd_T83 l j).f0) ∧ -1000 ≤ (rd_T83 l j).f1 ∧ (rd_T83 l j).f1 ≤ 1000) := by
  induction d with
  | zero =>
    intro k i h0 hd hk
    obtain ⟨k, rfl⟩ : ∃ m, k = m + 1 := ⟨k - 1, by omega⟩
    simp only [governorref09_bands.l0]
    rw [if_neg (by omega)]
    by_cases c : (l.length : Int) ≥ 1
    · rw [if_pos c]; exact ⟨_, rfl, fun _ => ⟨by omega, fun j h1 h2 => by omega⟩⟩
    · rw [if_neg c]; exact ⟨false, rfl, fun h => by cases h⟩
  | succ d ih =>
    intro k i h0 hd hk
    obtain ⟨k, rfl⟩ : ∃ m, k = m + 1 := ⟨k - 1, by omega⟩
    simp only [governorref09_bands.l0, withinS_eq, Option.bind_some]
    rw [if_pos (by omega), if_pos h0, wr (n := i + 1) (by omega) (by omega), wr (n := i - 1) (by omega) (by omega)]
    obtain ⟨b, hb, hP⟩ := ih k (i + 1) (by omega) (by omega) (by omega)
    by_cases c1 : (decide (0 ≤ (rd_T83 l i).f0) && decide ((rd_T83 l i).f0 ≤ 1000000000)) = true
    · rw [if_pos c1]
      by_cases c2 : (decide (-1000 ≤ (rd_T83 l i).f1) && decide ((rd_T83 l i).f1 ≤ 1000)) = true
      · by_cases c3 : i > 0
        · rw [if_pos c3, if_pos (by omega), if_pos (by omega)]
          by_cases c4 : (rd_T83 l i).f0 ≤ (rd_T83 l (i - 1)).f0
          · rw [if_pos c4]; exact ⟨false, rfl, fun h => by cases h⟩
          · rw [if_neg c4, if_pos c2]
            refine ⟨b, hb, fun h => ⟨by omega, fun j h1 h2 => ?_⟩⟩
            by_cases e : j = i
            · subst e
              simp at c1 c2
              exact ⟨c1, fun _ => by omega, c2⟩
            · exact (hP h).2 j (by omega) h2
        · rw [if_neg c3, if_pos c2]
          refine ⟨b, hb, fun h => ⟨by omega, fun j h1 h2 => ?_⟩⟩
          by_cases e : j = i
          · subst e
            simp at c1 c2
            exact ⟨c1, fun _ => by omega, c2⟩
          · exact (hP h).2 j (by omega) h2
      · by_cases c3 : i > 0
        · rw [if_pos c3, if_pos (by omega), if_pos (by omega)]
          by_cases c4 : (rd_T83 l i).f0 ≤ (rd_T83 l (i - 1)).f0
          · rw [if_pos c4]; exact ⟨false, rfl, fun h => by cases h⟩
          · rw [if_neg c4, if_neg c2]; exact ⟨false, rfl, fun h => by cases h⟩
        · rw [if_neg c3, if_neg c2]; exact ⟨false, rfl, fun h => by cases h⟩
    · rw [if_neg c1]; exact ⟨false, rfl, fun h => by cases h⟩
theorem bands_tells (l : List S83) (k : Nat) (hk : 20 ≤ k) (hl : l.length ≤ 8) : ∃ b, governorref09_bands.f k l = some b ∧ (b = true → BandsP l) := by
  obtain ⟨b, hb, hP⟩ := bands_loop l hl l.length k 0 (by omega) (by omega) (by omega)
  exact ⟨b, hb, fun h => ⟨(hP h).1, hl, fun i h0 h1 => ((hP h).2 i h0 h1).1, fun i h0 h1 => ((hP h).2 i (by omega) h1).2.1 h0, fun i h0 h1 => ((hP h).2 i h0 h1).2.2⟩⟩
theorem rdB_at (l : List S83) (i : Nat) (h : i < l.length) : rd_T83 l (i : Int) = l[i] := by
  simp [rd_T83, h]
theorem bands_mono {l : List S83} (R : BandsP l) (i : Nat) (d : Nat) : ∀ (h : i + 1 + d < l.length), l[i].f0 < l[i + 1 + d].f0 := by
  induction d with
  | zero =>
    intro h
    have h2 := R.up ((i + 1 : Nat) : Int) (by omega) (by omega)
    rw [show ((i + 1 : Nat) : Int) - 1 = ((i : Nat) : Int) by omega, rdB_at l i (by omega), rdB_at l (i + 1) (by omega)] at h2
    exact h2
  | succ d ih =>
    intro h
    have h1 := ih (by omega)
    have h2 := R.up ((i + 1 + d + 1 : Nat) : Int) (by omega) (by omega)
    rw [show ((i + 1 + d + 1 : Nat) : Int) - 1 = ((i + 1 + d : Nat) : Int) by omega, rdB_at l (i + 1 + d) (by omega), rdB_at l (i + 1 + d + 1) (by omega)] at h2
    have h3 : l[i + 1 + (d + 1)] = l[i + 1 + d + 1] := rfl
    rw [h3]
    omega
theorem bands_sorted {l : List S83} (R : BandsP l) : SortedS l := by
  refine ⟨by have := R.n8; omega, List.pairwise_iff_getElem.2 fun i j hi hj hij => ?_⟩
  obtain ⟨d, rfl⟩ : ∃ d, j = i + 1 + d := ⟨j - i - 1, by omega⟩
  exact bands_mono R i d hj
theorem cut_exists {l : List S83} (hs : SortedS l) (u : Int) (d : Nat) : ∀ i j : Int, j - i = (d : Int) → 0 ≤ i → j ≤ (l.length : Int) → cutS l u i j → ∃ c, cutS l u c c ∧ 0 ≤ c ∧ c ≤ (l.length : Int) := by
  induction d with
  | zero => intro i j hd h0 hj hc; obtain rfl : i = j := by omega
            exact ⟨i, hc, h0, hj⟩
  | succ d ih =>
    intro i j hd h0 hj hc
    by_cases h : (rd_T83 l i).f0 ≤ u
    · exact ih (i + 1) j (by omega) (by omega) hj (cutS_le hs hc h0 (by omega) h)
    · exact ⟨i, cutS_gt hs hc h0 (by omega) (by omega), h0, by omega⟩
/-- THE BAND THAT IS FOUND: the bands up to it, and no others, are not above. -/
theorem find_iff {l : List S83} (hs : SortedS l) (u : Int) (i : Int) (h0 : 0 ≤ i) (hi : i < (l.length : Int)) : (rd_T83 l i).f0 ≤ u ↔ i ≤ findS l u := by
  obtain ⟨c, hc, c0, c1⟩ := cut_exists hs u l.length 0 (l.length : Int) (by omega) (Int.le_refl _) (Int.le_refl _) (cutS_start l u)
  rw [cutS_end hc c0 c1, rdS_at l i h0 hi]
  constructor
  · intro h
    by_cases q : c ≤ i
    · have := hc.2 i.toNat (by omega) (by omega)
      omega
    · omega
  · intro h
    exact hc.1 i.toNat (by omega) (by omega)
theorem find_of {l : List S83} (hs : SortedS l) (u : Int) (c : Int) (c0 : -1 ≤ c) (c1 : c < (l.length : Int)) (h1 : 0 ≤ c → (rd_T83 l c).f0 ≤ u) (h2 : c + 1 < (l.length : Int) → u < (rd_T83 l (c + 1)).f0) : findS l u = c := by
  have hin := findS_in l u
  have a1 : c ≤ findS l u := by
    by_cases q : 0 ≤ c
    · exact (find_iff hs u c q c1).1 (h1 q)
    · omega
  by_cases q : c + 1 < (l.length : Int)
  · have := mt (find_iff hs u (c + 1) (by omega) q).2 (by have := h2 q; omega)
    omega
  · omega
theorem refFind_loop {l : List S83} (hs : SortedS l) (hl : l.length ≤ 8) (u : Int) (d : Nat) : ∀ (k : Nat) (i acc : Int), 0 ≤ i → i + (d : Int) = (l.length : Int) → d < k → acc = (if findS l u < i then findS l u else i - 1) →
    governorref11_Find.l0 k l u acc i = some (findS l u) := by
  have hin := findS_in l u
  induction d with
  | zero =>
    intro k i acc h0 hd hk ha
    obtain ⟨k, rfl⟩ : ∃ m, k = m + 1 := ⟨k - 1, by omega⟩
    simp only [governorref11_Find.l0]
    rw [if_neg (by omega), ha, if_pos (by omega)]
  | succ d ih =>
    intro k i acc h0 hd hk ha
    obtain ⟨k, rfl⟩ : ∃ m, k = m + 1 := ⟨k - 1, by omega⟩
    simp only [governorref11_Find.l0]
    rw [if_pos (by omega), if_pos h0, wr (n := i + 1) (by omega) (by omega)]
    have hf := find_iff hs u i h0 (by omega)
    by_cases c : (rd_T83 l i).f0 ≤ u
    · rw [if_pos c]
      have := hf.1 c
      refine ih k (i + 1) i (by omega) (by omega) (by omega) ?_
      by_cases q : findS l u < i + 1
      · rw [if_pos q]; omega
      · rw [if_neg q]; omega
    · rw [if_neg c]
      have := mt hf.2 c
      refine ih k (i + 1) acc (by omega) (by omega) (by omega) ?_
      rw [ha, if_pos (by omega), if_pos (by omega)]
theorem refFind_eq {l : List S83} (R : BandsP l) (u : Int) (k : Nat) (hk : 20 ≤ k) : governorref11_Find.f k l u = some (findS l u) := by
  have n8 := R.n8
  have hin := findS_in l u
  exact refFind_loop (bands_sorted R) R.n8 u l.length k 0 (-1) (Int.le_refl _) (by omega) (by omega) (by by_cases q : findS l u < 0; · rw [if_pos q]; omega
                                                                                                         · rw [if_neg q]; omega)
theorem stepFind_eq {l : List S83} (hs : SortedS l) (u : Int) : step_Find.f l u = some (findS l u) := by
  unfold step_Find.f; rw [if_pos hs]
theorem stepWant_eq {l : List S83} (hs : SortedS l) (c u : Int) : step_Want.f l c u = some (if findS l u ≥ 0 then cl0 (wrap64 (cl0 c + (rd_T83 l (findS l u)).f1)) else cl0 c) := by
  unfold step_Want.f; rw [if_pos hs]
theorem cl0_in (n : Int) : 0 ≤ cl0 n ∧ cl0 n ≤ 1000 := by unfold cl0 mx mn; omega
theorem cl0_mono {m n : Int} (h : m ≤ n) : cl0 m ≤ cl0 n := by unfold cl0 mx mn; omega
theorem cl0_same {n : Int} (h0 : 0 ≤ n) (h1 : n ≤ 1000) : cl0 n = n := by unfold cl0 mx mn; omega
theorem stepRef_eq {l : List S83} (R : BandsP l) (c u : Int) (k : Nat) (hk : 20 ≤ k) : governorref11_Want.f k l c u = step_Want.f l c u := by
  have hin := findS_in l u
  unfold governorref11_Want.f
  rw [refFind_eq R u k hk, stepWant_eq (bands_sorted R)]
  simp only [Option.bind_some]
  have e : mn (mx c 0) 1000 = cl0 c := by unfold cl0 mx mn; omega
  have e2 : ∀ n, mn (mx n 0) 1000 = cl0 n := fun n => by unfold cl0 mx mn; omega
  rw [e]
  by_cases q : findS l u ≥ 0
  · rw [if_pos q, if_pos q, if_pos q, if_pos (by omega), e2]
  · rw [if_neg q, if_neg q, e2, cl0_same (cl0_in c).1 (cl0_in c).2]
theorem satI_0 : satI 0 = 0 := satI_in (by omega) (by omega)
theorem satI_satI (n : Int) : satI (satI n) = satI n := satI_in (satI_lo n) (satI_hi n)
theorem satI_neg (n : Int) : satI (-n) = -satI n := by unfold satI mx mn; omega
theorem mulI_neg (a b : Int) : mulI a (-b) = -mulI a b := by
  unfold mulI
  rw [Int.mul_neg, Int.neg_tdiv]
theorem mulI_0 (a : Int) : mulI a 0 = 0 := by unfold mulI; simp
theorem mulI_0l (a : Int) : mulI 0 a = 0 := by unfold mulI; simp
theorem nearI_neg (n : Int) : nearI (-n) = -nearI n := by
  unfold nearI
  by_cases h : n < 0
  · rw [if_pos h, if_neg (by omega), Int.neg_neg]
  · by_cases q : n = 0
    · subst q; decide
    · rw [if_neg h, if_pos (by omega), Int.neg_neg]
theorem nearI_0 : nearI 0 = 0 := by decide
/-- What is off, what has changed, and the answer. -/
def errI (t u : Int) : Int := satI (satI u - satI t)
def sumI (s e : Int) : Int := satI (satI s + satI e)
def chgI (h : Bool) (p e : Int) : Int := if h = true then satI (satI e - satI p) else 0
def pidW (kp ki kd e s c : Int) : Int := satI (satI (satI (satI (satI (mulI (satI kp) (satI e))) + satI (satI (mulI (satI ki) (satI s))))) + satI (satI (mulI (satI kd) (satI c))))
def pidN (kp ki kd e s c : Int) : Int := mx (-1000) (mn 1000 (nearI (satI (pidW kp ki kd e s c))))
theorem errI_in (t u : Int) : -1000000000 ≤ errI t u ∧ errI t u ≤ 1000000000 := ⟨satI_lo _, satI_hi _⟩
theorem sumI_in (t u : Int) : -1000000000 ≤ sumI t u ∧ sumI t u ≤ 1000000000 := ⟨satI_lo _, satI_hi _⟩
theorem pidN_in (kp ki kd e s c : Int) : -1000 ≤ pidN kp ki kd e s c ∧ pidN kp ki kd e s c ≤ 1000 := by unfold pidN mx mn; omega
theorem weighed_eq (k : Nat) (a b c : S96) : pid_weighed.f (k + 4) [a, b, c] = some (satI (satI (satI (satI (satI (mulI (satI a.f0) (satI a.f1))) + satI (satI (mulI (satI b.f0) (satI b.f1))))) + satI (satI (mulI (satI c.f0) (satI c.f1))))) := by
  have hA : ∀ a b, fixed_Add.f a b = some (satI (satI a + satI b)) := fun _ _ => rfl
  have hM : ∀ a b, fixed_Mul.f a b = some (satI (mulI (satI a) (satI b))) := fun _ _ => rfl
  have w1 : wrap64 (0 + 1) = 1 := wr (by omega) (by omega)
  have w2 : wrap64 (1 + 1) = 2 := wr (by omega) (by omega)
  have w3 : wrap64 (2 + 1) = 3 := wr (by omega) (by omega)
  have l3 : ((([a, b, c] : List S96).length : Nat) : Int) = 3 := rfl
  have r0 : rd_T96 [a, b, c] 0 = a := rfl
  have r1 : rd_T96 [a, b, c] 1 = b := rfl
  have r2 : rd_T96 [a, b, c] 2 = c := rfl
  unfold pid_weighed.f
  rw [l3]
  simp only [pid_weighed.l0, l3, hA, hM, w1, w2, w3, r0, r1, r2, Option.bind_some]
  rw [if_pos (by omega), if_pos (by omega), if_pos (by omega), if_pos (by omega), if_pos (by omega), if_pos (by omega), if_pos (by omega), if_pos (by omega), if_pos (by omega), if_neg (by omega)]
  simp only [satI_satI, satI_0, Int.zero_add]
theorem pid_eq (k : Nat) (m t : Int) (lb : List S83) (kp ki kd x : Int) (lw : List S71) (s p : Int) (h : Bool) (u : Int) :
    pid_Next.f (k + 4) m t lb kp ki kd x lw s p h u = some (sumI s (errI t u), errI t u, true, pidN kp ki kd (errI t u) (sumI s (errI t u)) (chgI h p (errI t u))) := by
  have hA : ∀ a b, fixed_Add.f a b = some (satI (satI a + satI b)) := fun _ _ => rfl
  have hS : ∀ a b, fixed_Sub.f a b = some (satI (satI a - satI b)) := fun _ _ => rfl
  have hN : ∀ a, fixed_Near.f a = some (nearI (satI a)) := fun _ => rfl
  unfold pid_Next.f
  cases h <;> simp only [hA, hS, hN, weighed_eq, Option.bind_some, reduceIte, Bool.false_eq_true] <;> simp [sumI, errI, pidN, pidW, chgI]
theorem pid_eqk {k : Nat} (hk : 4 ≤ k) (m t : Int) (lb : List S83) (kp ki kd x : Int) (lw : List S71) (s p : Int) (h : Bool) (u : Int) :
    pid_Next.f k m t lb kp ki kd x lw s p h u = some (sumI s (errI t u), errI t u, true, pidN kp ki kd (errI t u) (sumI s (errI t u)) (chgI h p (errI t u))) := by
  obtain ⟨k, rfl⟩ : ∃ m, k = m + 4 := ⟨k - 4, by omega⟩
  exact pid_eq k m t lb kp ki kd x lw s p h u
theorem refPid_eq (k : Nat) (m t : Int) (lb : List S83) (kp ki kd x : Int) (lw : List S71) (s p : Int) (h : Bool) (u : Int) :
    governorref12_Next.f (k + 1) m t lb kp ki kd x lw s p h u = some (sumI s (errI t u), errI t u, true, pidN kp ki kd (errI t u) (sumI s (errI t u)) (chgI h p (errI t u))) := by
  have hA : ∀ a b, fixed_Add.f a b = some (satI (satI a + satI b)) := fun _ _ => rfl
  have hS : ∀ a b, fixed_Sub.f a b = some (satI (satI a - satI b)) := fun _ _ => rfl
  have hM : ∀ a b, fixed_Mul.f a b = some (satI (mulI (satI a) (satI b))) := fun _ _ => rfl
  have hN : ∀ a, fixed_Near.f a = some (nearI (satI a)) := fun _ => rfl
  have e : ∀ n, mn (mx n (-1000)) 1000 = mx (-1000) (mn 1000 n) := fun n => by unfold mx mn; omega
  unfold governorref12_Next.f
  cases h <;> simp only [governorref12_Next.j0, refAdd_eq, refSub_eq, refMul_eq, refNear_eq, hA, hS, hM, hN, e, Option.bind_some, reduceIte, Bool.false_eq_true] <;> simp [sumI, errI, pidN, pidW, chgI]
theorem none_some (a : Int) (b : Int) (c : List S83) (d e f g : Int) (h : List S71) (x1 x2 x3 x4 : Bool) : ∃ r, governorref09_none.f a b c d e f g h x1 x2 x3 x4 = some r := by
  unfold governorref09_none.f
  repeat' split
  all_goals exact ⟨_, rfl⟩
/-- WHAT THE GUARD SAYS. -/
structure PolP (kind : Int) (lb : List S83) (period : Int) (ls : List S71) : Prop where
  b8 : lb.length ≤ 8
  s8 : ls.length ≤ 8
  bands : kind = 2 → BandsP lb
  slots : kind = 4 → RightP period ls
theorem policyR_tells (kd tg : Int) (lb : List S83) (kp ki kdd pe : Int) (ls : List S71) (k : Nat) (hk : 20 ≤ k) (h8 : lb.length ≤ 8) (h9 : ls.length ≤ 8) :
    ∃ b, governorref09_Policy.f k kd tg lb kp ki kdd pe ls = some b ∧ (b = true → (kd = 2 → BandsP lb) ∧ (kd = 4 → RightP pe ls)) := by
  unfold governorref09_Policy.f
  simp only [withinS_eq, Option.bind_some]
  by_cases h1 : kd = 1
  · rw [if_pos h1]
    obtain ⟨r, hr⟩ := none_some kd tg lb kp ki kdd pe ls false true true true
    rw [hr]
    split
    · exact ⟨r, rfl, fun _ => ⟨fun h => by omega, fun h => by omega⟩⟩
    · exact ⟨false, rfl, fun h => by cases h⟩
  · rw [if_neg h1]
    by_cases h2 : kd = 2
    · rw [if_pos h2]
      obtain ⟨b, hb, hP⟩ := bands_tells lb k hk h8
      obtain ⟨r, hr⟩ := none_some kd tg lb kp ki kdd pe ls true false true true
      rw [hb, hr]
      cases b
      · exact ⟨false, by simp, fun h => by cases h⟩
      · exact ⟨r, by simp, fun _ => ⟨fun _ => hP rfl, fun h => by omega⟩⟩
    · rw [if_neg h2]
      by_cases h3 : kd = 3
      · rw [if_pos h3]
        obtain ⟨r, hr⟩ := none_some kd tg lb kp ki kdd pe ls false true false true
        rw [hr]
        repeat' split
        all_goals first | exact ⟨r, rfl, fun _ => ⟨fun h => by omega, fun h => by omega⟩⟩ | exact ⟨false, rfl, fun h => by cases h⟩
      · rw [if_neg h3]
        by_cases h4 : kd = 4
        · rw [if_pos h4]
          obtain ⟨b, hb, hP⟩ := slots_tells ls pe k hk h9
          obtain ⟨r, hr⟩ := none_some kd tg lb kp ki kdd pe ls true true true false
          rw [hb, hr]
          cases b
          · exact ⟨false, by simp, fun h => by cases h⟩
          · exact ⟨r, by simp, fun _ => ⟨fun h => by omega, fun _ => hP rfl⟩⟩
        · rw [if_neg h4]
          exact ⟨false, rfl, fun h => by cases h⟩
theorem polRight_tells (kd tg : Int) (lb : List S83) (kp ki kdd pe : Int) (ls : List S71) (k : Nat) (hk : 20 ≤ k) :
    ∃ b, governorlaw14_Right.f k kd tg lb kp ki kdd pe ls = some b ∧ (b = true → PolP kd lb pe ls) := by
  unfold governorlaw14_Right.f
  by_cases c1 : (lb.length : Int) ≤ 8
  · rw [if_pos c1]
    by_cases c2 : (ls.length : Int) ≤ 8
    · rw [if_pos c2]
      obtain ⟨b, hb, hP⟩ := policyR_tells kd tg lb kp ki kdd pe ls k hk (by omega) (by omega)
      rw [hb]
      cases b
      · unfold governorref09_Zero.f
        by_cases c3 : kd = 0
        · obtain ⟨r, hr⟩ := none_some kd tg lb kp ki kdd pe ls true true true true
          rw [if_pos c3, hr]
          exact ⟨r, by simp, fun _ => ⟨by omega, by omega, fun h => by omega, fun h => by omega⟩⟩
        · rw [if_neg c3]
          exact ⟨false, by simp, fun h => by cases h⟩
      · exact ⟨true, by simp, fun h => ⟨by omega, by omega, (hP rfl).1, (hP rfl).2⟩⟩
    · rw [if_neg c2]; exact ⟨false, rfl, fun h => by cases h⟩
  · rw [if_neg c1]; exact ⟨false, rfl, fun h => by cases h⟩
theorem backS_in01 {p : Int} {l : List S71} (R : RightP p l) (a : Int) (n : Nat) : n ≤ l.length → 0 ≤ backS (l.take n) a ∧ backS (l.take n) a ≤ 1000 := by
  induction n with
  | zero => intro _; rw [List.take_zero, backS_nil]; omega
  | succ n ih =>
    intro h
    have i := ih (by omega)
    have q := R.nn (n : Int) (by omega) (by omega)
    rw [rd_at l n (by omega)] at q
    rw [take_snoc l n (by omega), backS_snoc]
    by_cases c : l[n].f0 ≤ a
    · rw [if_pos c]; exact q
    · rw [if_neg c]; exact i
theorem backS_ok {p : Int} {l : List S71} (R : RightP p l) (a : Int) : 0 ≤ backS l a ∧ backS l a ≤ 1000 := by
  have h := backS_in01 R a l.length (Nat.le_refl _)
  rw [List.take_length] at h
  exact h
/-- WHAT A POLICY CARRIES ON, AND WANTS, of so many (c of them, within bounds). -/
def polR (kd tg : Int) (lb : List S83) (kp ki kdd pe : Int) (ls : List S71) (s p : Int) (h : Bool) (c u t : Int) : Int × Int × Bool × Int :=
  if kd = 1 then (s, p, h, FT (cl tg 1 1000000000) (c * cl u 0 1000000000))
  else if kd = 2 then (s, p, h, if findS lb u ≥ 0 then cl0 (wrap64 (c + (rd_T83 lb (findS lb u)).f1)) else c)
  else if kd = 3 then (sumI s (errI tg u), errI tg u, true, cl0 (wrap64 (c + pidN kp ki kdd (errI tg u) (sumI s (errI tg u)) (chgI h p (errI tg u)))))
  else if kd = 4 then (s, p, h, backS ls (t % pe))
  else (s, p, h, c)
theorem cl_cl0 (n : Int) : mn (mx n 0) 1000 = cl0 n := by unfold cl0 mx mn; omega
theorem clT_cl0 (n : Int) : cl n 0 1000 = cl0 n := by unfold cl cl0 mx mn; omega
theorem cl0_cl0 (n : Int) : cl0 (cl0 n) = cl0 n := cl0_same (cl0_in n).1 (cl0_in n).2
theorem trackRef_eq (k t c u : Int) (n : Nat) (hn : 20 ≤ n) : governorref10_Want.f n t c u = some (FT (cl t 1 1000000000) (cl c 0 1000 * cl u 0 1000000000)) := by
  obtain ⟨n, rfl⟩ : ∃ m, n = m + 1 + 1 := ⟨n - 2, by omega⟩
  have hc := cl_in c 0 1000 (by decide)
  have hu := cl_in u 0 1000000000 (by decide)
  have ht := cl_in t 1 1000000000 (by decide)
  rw [← trackWant_eq]
  unfold governorref10_Want.f track_Want.f
  simp only [into_eq c 0 1000 (by decide), into64_eq u 0 1000000000 (by decide), into64_eq t 1 1000000000 (by decide), Option.bind_some]
  rw [show mn (mx c 0) 1000 = cl c 0 1000 from rfl, show mn (mx u 0) 1000000000 = cl u 0 1000000000 from rfl, show mn (mx t 1) 1000000000 = cl t 1 1000000000 from rfl]
  rw [wr (n := 1000 * cl c 0 1000) (by omega) (by omega), refMul_eq]
  have M : ∀ a b, fixed_Mul.f a b = some (satI (mulI (satI a) (satI b))) := fun _ _ => rfl
  have D : ∀ a b, fixed_Div.f a b = some (satI (divI (satI a) (satI b))) := fun _ _ => rfl
  have DR : ∀ a b, governorref08_Div.f (n + 1 + 1) a b = some (satI (divI (satI a) (satI b))) := fun a b => refDiv_eq n a b
  simp only [M, D, DR, refUp_eq, up_eq, Option.bind_some, into_eq _ 0 1000 (by decide)]
  rfl
theorem trackF_in (tg c u : Int) (hc : 0 ≤ c) : 0 ≤ FT (cl tg 1 1000000000) (c * cl u 0 1000000000) ∧ FT (cl tg 1 1000000000) (c * cl u 0 1000000000) ≤ 1000 :=
  FT_in (cl_in tg 1 1000000000 (by decide)).1 (Int.mul_nonneg hc (cl_in u 0 1000000000 (by decide)).1)
theorem polR_in {kd : Int} {lb : List S83} {pe : Int} {ls : List S71} (R : PolP kd lb pe ls) (tg kp ki kdd s p : Int) (h : Bool) (c u t : Int) (c0 : 0 ≤ c) (c1 : c ≤ 1000) :
    0 ≤ (polR kd tg lb kp ki kdd pe ls s p h c u t).2.2.2 ∧ (polR kd tg lb kp ki kdd pe ls s p h c u t).2.2.2 ≤ 1000 := by
  unfold polR
  by_cases h1 : kd = 1
  · rw [if_pos h1]; exact trackF_in tg c u c0
  · rw [if_neg h1]
    by_cases h2 : kd = 2
    · rw [if_pos h2]
      show 0 ≤ (if findS lb u ≥ 0 then _ else _) ∧ (if findS lb u ≥ 0 then _ else _) ≤ 1000
      by_cases q : findS lb u ≥ 0
      · rw [if_pos q]; exact cl0_in _
      · rw [if_neg q]; exact ⟨c0, c1⟩
    · rw [if_neg h2]
      by_cases h3 : kd = 3
      · rw [if_pos h3]; exact cl0_in _
      · rw [if_neg h3]
        by_cases h4 : kd = 4
        · rw [if_pos h4]; exact backS_ok (R.slots h4) _
        · rw [if_neg h4]; exact ⟨c0, c1⟩
theorem polNext_eq {kd : Int} {lb : List S83} {pe : Int} {ls : List S71} (R : PolP kd lb pe ls) (tg kp ki kdd s p : Int) (h : Bool) (c u t : Int) (k : Nat) (hk : 20 ≤ k) :
    policy_Next.f k kd tg lb kp ki kdd pe ls s p h c u t = some (polR kd tg lb kp ki kdd pe ls s p h (cl0 c) u t) := by
  have c0 := cl0_in c
  unfold policy_Next.f polR
  by_cases h1 : kd = 1
  · rw [if_pos h1, if_pos h1]
    unfold policy_kinds_1.f
    have b := trackF_in tg (cl0 c) u c0.1
    simp only [trackWant_eq, clT_cl0, cl0_cl0, Option.bind_some]
    rw [cl0_same b.1 b.2]
  · rw [if_neg h1, if_neg h1]
    by_cases h2 : kd = 2
    · rw [if_pos h2, if_pos h2]
      unfold policy_kinds_2.f
      simp only [stepWant_eq (bands_sorted (R.bands h2)), cl0_cl0, Option.bind_some]
      by_cases q : findS lb u ≥ 0
      · simp only [if_pos q, cl0_cl0]
      · simp only [if_neg q, cl0_cl0]
    · rw [if_neg h2, if_neg h2]
      by_cases h3 : kd = 3
      · rw [if_pos h3, if_pos h3]
        unfold policy_kinds_3.f
        simp only [@pid_eqk k (by omega), Option.bind_some]
      · rw [if_neg h3, if_neg h3]
        by_cases h4 : kd = 4
        · have S := R.slots h4
          have b := backS_ok S (t % pe)
          rw [if_pos h4, if_pos h4]
          unfold policy_kinds_4.f
          simp only [schedWant_eq S.p1 S.p2, Option.bind_some]
          rw [cl0_same b.1 b.2]
        · rw [if_neg h4, if_neg h4, cl0_cl0]
theorem polRef_eq {kd : Int} {lb : List S83} {pe : Int} {ls : List S71} (R : PolP kd lb pe ls) (tg kp ki kdd s p : Int) (h : Bool) (c u t : Int) (k : Nat) (hk : 20 ≤ k) :
    governorref14_Next.f k kd tg lb kp ki kdd pe ls s p h c u t = some (polR kd tg lb kp ki kdd pe ls s p h (cl0 c) u t) := by
  have c0 := cl0_in c
  unfold governorref14_Next.f polR
  simp only [cl_cl0]
  by_cases h1 : kd = 1
  · rw [if_pos h1, if_pos h1]
    have b := trackF_in tg (cl0 c) u c0.1
    simp only [trackRef_eq 0 tg (cl0 c) u k hk, clT_cl0, cl0_cl0, Option.bind_some]
    rw [cl0_same b.1 b.2]
  · rw [if_neg h1, if_neg h1]
    by_cases h2 : kd = 2
    · rw [if_pos h2, if_pos h2]
      simp only [stepRef_eq (R.bands h2) (cl0 c) u k hk, stepWant_eq (bands_sorted (R.bands h2)), cl0_cl0, Option.bind_some]
      by_cases q : findS lb u ≥ 0
      · simp only [if_pos q, cl0_cl0]
      · simp only [if_neg q, cl0_cl0]
    · rw [if_neg h2, if_neg h2]
      by_cases h3 : kd = 3
      · rw [if_pos h3, if_pos h3]
        obtain ⟨k, rfl⟩ : ∃ m, k = m + 1 := ⟨k - 1, by omega⟩
        simp only [refPid_eq, Option.bind_some]
      · rw [if_neg h3, if_neg h3]
        by_cases h4 : kd = 4
        · have S := R.slots h4
          have b := backS_ok S (t % pe)
          rw [if_pos h4, if_pos h4]
          simp only [schedRef_eq S.n8 hk S.p1 S.p2, Option.bind_some]
          rw [cl0_same b.1 b.2]
        · rw [if_neg h4, if_neg h4, cl0_cl0]
end Go.Proofs.Ytgeldfjpafimpaa.PAll
