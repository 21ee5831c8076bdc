import Derived.Test.YtgeldfjpafimpaaCBase
import Derived.Test.YtgeldfjpafimpaaCPlNum
import Derived.Test.YtgeldfjpafimpaaCPlant
import Derived.Test.YtgeldfjpafimpaaCPlant2
import Derived.Test.YtgeldfjpafimpaaCPlant3
import Derived.Test.YtgeldfjpafimpaaPAllx0
import Derived.Test.YtgeldfjpafimpaaPAllx10
import Derived.Test.YtgeldfjpafimpaaPAllx11
import Derived.Test.YtgeldfjpafimpaaPAllx12
import Derived.Test.YtgeldfjpafimpaaPAllx17
import Derived.Test.YtgeldfjpafimpaaPAllx19
import Derived.Test.YtgeldfjpafimpaaPAllx20
import Derived.Test.YtgeldfjpafimpaaPAllx7
import Derived.Test.YtgeldfjpafimpaaPAllx8
import Derived.Test.YtgeldfjpafimpaaPAllx9
namespace Go.Proofs.Ytgeldfjpafimpaa.PAll
open Go.RowKit Go.Proofs.YtgeldfjpafimpaaW.PrintWords Go.Proofs.YtgeldfjpafimpaaW.PrintLast Go.Proofs.YtgeldfjpafimpaaW.PrintMore
set_option linter.unusedVariables false
set_option linter.unusedSimpArgs false
/-! ### a step of a plant that may be -/
structure CfP (delay cap slack : Int) : Prop where
  d0 : 0 ≤ delay
  d8 : delay ≤ 8
  c1 : 1 ≤ cap
  c6 : cap ≤ 1000000
  s0 : 0 ≤ slack
  s9 : slack ≤ 1000000000
theorem conf_pl {a0 a1 a2 a3 a4 a5 a6 a7 a8 a9 a10 a11 : Int} (h : (cfSize a0 a1 a2 && (cfPlant a3 a4 a5 a6 && cfJudge a7 a8 a9 a10 a11)) = true) : CfP a5 a4 a6 := by
  simp only [cfSize, cfPlant, wB, Bool.and_eq_true, decide_eq_true_eq] at h
  obtain ⟨_, ⟨_, ⟨h1, h2⟩, h3, h4, h5, h6⟩, _⟩ := h
  exact ⟨h3, h4, h1, h2, h5, h6⟩
theorem tick_spec {R wt ut : Int} {l : List Int} (P : PR R l wt ut) : 0 ≤ readyL R l ∧ Small (l.drop 1) ∧ (l.drop 1).length ≤ 8 ∧ readyL R l + (l.drop 1).sum = R + l.sum ∧ readyL R l = (match l with | [] => R | x :: _ => R + x) := by
  have h0 := P.r0
  have h1 := P.r1
  have hl := P.len
  refine ⟨?_, small_drop P.sm 1, by rw [List.length_drop]; omega, ?_, ?_⟩
  all_goals
    cases l with
    | nil =>
      have e : readyL R [] = R := by simp [readyL]
      rw [e]
      all_goals first | exact h0 | rfl
    | cons x l =>
      have hx := (small_cons.1 P.sm).1
      have e : readyL R (x :: l) = R + x := by
        unfold readyL
        rw [if_pos (by simp), show rd (x :: l) 0 = x from rfl, wr (by omega) (by omega)]
      rw [e]
      all_goals first | omega | (rw [List.sum_cons]; simp only [List.drop_succ_cons, List.drop_zero]; omega) | rfl
def nW (want : Int) : Int := mx 0 (mn want 1000)
theorem nW_in (want : Int) : 0 ≤ nW want ∧ nW want ≤ 1000 := by unfold nW mx mn; omega
def demI (x : Int) : Int := mx 0 (mn x 1000000)
theorem demI_in (x : Int) : 0 ≤ demI x ∧ demI x ≤ 1000000 := by unfold demI mx mn; omega
def todoI (wt dem : Int) : Int := mn (wt + demI dem) 1000000000
theorem todo_eq {wt : Int} (h0 : 0 ≤ wt) (h1 : wt ≤ 1000000000) (dem : Int) : satI (satI wt + satI (demI dem)) = todoI wt dem := by
  have := demI_in dem
  rw [satI_in (n := wt) (by omega) (by omega), satI_in (n := demI dem) (by omega) (by omega)]
  unfold satI todoI mx mn
  (repeat' split) <;> omega
theorem todo_in {wt : Int} (h0 : 0 ≤ wt) (dem : Int) : 0 ≤ todoI wt dem ∧ todoI wt dem ≤ 1000000000 := by
  have := demI_in dem
  unfold todoI mn
  split <;> omega
/-- What a step leaves: ready and begun (s), what waits, how full it was. -/
def stS (R : Int) (l : List Int) (delay want : Int) : Int × List Int := sizedL (readyL R l) delay (nW want - (R + l.sum)) (l.drop 1)
def canI (R : Int) (l : List Int) (delay want cap : Int) : Int := (stS R l delay want).1 * cap
def waitI (R : Int) (l : List Int) (delay want cap wt dem : Int) : Int := mx 0 (todoI wt dem - canI R l delay want cap)
def utilI (R : Int) (l : List Int) (delay want cap wt dem : Int) : Int := satI (divI (todoI wt dem) (canI R l delay want cap))
theorem stS_spec {R wt ut delay cap slack : Int} {l : List Int} (P : PR R l wt ut) (C : CfP delay cap slack) (want : Int) : SzP (nW want) (stS R l delay want) := by
  obtain ⟨a1, a2, a3, a4, _⟩ := tick_spec P
  have hn := nW_in want
  have h := P.all
  have hs := sized_spec (n := nW want) a1 a2 a3 C.d0 C.d8 (by omega) hn.1 hn.2
  unfold stS
  rw [a4] at hs
  exact hs
theorem can_in {R wt ut delay cap slack : Int} {l : List Int} (P : PR R l wt ut) (C : CfP delay cap slack) (want : Int) : 0 ≤ canI R l delay want cap ∧ canI R l delay want cap ≤ 1000000000 := by
  have S := stS_spec P C want
  have h1 := S.r0
  have h2 := S.r1
  have c1 := C.c1
  have c2 := C.c6
  unfold canI
  refine ⟨Int.mul_nonneg h1 (by omega), ?_⟩
  have a := Int.mul_le_mul h2 c2 (by omega) (by omega : (0 : Int) ≤ 1000)
  omega
theorem step_eq {R wt ut delay cap slack : Int} {l : List Int} (P : PR R l wt ut) (C : CfP delay cap slack) (want dem c0 c1 c2 c3 c7 c8 c9 c10 c11 : Int) :
    plant_Step.f c0 c1 c2 c3 cap delay slack c7 c8 c9 c10 c11 R l wt ut want dem = some ((stS R l delay want).1, trimL (stS R l delay want).2, waitI R l delay want cap wt dem, utilI R l delay want cap wt dem, nW want, decide (slack < waitI R l delay want cap wt dem)) := by
  obtain ⟨a1, a2, a3, a4, _⟩ := tick_spec P
  have hn := nW_in want
  have hall := P.all
  have hlen := P.len
  have S := stS_spec P C want
  have K := can_in P C want
  have T := todo_in P.w0 dem
  have hsn := sum_nonneg a2
  unfold plant_Step.f
  rw [if_pos ⟨P.len, C.d0, C.d8⟩]
  have em : moreL (readyL R l) want (l.drop 1) = nW want - (R + l.sum) := by
    unfold moreL
    rw [allL_eq a2 a1 (by omega) (by omega), a4, show mx 0 (mn want 1000) = nW want from rfl, wr (by omega) (by omega)]
  simp only [em]
  rw [show sizedL (readyL R l) delay (nW want - (R + l.sum)) (l.drop 1) = stS R l delay want from rfl]
  have e1 : fixed_Add.f wt (mx 0 (mn dem 1000000)) = some (todoI wt dem) := by
    show some (satI (satI wt + satI (demI dem))) = _
    rw [todo_eq P.w0 P.w1]
  have e2 : fixed_Sat.f (wrap64 ((stS R l delay want).1 * cap)) = some (canI R l delay want cap) := by
    show some (satI (wrap64 (canI R l delay want cap))) = _
    rw [wr (by omega) (by omega), satI_in (by omega) (by omega)]
  have e3 : fixed_Div.f (todoI wt dem) (canI R l delay want cap) = some (utilI R l delay want cap wt dem) := by
    show some (satI (divI (satI _) (satI _))) = _
    rw [satI_in (n := todoI wt dem) (by omega) (by omega), satI_in (n := canI R l delay want cap) (by omega) (by omega)]
    rfl
  rw [e1]
  simp only [Option.bind_some]
  rw [e2]
  simp only [Option.bind_some]
  rw [e3]
  simp only [Option.bind_some]
  rw [wr (n := todoI wt dem - canI R l delay want cap) (by omega) (by omega), allL_eq (trimL_small S.sm) S.r0 (by have := S.r1; omega) (by have := trimL_length (stS R l delay want).2; have := S.len; omega), trimL_sum, S.all]
  rfl
theorem rstep_eq {R wt ut delay cap slack : Int} {l : List Int} (P : PR R l wt ut) (C : CfP delay cap slack) (want dem c0 c1 c2 c3 c7 c8 c9 c10 c11 : Int) (k : Nat) (hk : 40 ≤ k) :
    governorref16_Step.f k c0 c1 c2 c3 cap delay slack c7 c8 c9 c10 c11 R l wt ut want dem = plant_Step.f c0 c1 c2 c3 cap delay slack c7 c8 c9 c10 c11 R l wt ut want dem := by
  rw [step_eq P C]
  obtain ⟨a1, a2, a3, a4, _⟩ := tick_spec P
  have hn := nW_in want
  have hall := P.all
  have hlen := P.len
  have S := stS_spec P C want
  have K := can_in P C want
  have T := todo_in P.w0 dem
  have hsn := sum_nonneg a2
  obtain ⟨k, rfl⟩ : ∃ q, k = q + 1 := ⟨k - 1, by omega⟩
  have key : governorref16_Step.j0 (k + 1) want dem c0 c1 c2 c3 cap delay slack c7 c8 c9 c10 c11 (readyL R l) (l.drop 1) wt 0 = some ((stS R l delay want).1, trimL (stS R l delay want).2, waitI R l delay want cap wt dem, utilI R l delay want cap wt dem, nW want, decide (slack < waitI R l delay want cap wt dem)) := by
    obtain ⟨l', e1, e2, e3⟩ := rsized_eq (R := readyL R l) (l := l.drop 1) (d := delay) (n := nW want) (wt := wt) (ut := 0) a1 a2 a3 C.d0 C.d8 (by omega) hn.1 hn.2 k (by omega)
    rw [a4] at e1 e2
    rw [show sizedL (readyL R l) delay (nW want - (R + l.sum)) (l.drop 1) = stS R l delay want from rfl] at e1 e2
    rw [governorref16_Step.j0, show mn (mx want 0) 1000 = nW want from (clamp_eq0 _ _ (by decide)).symm, e1]
    simp only [Option.bind_some]
    have ed : mn (mx dem 0) 1000000 = demI dem := by unfold demI mx mn; (repeat' split) <;> omega
    have e4 : governorref08_Add.f wt (demI dem) = some (todoI wt dem) := by
      rw [refAdd_eq]
      show some (satI (satI wt + satI (demI dem))) = _
      rw [todo_eq P.w0 P.w1]
    rw [ed, e4]
    simp only [Option.bind_some]
    have e5 : mn (wrap64 ((stS R l delay want).1 * cap)) 1000000000 = canI R l delay want cap := by
      rw [show (stS R l delay want).1 * cap = canI R l delay want cap from rfl, wr (by omega) (by omega)]
      unfold mn
      split <;> omega
    rw [e5]
    obtain ⟨q, rfl⟩ : ∃ q, k = q + 1 + 1 := ⟨k - 2, by omega⟩
    rw [refDiv_eq]
    have e6 : fixed_Div.f (todoI wt dem) (canI R l delay want cap) = some (utilI R l delay want cap wt dem) := by
      show some (satI (divI (satI _) (satI _))) = _
      rw [satI_in (n := todoI wt dem) (by omega) (by omega), satI_in (n := canI R l delay want cap) (by omega) (by omega)]
      rfl
    rw [e6]
    simp only [Option.bind_some]
    rw [wr (n := todoI wt dem - canI R l delay want cap) (by omega) (by omega)]
    have e7 : mx (todoI wt dem - canI R l delay want cap) 0 = waitI R l delay want cap wt dem := by unfold waitI mx; (repeat' split) <;> omega
    rw [e7, rtrim_loop c0 c1 c2 c3 cap delay slack c7 c8 c9 c10 c11 _ _ _ l'.length l' (q + 1 + 1) rfl e3 (by omega), e2, allL_eq (trimL_small S.sm) S.r0 (by have := S.r1; omega) (by have := trimL_length (stS R l delay want).2; have := S.len; omega), trimL_sum, S.all]
  unfold governorref16_Step.f
  simp only [Option.bind_some, List.length_nil, List.nil_append, Nat.zero_add]
  rw [if_pos (by omega)]
  by_cases c : 0 < l.length
  · rw [if_pos (by omega), if_pos (by omega), if_pos (by omega)]
    have er : wrap64 (R + rd l 0) = readyL R l := by unfold readyL; rw [if_pos c]
    rw [er]
    exact key
  · have hz : l = [] := List.eq_nil_of_length_eq_zero (by omega)
    subst hz
    rw [if_neg (by simp)]
    exact key
/-! ### alike -/
theorem same_loop (l : List Int) (R wt ut R2 wt2 ut2 : Int) (hl : l.length < 9000000000000000000) : ∀ (d j k : Nat), l.length = j + d → d < k → governorref16_Same.l0 k (j : Int) R l wt ut R2 l wt2 ut2 = some true := by
  intro d
  induction d with
  | zero =>
    intro j k h hk
    obtain ⟨k, rfl⟩ : ∃ q, k = q + 1 := ⟨k - 1, by omega⟩
    rw [governorref16_Same.l0, if_neg (by omega)]
  | succ d ih =>
    intro j k h hk
    obtain ⟨k, rfl⟩ : ∃ q, k = q + 1 := ⟨k - 1, by omega⟩
    rw [governorref16_Same.l0, if_pos (by omega), if_pos (by omega), if_pos (by omega), if_pos rfl]
    have e : wrap64 ((j : Int) + 1) = ((j + 1 : Nat) : Int) := wr (by omega) (by omega)
    rw [e]
    exact ih (j + 1) k (by omega) (by omega)
theorem same_refl (R : Int) (l : List Int) (wt ut : Int) (hl : l.length < 9000000000000000000) (k : Nat) (hk : l.length + 2 ≤ k) : governorref16_Same.f k R l wt ut R l wt ut = some true := by
  obtain ⟨k, rfl⟩ : ∃ q, k = q + 1 := ⟨k - 1, by omega⟩
  unfold governorref16_Same.f
  rw [if_pos rfl, if_pos rfl, if_pos rfl, governorref16_Same.j0, if_neg (by simp)]
  exact same_loop l R wt ut R wt ut hl l.length 0 k (by omega) (by omega)
theorem util_in (a b : Int) (ha : 0 ≤ a) (hb : 0 ≤ b) : 0 ≤ satI (divI a b) ∧ satI (divI a b) ≤ 1000000000 := by
  have h1 := satI_hi (divI a b)
  refine ⟨?_, h1⟩
  have h : 0 ≤ divI a b := by
    unfold divI
    by_cases c : b = 0
    · rw [if_pos c]
      by_cases c2 : a = 0
      · rw [if_pos c2]; omega
      · rw [if_neg c2]; omega
    · rw [if_neg c, tdiv_pos (by omega)]
      exact Int.ediv_nonneg (by omega) hb
  unfold satI mx mn
  (repeat' split) <;> omega
/-- The plant may be, behind a step. -/
theorem step_right {R wt ut delay cap slack : Int} {l : List Int} (P : PR R l wt ut) (C : CfP delay cap slack) (want dem : Int) :
    PR (stS R l delay want).1 (trimL (stS R l delay want).2) (waitI R l delay want cap wt dem) (utilI R l delay want cap wt dem) := by
  have S := stS_spec P C want
  have K := can_in P C want
  have T := todo_in P.w0 dem
  have hn := nW_in want
  have hl := trimL_length (stS R l delay want).2
  have hlen := S.len
  have hall := S.all
  have U := util_in (todoI wt dem) (canI R l delay want cap) T.1 K.1
  refine ⟨S.r0, S.r1, by omega, trimL_small S.sm, ?_, ?_, U.1, U.2, by rw [trimL_sum]; omega⟩
  · unfold waitI mx; split <;> omega
  · unfold waitI mx; split <;> omega
end Go.Proofs.Ytgeldfjpafimpaa.PAll
