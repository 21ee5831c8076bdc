/- The law PlantDelay: what begins is ready Delay steps later, and not ahead of that, if as many are wanted on. -/
import Derived.Test.YtgeldfjpafimpaaCBase
import Derived.Test.YtgeldfjpafimpaaCPlHead
import Derived.Test.YtgeldfjpafimpaaCPlant
import Derived.Test.YtgeldfjpafimpaaCPlant4
import Derived.Test.YtgeldfjpafimpaaPAllx0
import Derived.Test.YtgeldfjpafimpaaPAllx11
import Derived.Test.YtgeldfjpafimpaaPAllx13
import Derived.Test.YtgeldfjpafimpaaPAllx15
import Derived.Test.YtgeldfjpafimpaaPAllx17
import Derived.Test.YtgeldfjpafimpaaPAllx23
import Derived.Test.YtgeldfjpafimpaaPAllx4
import Derived.Test.YtgeldfjpafimpaaWkPlantDelay
namespace Go.Proofs.Ytgeldfjpafimpaa.Pure
open Go.RowKit Go.Proofs.Ytgeldfjpafimpaa.PAll Go.Proofs.YtgeldfjpafimpaaW.PrintWords Go.Proofs.YtgeldfjpafimpaaW.PrintLast Go.Proofs.YtgeldfjpafimpaaW.PrintMore
set_option linter.unusedVariables false
set_option linter.unusedSimpArgs false
/-- What is begun: as many, so many steps from being ready. -/
def Zr (j : Nat) (m : Int) : List Int := if m = 0 then [] else List.replicate j 0 ++ [m]
theorem trim_Zr (j : Nat) (m : Int) : trimL (Zr j m) = Zr j m := by
  unfold Zr
  by_cases c : m = 0
  · rw [if_pos c]; rfl
  · rw [if_neg c, trimL_snoc _ _ c]
theorem sum_Zr (j : Nat) (m : Int) : (Zr j m).sum = m := by
  unfold Zr
  by_cases c : m = 0
  · rw [if_pos c, c]; rfl
  · rw [if_neg c, sum_app, sum_zeros]; simp
theorem set_zeros (m : Int) : ∀ k : Nat, (List.replicate (k + 1) (0 : Int)).set k m = List.replicate k 0 ++ [m]
  | 0 => rfl
  | k + 1 => by rw [List.replicate_succ, List.set_cons_succ, set_zeros m k, List.replicate_succ (n := k)]; rfl
theorem grow_nil {d m : Int} (hd : 1 ≤ d) (hd8 : d ≤ 8) (hm : 1 ≤ m) (hm2 : m ≤ 1000) : growL d m [] = Zr (d - 1).toNat m := by
  obtain ⟨q, rfl⟩ : ∃ q : Nat, d = (q : Int) + 1 := ⟨(d - 1).toNat, by omega⟩
  unfold growL Zr
  simp only [List.length_nil, List.nil_append]
  rw [if_pos (by omega), if_neg (by omega), show ((q : Int) + 1 - (0 : Nat)).toNat = q + 1 by omega, show ((q : Int) + 1 - 1) = (q : Int) by omega, Int.toNat_natCast, rd_get (by simp), List.getElem_replicate, Int.zero_add, wr (by omega) (by omega), set_zeros]
theorem st_first {h m d : Int} (h0 : 0 ≤ h) (h1 : h ≤ 255) (m0 : 0 ≤ m) (m1 : m ≤ 255) (d0 : 0 ≤ d) (d8 : d ≤ 8) : (d = 0 → (stS h [] d (h + m)).1 = h + m ∧ trimL (stS h [] d (h + m)).2 = []) ∧ (1 ≤ d → (stS h [] d (h + m)).1 = h ∧ trimL (stS h [] d (h + m)).2 = Zr (d - 1).toNat m) := by
  have hn : nW (h + m) = h + m := by unfold nW mx mn; omega
  have hr : readyL h [] = h := rfl
  unfold stS sizedL
  rw [hn, hr]
  simp only [List.drop_nil, List.sum_nil, Int.add_zero]
  by_cases c : m = 0
  · rw [if_neg (by omega), if_neg (by omega)]
    exact ⟨fun _ => ⟨by show h = h + m; omega, rfl⟩, fun _ => ⟨rfl, by show trimL [] = _; unfold Zr; rw [if_pos c]; rfl⟩⟩
  · rw [if_pos (by omega)]
    refine ⟨fun hd => ?_, fun hd => ?_⟩
    · rw [if_pos hd, wr (by omega) (by omega)]
      exact ⟨by show h + (h + m - h) = h + m; omega, rfl⟩
    · rw [if_neg (by omega)]
      refine ⟨rfl, ?_⟩
      show trimL (growL d (h + m - h) []) = _
      rw [show h + m - h = m by omega, grow_nil hd d8 (by omega) (by omega), trim_Zr]
theorem st_next {h m d : Int} (h0 : 0 ≤ h) (h1 : h ≤ 255) (m0 : 0 ≤ m) (m1 : m ≤ 255) (j : Nat) : (stS h (Zr (j + 1) m) d (h + m)).1 = h ∧ trimL (stS h (Zr (j + 1) m) d (h + m)).2 = Zr j m := by
  have hn : nW (h + m) = h + m := by unfold nW mx mn; omega
  unfold stS sizedL
  rw [hn, sum_Zr, if_neg (by omega), if_neg (by omega)]
  by_cases c : m = 0
  · have e : Zr (j + 1) m = [] := by unfold Zr; rw [if_pos c]
    have e2 : Zr j m = [] := by unfold Zr; rw [if_pos c]
    rw [e, e2]
    exact ⟨rfl, rfl⟩
  · have e : Zr (j + 1) m = 0 :: Zr j m := by unfold Zr; rw [if_neg c, if_neg c, List.replicate_succ]; rfl
    rw [e]
    refine ⟨?_, ?_⟩
    · show readyL h (0 :: Zr j m) = h
      unfold readyL
      rw [if_pos (by simp), show rd (0 :: Zr j m) 0 = 0 from rfl, Int.add_zero, wr (by omega) (by omega)]
    · show trimL ((0 :: Zr j m).drop 1) = _
      rw [List.drop_succ_cons, List.drop_zero, trim_Zr]
theorem st_last {h m d : Int} (h0 : 0 ≤ h) (h1 : h ≤ 255) (m0 : 0 ≤ m) (m1 : m ≤ 255) : (stS h (Zr 0 m) d (h + m)).1 = h + m ∧ trimL (stS h (Zr 0 m) d (h + m)).2 = [] := by
  have hn : nW (h + m) = h + m := by unfold nW mx mn; omega
  unfold stS sizedL
  rw [hn, sum_Zr, if_neg (by omega), if_neg (by omega)]
  by_cases c : m = 0
  · have e : Zr 0 m = [] := by unfold Zr; rw [if_pos c]
    rw [e]
    exact ⟨by show h = h + m; omega, rfl⟩
  · have e : Zr 0 m = [m] := by unfold Zr; rw [if_neg c]; rfl
    rw [e]
    refine ⟨?_, rfl⟩
    show readyL h [m] = h + m
    unfold readyL
    rw [if_pos (by simp), show rd [m] 0 = m from rfl, wr (by omega) (by omega)]
theorem delay_loop {h m d cap slack : Int} (C : CfP d cap slack) (h0 : 0 ≤ h) (h1 : h ≤ 255) (m0 : 0 ≤ m) (m1 : m ≤ 255) (dem c0 c1 c2 c3 c7 c8 c9 c10 c11 : Int) : ∀ (j : Nat) (i : Int) (wt ut : Int) (k : Nat), i + (j : Int) = d → 1 ≤ i → j + 20 ≤ k → PR h (Zr j m) wt ut →
    governorlaw16_PlantDelay.l0 k h dem true (h + m) i c0 c1 c2 c3 cap d slack c7 c8 c9 c10 c11 h (Zr j m) wt ut = some true := by
  have hd8 := C.d8
  have hn : nW (h + m) = h + m := by unfold nW mx mn; omega
  intro j
  induction j with
  | zero =>
    intro i wt ut k hi h1i hk P
    obtain ⟨k, rfl⟩ : ∃ q, k = q + 1 := ⟨k - 1, by omega⟩
    obtain ⟨k, rfl⟩ : ∃ q, k = q + 1 := ⟨k - 1, by omega⟩
    have L := st_last (d := d) h0 h1 m0 m1
    have D := step_right P C (h + m) dem
    rw [governorlaw16_PlantDelay.l0, if_pos (by omega), step_eq P C]
    simp only [Option.bind_some]
    rw [L.1, L.2, if_pos (by omega), if_pos rfl, all_eq _ _ _ _ (by simp) (k + 1) (by simp)]
    simp only [Option.bind_some]
    rw [show allL (h + m) [] = h + m from rfl, if_pos rfl, wr (n := i + 1) (by omega) (by omega), governorlaw16_PlantDelay.l0, if_neg (by omega), if_pos rfl]
    rfl
  | succ j ih =>
    intro i wt ut k hi h1i hk P
    obtain ⟨k, rfl⟩ : ∃ q, k = q + 1 := ⟨k - 1, by omega⟩
    have L := st_next (d := d) h0 h1 m0 m1 j
    have D := step_right P C (h + m) dem
    rw [L.1, L.2] at D
    have hal : allL h (Zr j m) = h + m := by
      rw [allL_eq D.sm h0 (by omega) (by have := D.len; omega), sum_Zr]
    rw [governorlaw16_PlantDelay.l0, if_pos (by omega), step_eq P C]
    simp only [Option.bind_some]
    rw [L.1, L.2, if_neg (by omega), wr (n := h) (by omega) (by omega), if_pos rfl, all_eq _ _ _ _ (by have := D.len; omega) k (by have := D.len; omega), hal]
    simp only [Option.bind_some, reduceIte]
    rw [wr (n := i + 1) (by omega) (by omega)]
    exact ih (i + 1) _ _ k (by omega) (by omega) (by omega) D
theorem PlantDelay : governorlaw16_PlantDelay.Pure := by
  intro a0 a1 a2 a3 a4 a5 a6 a7 a8 a9 a10 a11 h m dem
  intro _ _ _ _ _ _ _ _ _ _ _ _ hh hm _
  have hb := wfu8 hh
  have mb := wfu8 hm
  refine ⟨59 + 1, ?_⟩
  unfold governorlaw16_PlantDelay.f
  rw [show governorlaw16_head.f (59 + 1) = some true from plantHeadk 20, show governorref09_Conf.f a0 a1 a2 a3 a4 a5 a6 a7 a8 a9 a10 a11 = some (cfSize a0 a1 a2 && (cfPlant a3 a4 a5 a6 && cfJudge a7 a8 a9 a10 a11)) from rfl]
  simp only [Option.bind_some]
  by_cases hC : (cfSize a0 a1 a2 && (cfPlant a3 a4 a5 a6 && cfJudge a7 a8 a9 a10 a11)) = true
  · rw [if_pos hC]
    have C := conf_pl hC
    have hd0 := C.d0
    have hd8 := C.d8
    have hn : nW (h + m) = h + m := by unfold nW mx mn; omega
    have eN : plant_New.f (wrap64 h) = some (h, [], 0, 0) := by
      unfold plant_New.f
      rw [wr (n := h) (by omega) (by omega), show mx 0 (mn h 1000) = h by unfold mx mn; (repeat' split) <;> omega]
    have P : PR h [] 0 0 := ⟨by omega, by omega, by simp, small_nil, by omega, by omega, by omega, by omega, by simp; omega⟩
    have D := step_right P C (h + m) dem
    have F := st_first (d := a5) (h := h) (m := m) (by omega) (by omega) (by omega) (by omega) hd0 hd8
    rw [eN]
    simp only [Option.bind_some]
    rw [wr (n := h) (by omega) (by omega), wr (n := m) (by omega) (by omega), wr (n := h + m) (by omega) (by omega), governorlaw16_PlantDelay.l0, if_pos hd0, step_eq P C]
    simp only [Option.bind_some]
    by_cases c : a5 = 0
    · have F1 := F.1 c
      rw [F1.1, F1.2, if_pos (by omega), if_pos rfl, all_eq _ _ _ _ (by simp) 59 (by simp)]
      simp only [Option.bind_some]
      rw [show allL (h + m) [] = h + m from rfl, if_pos rfl, wr (n := 0 + 1) (by omega) (by omega), governorlaw16_PlantDelay.l0, if_neg (by omega), if_pos rfl]
      rfl
    · have F2 := F.2 (by omega)
      rw [F2.1, F2.2] at D
      have hal : allL h (Zr (a5 - 1).toNat m) = h + m := by
        rw [allL_eq D.sm (by omega) (by omega) (by have := D.len; omega), sum_Zr]
      rw [F2.1, F2.2, if_neg (by omega), wr (n := h) (by omega) (by omega), if_pos rfl, all_eq _ _ _ _ (by have := D.len; omega) 59 (by have := D.len; omega), hal]
      simp only [Option.bind_some, reduceIte]
      rw [wr (n := 0 + 1) (by omega) (by omega)]
      exact delay_loop C (by omega) (by omega) (by omega) (by omega) dem a0 a1 a2 a3 a7 a8 a9 a10 a11 (a5 - 1).toNat 1 _ _ 59 (by omega) (by omega) (by omega) D
  · rw [if_neg hC]
end Go.Proofs.Ytgeldfjpafimpaa.Pure
