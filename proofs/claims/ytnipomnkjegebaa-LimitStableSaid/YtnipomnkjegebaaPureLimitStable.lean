/- The law LimitStable (P15.3): for Stable behind a growth nothing shrinks, whatever is wanted: for every configuration that may be, hold, row of numbers that are wanted, and row of steps. -/
import Derived.Test.YtnipomnkjegebaaCLimit
import Derived.Test.YtnipomnkjegebaaPAllx0
import Derived.Test.YtnipomnkjegebaaPAllx16
import Derived.Test.YtnipomnkjegebaaPAllx21
import Derived.Test.YtnipomnkjegebaaPAllx27
import Derived.Test.YtnipomnkjegebaaWkLimitStable
namespace Go.Proofs.Ytnipomnkjegebaa.Pure
open Go.RowKit Go.Proofs.Ytnipomnkjegebaa.PAll Go.Proofs.YtnipomnkjegebaaW.PrintWords Go.Proofs.YtnipomnkjegebaaW.PrintLast Go.Proofs.YtnipomnkjegebaaW.PrintMore
set_option linter.unusedVariables false
set_option linter.unusedSimpArgs false
theorem stable_loop {a0 a1 a2 a3 a4 a5 a6 a7 a8 a9 a10 a11 : Int} (C : ConfP a0 a1 a2 a3) (ws st : List Int) (hs : ∀ x ∈ st, (Lit.int .u8 x).wf = true) (hl : ws.length ≤ 300) (d : Nat) : ∀ (k : Nat) (i now la cur last : Int) (gr : Bool), 0 ≤ i → i + (d : Int) = (ws.length : Int) → 3 * d + 1 < k → a0 ≤ cur → cur ≤ a1 → 0 ≤ last → last ≤ 1099511627776 → 0 ≤ now → now ≤ i * 255 → (gr = true → la = last) →
    governorlaw15_LimitStable.l0 k ws st true now la gr i a0 a1 a2 a3 a4 a5 a6 a7 a8 a9 a10 a11 cur last gr = some true := by
  obtain ⟨q1, q2, q3, q4, q5, q6, q7⟩ := id C
  induction d with
  | zero =>
    intro k i now la cur last gr h0 hd hk c0 c1 l0 l1 n0 n1 hla
    obtain ⟨k, rfl⟩ : ∃ m, k = m + 1 := ⟨k - 1, by omega⟩
    simp only [governorlaw15_LimitStable.l0]
    rw [if_neg (by omega)]
  | succ d ih =>
    intro k i now la cur last gr h0 hd hk c0 c1 l0 l1 n0 n1 hla
    obtain ⟨k, rfl⟩ : ∃ m, k = m + 1 + 1 + 1 := ⟨k - 3, by omega⟩
    have step : ∀ now', 0 ≤ now' → now' ≤ (i + 1) * 255 → governorlaw15_LimitStable.j2 (k + 1 + 1) ws st true now' la gr i a0 a1 a2 a3 a4 a5 a6 a7 a8 a9 a10 a11 cur last gr = some true := by
      intro now' m0 m1
      simp only [governorlaw15_LimitStable.j2]
      rw [if_pos h0, if_pos (by omega)]
      obtain ⟨c, l, g', e, g, n, hg, hn, hN⟩ := limit_next (a4 := a4) (a5 := a5) (a6 := a6) (a7 := a7) (a8 := a8) (a9 := a9) (a10 := a10) (a11 := a11) (cur := cur) (last := last) (grew := gr) (want := rd ws i) (now := now') C (by omega) (by omega) (by omega) (by omega)
      rw [e]
      simp only [Option.bind_some]
      have eg : g = cur := by rw [hg]; unfold mx mn; omega
      have en : a0 ≤ n ∧ n ≤ a1 := by rw [hn, eg]; unfold mx mn; omega
      have hc : a0 ≤ c ∧ c ≤ a1 ∧ 0 ≤ l ∧ l ≤ 1099511627776 := by
        rcases hN with ⟨r1, r2, r3, r4⟩ | ⟨r1, r2, r3, r4, r5, r6⟩ | ⟨r1, r2, r3, r4, r5⟩ <;> omega
      have fin : governorlaw15_LimitStable.j3 (k + 1) ws st true now' la gr i false a0 a1 a2 a3 a4 a5 a6 a7 a8 a9 a10 a11 cur last gr c l g' = some true := by
        simp only [governorlaw15_LimitStable.j3, Bool.false_eq_true, reduceIte]
        rw [wr (n := i + 1) (by omega) (by omega)]
        rcases hN with ⟨r1, r2, r3, r4⟩ | ⟨r1, r2, r3, r4, r5, r6⟩ | ⟨r1, r2, r3, r4, r5⟩
        · rw [if_pos (by omega), r4, r3]
          simp only [bne_self_eq_false, Bool.false_eq_true, reduceIte]
          exact ih k (i + 1) now' now' c now' true (by omega) (by omega) (by omega) (by omega) (by omega) (by omega) (by omega) (by omega) (by omega) (fun _ => rfl)
        · rw [if_neg (by omega), r6, r5]
          simp only [bne_self_eq_false, Bool.false_eq_true, reduceIte]
          rw [if_pos r2, if_pos (hla r2).symm]
          exact ih k (i + 1) now' la c last gr (by omega) (by omega) (by omega) (by omega) (by omega) (by omega) (by omega) (by omega) (by omega) hla
        · rw [if_neg (by omega), r5, r4]
          simp only [bne_self_eq_false, Bool.false_eq_true, reduceIte]
          have z := ih k (i + 1) now' la c last gr (by omega) (by omega) (by omega) (by omega) (by omega) (by omega) (by omega) (by omega) (by omega) hla
          by_cases hgr : gr = true
          · rw [if_pos hgr, if_pos (hla hgr).symm]; exact z
          · rw [if_neg hgr]; exact z
      by_cases hlt : c < cur
      · rw [if_pos hlt]
        by_cases hgr : gr = true
        · rw [if_pos hgr]
          have hd2 : decide (wrap64 (now' - la) < a3) = false := by
            rw [hla hgr, wr (by omega) (by omega)]
            rcases hN with ⟨r1, r2, r3, r4⟩ | ⟨r1, r2, r3, r4, r5, r6⟩ | ⟨r1, r2, r3, r4, r5⟩
            · omega
            · omega
            · exact decide_eq_false (r2 hgr)
          rw [hd2]
          exact fin
        · rw [if_neg hgr]; exact fin
      · rw [if_neg hlt]; exact fin
    simp only [governorlaw15_LimitStable.l0]
    rw [if_pos (by omega)]
    by_cases c2 : i < (st.length : Int)
    · rw [if_pos c2, if_pos h0]
      have hm : rd st i ∈ st := by
        unfold rd
        rw [List.getD_eq_getElem?_getD, List.getElem?_eq_getElem (by omega)]
        exact List.getElem_mem _
      have h8 := wfu8 (hs _ hm)
      rw [wr (n := rd st i) (by omega) (by omega), wr (n := now + rd st i) (by omega) (by omega)]
      exact step _ (by omega) (by omega)
    · rw [if_neg c2]
      exact step _ (by omega) (by omega)
theorem LimitStable : governorlaw15_LimitStable.Pure := by
  intro a0 a1 a2 a3 a4 a5 a6 a7 a8 a9 a10 a11 b0 b1 b2 ws st h0 h1 h2 h3 h4 h5 h6 h7 h8 h9 h10 h11 k0 k1 hw hws hst hs
  refine ⟨1000, ?_⟩
  unfold governorlaw15_LimitStable.f
  rw [limitHead]
  simp only [governorref09_Conf.f, time_eq, Option.bind_some]
  by_cases hc : (cfSize a0 a1 a2 && (cfPlant a3 a4 a5 a6 && cfJudge a7 a8 a9 a10 a11)) = true
  · rw [if_pos hc]
    have C := conf_in hc
    by_cases hl : (decide (0 ≤ b1) && decide (b1 ≤ 1099511627776)) = true
    · have t2 := time_in hl
      rw [if_pos hl]
      simp only [governorlaw15_LimitStable.j0]
      by_cases hg : (ws.length : Int) > 300
      · rw [if_pos (decide_eq_true hg)]
      · rw [if_neg (by simpa using hg)]
        simp only [limit_Into.f, Option.bind_some]
        have q1 := C.l1
        have q2 := C.lh
        exact stable_loop C ws st hs (by omega) ws.length 999 0 0 0 _ b1 false (Int.le_refl _) (by omega) (by omega) (by unfold mx mn; omega) (by unfold mx mn; omega) t2.1 t2.2 (Int.le_refl _) (by omega) (fun h => by cases h)
    · rw [if_neg hl]
      simp only [governorlaw15_LimitStable.j0, reduceIte]
  · rw [if_neg hc]
    simp only [governorlaw15_LimitStable.j0, reduceIte]
end Go.Proofs.Ytnipomnkjegebaa.Pure
