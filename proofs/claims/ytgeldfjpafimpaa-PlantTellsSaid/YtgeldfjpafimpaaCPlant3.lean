import Derived.Test.YtgeldfjpafimpaaCBase
import Derived.Test.YtgeldfjpafimpaaCPlant
import Derived.Test.YtgeldfjpafimpaaCPlant2
import Derived.Test.YtgeldfjpafimpaaPAllx0
import Derived.Test.YtgeldfjpafimpaaPAllx11
import Derived.Test.YtgeldfjpafimpaaPAllx18
import Derived.Test.YtgeldfjpafimpaaPAllx20
import Derived.Test.YtgeldfjpafimpaaPAllx4
import Derived.Test.YtgeldfjpafimpaaPAllx6
namespace Go.Proofs.Ytgeldfjpafimpaa.PAll
open Go.RowKit Go.Proofs.YtgeldfjpafimpaaW.PrintWords Go.Proofs.YtgeldfjpafimpaaW.PrintLast Go.Proofs.YtgeldfjpafimpaaW.PrintMore
set_option linter.unusedVariables false
set_option linter.unusedSimpArgs false
theorem clamp_eq0 (a M : Int) (h : 0 ≤ M) : mx 0 (mn a M) = mn (mx a 0) M := by unfold mx mn; (repeat' split) <;> omega
/-! ### the reference's grow and shrink -/
theorem rsz_grow (d n R a wt ut : Int) (hd : 1 ≤ d) (hd8 : d ≤ 8) : ∀ (m : Nat) (l : List Int) (k : Nat), (d - (l.length : Int)).toNat = m → l.length ≤ 8 → m + 1 < k →
    governorref16_sized.l0 k d n l R ([] : List Int) wt ut = some (R, (if d - (l.length : Int) > 0 then l ++ List.replicate (d - (l.length : Int)).toNat 0 else l).set (d - 1).toNat (wrap64 (rd (if d - (l.length : Int) > 0 then l ++ List.replicate (d - (l.length : Int)).toNat 0 else l) (d - 1) + n)), wt, 0) := by
  intro m
  induction m with
  | zero =>
    intro l k hm hl hk
    obtain ⟨k, rfl⟩ : ∃ q, k = q + 1 := ⟨k - 1, by omega⟩
    rw [governorref16_sized.l0, if_neg (by omega), wr (n := d - 1) (by omega) (by omega), if_pos (by omega), if_pos (by omega), if_neg (show ¬ (d - (l.length : Int) > 0) by omega)]
  | succ m ih =>
    intro l k hm hl hk
    obtain ⟨k, rfl⟩ : ∃ q, k = q + 1 := ⟨k - 1, by omega⟩
    rw [governorref16_sized.l0, if_pos (by omega), if_pos (by omega), ih (l ++ [0]) k (by rw [List.length_append]; simp; omega) (by rw [List.length_append]; simp; omega) (by omega)]
    have e : (if d - ((l ++ [0]).length : Int) > 0 then (l ++ [0]) ++ List.replicate (d - ((l ++ [0]).length : Int)).toNat 0 else (l ++ [0])) = (if d - (l.length : Int) > 0 then l ++ List.replicate (d - (l.length : Int)).toNat 0 else l) := by
      have e1 : ((l ++ [0]).length : Int) = (l.length : Int) + 1 := by rw [List.length_append]; simp
      rw [e1, if_pos (show d - (l.length : Int) > 0 by omega)]
      have e2 : (d - (l.length : Int)).toNat = (d - ((l.length : Int) + 1)).toNat + 1 := by omega
      rw [e2, List.replicate_succ]
      by_cases c : d - ((l.length : Int) + 1) > 0
      · rw [if_pos c]; simp
      · rw [if_neg c, show (d - ((l.length : Int) + 1)).toNat = 0 by omega]; simp
    rw [e]
theorem rsz_shrink (l : List Int) (many R wt ut : Int) (l0 : List Int) (hl : l.length ≤ 8) : ∀ (m j k : Nat), m + j = l.length → m < k →
    governorref16_sized.l1 k (shr l many j).1 (shr l many j).2 ((l.length : Int) - 1 - (j : Int)) R l0 wt ut = some (wrap64 (R - (shr l many l.length).2), (shr l many l.length).1, wt, 0) := by
  intro m
  induction m with
  | zero =>
    intro j k hj hk
    obtain ⟨k, rfl⟩ : ∃ q, k = q + 1 := ⟨k - 1, by omega⟩
    rw [governorref16_sized.l1, if_neg (by omega), show j = l.length by omega]
  | succ m ih =>
    intro j k hj hk
    obtain ⟨k, rfl⟩ : ∃ q, k = q + 1 := ⟨k - 1, by omega⟩
    rw [governorref16_sized.l1, if_pos (by omega), if_pos (by omega), if_pos (by rw [shr_length]; omega)]
    have er : rd (shr l many j).1 ((l.length : Int) - 1 - (j : Int)) = rd l ((l.length : Int) - 1 - (j : Int)) := by
      rw [show (l.length : Int) - 1 - (j : Int) = ((l.length - 1 - j : Nat) : Int) by omega]
      exact shr_rest l many j _ (by omega)
    have e := ih (j + 1) k (by omega) (by omega)
    rw [er, wr (n := (l.length : Int) - 1 - (j : Int) - 1) (by omega) (by omega), show (l.length : Int) - 1 - (j : Int) - 1 = (l.length : Int) - 1 - ((j + 1 : Nat) : Int) by omega, show ((l.length : Int) - 1 - (j : Int)).toNat = l.length - 1 - j by omega]
    exact e
theorem rsized_eq {R d n wt ut : Int} {l : List Int} (h0 : 0 ≤ R) (hs : Small l) (hl : l.length ≤ 8) (hd0 : 0 ≤ d) (hd8 : d ≤ 8) (ha : R + l.sum ≤ 1000) (hn0 : 0 ≤ n) (hn : n ≤ 1000) (k : Nat) (hk : 24 ≤ k) :
    ∃ l', governorref16_sized.f k d R l wt ut n = some ((sizedL R d (n - (R + l.sum)) l).1, l', wt, 0) ∧ trimL l' = trimL (sizedL R d (n - (R + l.sum)) l).2 ∧ l'.length ≤ 8 := by
  have hsn := sum_nonneg hs
  have hal : allL R l = R + l.sum := allL_eq hs h0 (by omega) (by omega)
  obtain ⟨k, rfl⟩ : ∃ q, k = q + 1 := ⟨k - 1, by omega⟩
  have loops : ∀ (b : List Int) (x : Int), governorref16_sized.l0 k d x l R b wt ut = governorref16_sized.l0 k d x l R [] wt ut := fun b x => by
    have z : ∀ (k : Nat) (l : List Int), governorref16_sized.l0 k d x l R b wt ut = governorref16_sized.l0 k d x l R [] wt ut := by
      intro k
      induction k with
      | zero => intro l; rfl
      | succ k ih => intro l; simp only [governorref16_sized.l0, ih]
    exact z k l
  unfold governorref16_sized.f
  rw [refAll_eq R l wt ut (by omega) (k + 1) (by omega), hal]
  simp only [Option.bind_some, List.length_nil, List.nil_append, Nat.zero_add]
  rw [if_pos (by omega), wr (n := n - (R + l.sum)) (by omega) (by omega)]
  by_cases c1 : n - (R + l.sum) ≥ 0
  · rw [if_pos c1]
    by_cases c2 : d = 0
    · rw [governorref16_sized.j0, if_pos (by rw [c2]; rfl)]
      refine ⟨l, ?_, ?_, hl⟩
      · unfold sizedL
        by_cases c3 : 0 < n - (R + l.sum)
        · rw [if_pos c3, if_pos c2]
        · rw [if_neg c3, if_neg (by omega)]
          rw [wr (by omega) (by omega), show n - (R + l.sum) = 0 by omega, Int.add_zero]
      · unfold sizedL
        by_cases c3 : 0 < n - (R + l.sum)
        · rw [if_pos c3, if_pos c2]
        · rw [if_neg c3, if_neg (by omega)]
    · rw [governorref16_sized.j0, if_neg (by simp [c2]), if_pos c1, loops, rsz_grow d (n - (R + l.sum)) R 0 wt ut (by omega) hd8 _ l k rfl hl (by omega)]
      by_cases c3 : 0 < n - (R + l.sum)
      · have e : sizedL R d (n - (R + l.sum)) l = (R, growL d (n - (R + l.sum)) l) := by unfold sizedL; rw [if_pos c3, if_neg c2]
        rw [e]
        exact ⟨growL d (n - (R + l.sum)) l, rfl, rfl, (grow_spec hs hl (by omega) hd8 c1 (by omega)).len⟩
      · have e : sizedL R d (n - (R + l.sum)) l = (R, l) := by unfold sizedL; rw [if_neg c3, if_neg (by omega)]
        rw [e, show n - (R + l.sum) = 0 by omega]
        refine ⟨_, rfl, ?_, ?_⟩
        · obtain ⟨l2, hl2⟩ : ∃ l2, (if d - (l.length : Int) > 0 then l ++ List.replicate (d - (l.length : Int)).toNat 0 else l) = l2 := ⟨_, rfl⟩
          have h2 : Small l2 ∧ d ≤ (l2.length : Int) ∧ trimL l2 = trimL l := by
            rw [← hl2]
            by_cases c : d - (l.length : Int) > 0
            · rw [if_pos c]; exact ⟨small_append.2 ⟨hs, small_zeros _⟩, by rw [List.length_append, List.length_replicate]; omega, trimL_zeros _ _⟩
            · rw [if_neg c]; exact ⟨hs, by omega, rfl⟩
          rw [hl2]
          have hb := small_rd h2.1 (i := d - 1) (by omega) (by omega)
          rw [Int.add_zero, wr (by omega) (by omega)]
          have e3 : l2.set (d - 1).toNat (rd l2 (d - 1)) = l2 := by
            obtain ⟨q, hq⟩ : ∃ q : Nat, d - 1 = (q : Int) := ⟨(d - 1).toNat, by omega⟩
            rw [hq, Int.toNat_natCast, rd_get (by omega), List.set_getElem_self]
          rw [e3]
          exact h2.2.2
        · rw [List.length_set]
          split
          · rw [List.length_append, List.length_replicate]; omega
          · exact hl
  · rw [if_neg c1, governorref16_sized.j0, if_neg (by simp), if_neg c1, wr (n := -(n - (R + l.sum))) (by omega) (by omega), wr (n := (l.length : Int) - 1) (by omega) (by omega)]
    have e := rsz_shrink l (-(n - (R + l.sum))) R wt ut l hl l.length 0 k (by omega) (by omega)
    have e0 : (l.length : Int) - 1 = (l.length : Int) - 1 - ((0 : Nat) : Int) := by omega
    rw [e0]
    have e1 : governorref16_sized.l1 k l (-(n - (R + l.sum))) ((l.length : Int) - 1 - ((0 : Nat) : Int)) R l wt ut = _ := e
    rw [e1]
    have e2 : sizedL R d (n - (R + l.sum)) l = (wrap64 (R - (shr l (wrap64 (-(n - (R + l.sum)))) l.length).2), (shr l (wrap64 (-(n - (R + l.sum)))) l.length).1) := by unfold sizedL; rw [if_neg (by omega), if_pos (by omega)]
    rw [e2, wr (n := -(n - (R + l.sum))) (by omega) (by omega)]
    exact ⟨_, rfl, rfl, by rw [shr_length]; exact hl⟩
/-! ### the reference's last loop -/
theorem rtrim_loop (c0 c1 c2 c3 c4 c5 c6 c7 c8 c9 c10 c11 R wt ut : Int) : ∀ (m : Nat) (l : List Int) (k : Nat), l.length = m → m ≤ 8 → m + 12 < k →
    governorref16_Step.l0 k c0 c1 c2 c3 c4 c5 c6 c7 c8 c9 c10 c11 R l wt ut = some (R, trimL l, wt, ut, allL R (trimL l), decide (wt > c6)) := by
  intro m
  induction m with
  | zero =>
    intro l k hl _ hk
    have := List.eq_nil_of_length_eq_zero hl
    subst this
    obtain ⟨k, rfl⟩ : ∃ q, k = q + 1 := ⟨k - 1, by omega⟩
    rw [governorref16_Step.l0, if_neg (by simp), refAll_eq R [] wt ut (by simp) k (by simp; omega)]
    rfl
  | succ m ih =>
    intro l k hl h8 hk
    obtain ⟨k, rfl⟩ : ∃ q, k = q + 1 := ⟨k - 1, by omega⟩
    rw [governorref16_Step.l0, if_pos (by omega), wr (n := (l.length : Int) - 1) (by omega) (by omega), if_pos (by omega), if_pos (by omega)]
    by_cases hx : rd l ((l.length : Int) - 1) = 0
    · rw [if_pos hx, if_pos (by omega), show ((l.length : Int) - 1).toNat = l.length - 1 by omega, ih (l.take (l.length - 1)) k (by rw [List.length_take]; omega) (by omega) (by omega), trimL_end0 l (by omega) hx]
    · rw [if_neg hx, refAll_eq R l wt ut (by omega) k (by omega), trimL_end l (by omega) hx]
      rfl
end Go.Proofs.Ytgeldfjpafimpaa.PAll
