-- laid by a program of this session (tprint.py) out of the translation and of texts typed by hand; Lean checks it
import Derived.Test.YtnipomnkjegebaaPAllx0
import Derived.Test.YtnipomnkjegebaaPAllx23
namespace Go.Proofs.Ytnipomnkjegebaa.PAll
open Go.RowKit Go.Proofs.YtnipomnkjegebaaW.PrintWords Go.Proofs.YtnipomnkjegebaaW.PrintLast Go.Proofs.YtnipomnkjegebaaW.PrintMore
attribute [local go_sem] max2_int min2_int max_two min_two max_three min_three max_four min_four   -- for this text's walks alone
set_option linter.unusedVariables false
set_option linter.unusedSimpArgs false

/-! ### governorref15_Next: function 27 -/
def r15 (g lo hi rate st last want now : Int) (grew : Bool) : Int × Int × Bool :=
  let n1 := if want < wrap64 (g - rate) then wrap64 (g - rate) else want
  let n2 := if n1 > wrap64 (g + rate) then wrap64 (g + rate) else n1
  let n3 := mn (mx n2 lo) hi
  let n4 := if n3 < g ∧ grew = true ∧ wrap64 (now - last) < st then g else n3
  if n4 > g then (n4, now, true) else (n4, last, grew)
def governorref15_Next.f (a0_0 : Int) (a0_1 : Int) (a0_2 : Int) (a0_3 : Int) (a0_4 : Int) (a0_5 : Int) (a0_6 : Int) (a0_7 : Int) (a0_8 : Int) (a0_9 : Int) (a0_10 : Int) (a0_11 : Int) (a1_0 : Int) (a1_1 : Int) (a1_2 : Bool) (a2 : Int) (a3 : Int) : Option (Int × Int × Bool) :=
  some (r15 (mn (mx a1_0 a0_0) a0_1) a0_0 a0_1 a0_2 a0_3 a1_1 a2 a3 a1_2)
theorem bcell {W w1 : World} (hb : Below W.heap.size W w1) : (∀ b o, b < W.heap.size → w1.cell? ⟨b, o, none⟩ = W.cell? ⟨b, o, none⟩) ∧ (∀ b o, b < W.heap.size → w1.frozen? ⟨b, o, none⟩ = W.frozen? ⟨b, o, none⟩) :=
  ⟨fun b o h => hb.cell (p := ⟨b, o, none⟩) h, fun b o h => hb.frozen (p := ⟨b, o, none⟩) h⟩
theorem put3_39 {W : World} {R : Nat} {u v x : Value} {T : Nat} (k : W.heap[R]? = some (.cells #[u, v, x] T (0, 0))) (a b c : Value) : (((W.setCell ⟨R, 0, none⟩ a).setCell ⟨R, 1, none⟩ b).setCell ⟨R, 2, none⟩ c).heap[R]? = some (.cells #[a, b, c] T (0, 0)) :=
  blk_put (blk_put (blk_put k 0 a rfl) 1 b rfl) 2 c rfl
set_option maxHeartbeats 40000000 in
set_option maxRecDepth 100000 in
theorem r15_walk (a0_0 : Int) (a0_1 : Int) (a0_2 : Int) (a0_3 : Int) (a0_4 : Int) (a0_5 : Int) (a0_6 : Int) (a0_7 : Int) (a0_8 : Int) (a0_9 : Int) (a0_10 : Int) (a0_11 : Int) (a1_0 : Int) (a1_1 : Int) (a1_2 : Bool) (a2 : Int) (a3 : Int) (g n1 n2 m n3 : Int) (r : Int × Int × Bool) (w : World) (hg : Aside0 (mn (mx a1_0 a0_0) a0_1 = g))
    (h1 : (a2 < wrap64 (g - a0_2) ∧ n1 = wrap64 (g - a0_2)) ∨ (¬ a2 < wrap64 (g - a0_2) ∧ n1 = a2)) (h2 : (n1 > wrap64 (g + a0_2) ∧ n2 = wrap64 (g + a0_2)) ∨ (¬ n1 > wrap64 (g + a0_2) ∧ n2 = n1)) (h3 : (if n2 < a0_0 then a0_0 else n2) = m) (h3' : (if a0_1 < m then a0_1 else m) = n3)
    (h4 : (n3 < g ∧ a1_2 = true ∧ wrap64 (a3 - a1_1) < a0_3 ∧ r = (g, a1_1, true)) ∨ (n3 < g ∧ a1_2 = true ∧ ¬ wrap64 (a3 - a1_1) < a0_3 ∧ r = (n3, a1_1, true)) ∨ (n3 < g ∧ a1_2 = false ∧ r = (n3, a1_1, false)) ∨ (¬ n3 < g ∧ n3 > g ∧ r = (n3, a3, true)) ∨ (¬ n3 < g ∧ ¬ n3 > g ∧ r = (n3, a1_1, a1_2))) :
    Calls Try.prog 27 #[.agg #[.int .i64 a0_0, .int .i64 a0_1, .int .i64 a0_2, .int .i64 a0_3, .int .i64 a0_4, .int .i64 a0_5, .int .i64 a0_6, .int .i64 a0_7, .int .i64 a0_8, .int .i64 a0_9, .int .i64 a0_10, .int .i64 a0_11], .agg #[.int .i64 a1_0, .int .i64 a1_1, .bool a1_2], .int .i64 a2, .int .i64 a3] w fun e w' => e = .returned (.agg #[.int .i64 r.1, .int .i64 r.2.1, .bool r.2.2]) ∧ Below w.heap.size w w' := by
  have hu37 := Try.underlying37
  have hu39 := Try.underlying39
  go_enter Try.func27, Try.ntmps27
  go_upto_region 1 with (fail)
  go_cut [9] (fun s wx => ∃ G : Nat, s = .pointer (some ⟨G, 0, none⟩) ∧ wx.heap[G]? = some (.cells #[.int .i64 g, .int .i64 a1_1, .bool a1_2] 39 (0, 0)) ∧ wx.heap[w.heap.size]? = some (.cells #[.int .i64 a0_0, .int .i64 a0_1, .int .i64 a0_2, .int .i64 a0_3, .int .i64 a0_4, .int .i64 a0_5, .int .i64 a0_6, .int .i64 a0_7, .int .i64 a0_8, .int .i64 a0_9, .int .i64 a0_10, .int .i64 a0_11] 37 (0, 0)) ∧ wx.heap[w.heap.size + 1 + 1]? = some (.cells #[.int .i64 0, .int .i64 0, .bool false] 39 (0, 0)) ∧ Below w.heap.size w wx ∧ w.heap.size + 1 + 1 < G)
  case first =>
    have hs3 : ∀ o1 o2 o3, (((w.alloc o1).alloc o2).alloc o3).heap.size = w.heap.size + 3 := fun _ _ _ => by simp
    go_wp2_with (go_at_call 25; refine (governorref15_Into.calls a0_0 a0_1 a0_2 a0_3 a0_4 a0_5 a0_6 a0_7 a0_8 a0_9 a0_10 a0_11 a1_0 a1_1 _ g a1_1 _ _ (by rw [← hg.out]; rfl)).mono ?_; rintro e w1 ⟨rfl, hb⟩)
    go_meet
    have hz : w.heap.size + 1 + 1 < w1.heap.size := by have := hb.size; rw [hs3] at this; omega
    have hb0 : Below w.heap.size w w1 := Below.trans ((((Below.refl _ w).alloc (Nat.le_refl _) _).alloc (by simp) _).alloc (by simp; omega) _) (hb.mono (by rw [hs3]; omega))
    refine ⟨w1.heap.size, rfl, blk_new w1 _, blk_alloc (blk_below (blk_alloc (blk_alloc (blk_new w _) _) _) hb) _, blk_alloc (blk_below ?_ hb) _, hb0.alloc hb0.size _, hz⟩
    have z := blk_new ((w.alloc (.cells #[.int .i64 a0_0, .int .i64 a0_1, .int .i64 a0_2, .int .i64 a0_3, .int .i64 a0_4, .int .i64 a0_5, .int .i64 a0_6, .int .i64 a0_7, .int .i64 a0_8, .int .i64 a0_9, .int .i64 a0_10, .int .i64 a0_11] 37)).alloc (.cells #[.int .i64 a1_0, .int .i64 a1_1, .bool a1_2] 39)) (.cells #[.int .i64 0, .int .i64 0, .bool false] 39)
    rw [World.size_alloc, World.size_alloc] at z
    exact z
  case rest =>
    obtain ⟨G, rfl, kG, kC, kR, hB, hGR⟩ := hcut
    have x0 := blk_cell kC 0
    have x1 := blk_cell kC 1
    have x2 := blk_cell kC 2
    have x3 := blk_cell kC 3
    have g0 := blk_cell kG 0
    have g1 := blk_cell kG 1
    have g2 := blk_cell kG 2
    have gf := blk_frozen kG 0
    have r0 := blk_cell kR 0
    have r1 := blk_cell kR 1
    have r2 := blk_cell kR 2
    have rf0 := blk_frozen kR 0
    have rf1 := blk_frozen kR 1
    have rf2 := blk_frozen kR 2
    simp only [List.getElem?_toArray, List.getElem?_cons_zero, List.getElem?_cons_succ] at x0 x1 x2 x3 g0 g1 g2 r0 r1 r2
    have HG := Aside0.mk kG
    have HR := Aside0.mk kR
    have HB := Aside0.mk hB
    have HGR := Aside0.mk hGR
    clear kG kC kR hB hGR hg
    have hne : w.heap.size + 1 + 1 ≠ G := by have := HGR.out; omega
    have hne' : G ≠ w.heap.size + 1 + 1 := Ne.symm hne
    rcases h1 with ⟨c1, e1⟩ | ⟨c1, e1⟩ <;> rcases h2 with ⟨c2, e2⟩ | ⟨c2, e2⟩ <;> subst n2 <;> subst n1
    all_goals
      rcases h4 with ⟨c3, rfl, c4, rfl⟩ | ⟨c3, rfl, c4, rfl⟩ | ⟨c3, rfl, rfl⟩ | ⟨c3, c4, rfl⟩ | ⟨c3, c4, rfl⟩
    all_goals
      go_wp2
      refine bodyPost_ret (results_cell_row rfl _ _ (w.heap.size + 1 + 1) 39 _ (0, 0) _ rfl (by first | (with_reducible exact put3_39 HR.out _ _ _) | (with_reducible exact put3_39 (blk_far HR.out hne _) _ _ _) | exact put3_39 (blk_far HR.out hne _) _ _ _) Try.underlying39 rfl (by kernel_rfl)) rfl ?_
      exact ⟨rfl, by repeat (first | exact HB.out | refine below_set ?_ (by have h_ := HGR.out; show w.heap.size ≤ w.heap.size + 1 + 1; omega) | refine below_set ?_ (by have h_ := HGR.out; show w.heap.size ≤ G; omega))⟩
theorem governorref15_Next.calls (a0_0 : Int) (a0_1 : Int) (a0_2 : Int) (a0_3 : Int) (a0_4 : Int) (a0_5 : Int) (a0_6 : Int) (a0_7 : Int) (a0_8 : Int) (a0_9 : Int) (a0_10 : Int) (a0_11 : Int) (a1_0 : Int) (a1_1 : Int) (a1_2 : Bool) (a2 : Int) (a3 : Int) (r1 : Int) (r2 : Int) (r3 : Bool) (w : World) (h : governorref15_Next.f a0_0 a0_1 a0_2 a0_3 a0_4 a0_5 a0_6 a0_7 a0_8 a0_9 a0_10 a0_11 a1_0 a1_1 a1_2 a2 a3 = some (r1, r2, r3)) :
    Calls Try.prog 27 #[.agg #[.int .i64 a0_0, .int .i64 a0_1, .int .i64 a0_2, .int .i64 a0_3, .int .i64 a0_4, .int .i64 a0_5, .int .i64 a0_6, .int .i64 a0_7, .int .i64 a0_8, .int .i64 a0_9, .int .i64 a0_10, .int .i64 a0_11], .agg #[.int .i64 a1_0, .int .i64 a1_1, .bool a1_2], .int .i64 a2, .int .i64 a3] w fun e w' => e = .returned (.agg #[.int .i64 r1, .int .i64 r2, .bool r3]) ∧ Below w.heap.size w w' := by
  have hr : r15 (mn (mx a1_0 a0_0) a0_1) a0_0 a0_1 a0_2 a0_3 a1_1 a2 a3 a1_2 = (r1, r2, r3) := Option.some.inj h
  clear h
  unfold r15 at hr
  generalize hg : mn (mx a1_0 a0_0) a0_1 = g at hr
  dsimp only at hr
  generalize e1 : (if a2 < wrap64 (g - a0_2) then wrap64 (g - a0_2) else a2) = n1 at hr
  generalize e2 : (if n1 > wrap64 (g + a0_2) then wrap64 (g + a0_2) else n1) = n2 at hr
  generalize e3 : mn (mx n2 a0_0) a0_1 = n3 at hr
  generalize e4 : (if n3 < g ∧ a1_2 = true ∧ wrap64 (a3 - a1_1) < a0_3 then g else n3) = n4 at hr
  refine r15_walk a0_0 a0_1 a0_2 a0_3 a0_4 a0_5 a0_6 a0_7 a0_8 a0_9 a0_10 a0_11 a1_0 a1_1 a1_2 a2 a3 g n1 n2 _ n3 (r1, r2, r3) w ⟨hg⟩ ?_ ?_ rfl e3 ?_
  · by_cases c : a2 < wrap64 (g - a0_2)
    · rw [if_pos c] at e1; exact .inl ⟨c, e1.symm⟩
    · rw [if_neg c] at e1; exact .inr ⟨c, e1.symm⟩
  · by_cases c : n1 > wrap64 (g + a0_2)
    · rw [if_pos c] at e2; exact .inl ⟨c, e2.symm⟩
    · rw [if_neg c] at e2; exact .inr ⟨c, e2.symm⟩
  · by_cases c1 : n3 < g
    · cases a1_2 with
      | false =>
        rw [if_neg (by simp)] at e4
        rw [if_neg (by omega)] at hr
        exact .inr (.inr (.inl ⟨c1, rfl, by rw [← hr, e4]⟩))
      | true =>
        by_cases c2 : wrap64 (a3 - a1_1) < a0_3
        · rw [if_pos ⟨c1, rfl, c2⟩] at e4
          rw [if_neg (by omega)] at hr
          exact .inl ⟨c1, rfl, c2, by rw [← hr, e4]⟩
        · rw [if_neg (fun h => c2 h.2.2)] at e4
          rw [if_neg (by omega)] at hr
          exact .inr (.inl ⟨c1, rfl, c2, by rw [← hr, e4]⟩)
    · rw [if_neg (fun h => c1 h.1)] at e4
      by_cases c2 : n3 > g
      · rw [if_pos (by omega)] at hr
        exact .inr (.inr (.inr (.inl ⟨c1, c2, by rw [← hr, e4]⟩)))
      · rw [if_neg (by omega)] at hr
        exact .inr (.inr (.inr (.inr ⟨c1, c2, by rw [← hr, e4]⟩)))

end Go.Proofs.Ytnipomnkjegebaa.PAll
