-- laid by a program of this session (tprint.py) out of the translation and of texts typed by hand; Lean checks it
import Derived.Test.YtgeldfjpafimpaaPAllx0
import Derived.Test.YtgeldfjpafimpaaPAllx2
import Derived.Test.YtgeldfjpafimpaaPAllx3
import Derived.Test.YtgeldfjpafimpaaPAllx4
import Derived.Test.YtgeldfjpafimpaaPAllx6
import Derived.Test.YtgeldfjpafimpaaPAllx7
import Derived.Test.YtgeldfjpafimpaaPAllx9
import Derived.Test.YtgeldfjpafimpaaPAllx10
import Derived.Deep.RegionHeld3
import Derived.Deep.QuietTactic
import Derived.BigQuiet
import Derived.StillTailTactics
namespace Go.Proofs.Ytgeldfjpafimpaa.PAll
open Go.RowKit Go.Proofs.YtgeldfjpafimpaaW.PrintWords Go.Proofs.YtgeldfjpafimpaaW.PrintLast Go.Proofs.YtgeldfjpafimpaaW.PrintMore
attribute [local go_sem] max2_int min2_int max_two min_two max_three min_three max_four min_four   -- for this text's walks alone
set_option linter.unusedVariables false
set_option linter.unusedSimpArgs false

/-! ### plant_Step: function 18 -/
/-- HOW MANY THERE ARE. -/
def allL (R : Int) (l : List Int) : Int := l.foldl (fun s x => wrap64 (s + x)) R
/-- WITHOUT THE NOTHING AT THE END. -/
def trimL (l : List Int) : List Int := (l.reverse.dropWhile (fun x => x == 0)).reverse
theorem trimL_nil : trimL [] = [] := rfl
theorem trimL_snoc0 (l : List Int) : trimL (l ++ [0]) = trimL l := by simp [trimL]
theorem trimL_snoc (l : List Int) (x : Int) (h : x ≠ 0) : trimL (l ++ [x]) = l ++ [x] := by simp [trimL, h]
theorem snoc_at (l : List Int) (h : 0 < l.length) : l = l.take (l.length - 1) ++ [rd l ((l.length : Int) - 1)] := by
  have e : rd l ((l.length : Int) - 1) = l[l.length - 1] := by
    unfold rd
    rw [show ((l.length : Int) - 1).toNat = l.length - 1 by omega, List.getD_eq_getElem?_getD, List.getElem?_eq_getElem (by omega)]
    rfl
  have hne : l ≠ [] := List.ne_nil_of_length_pos h
  rw [e, ← List.getLast_eq_getElem hne, ← List.dropLast_eq_take]
  exact (List.dropLast_concat_getLast hne).symm
theorem trimL_end0 (l : List Int) (h : 0 < l.length) (hx : rd l ((l.length : Int) - 1) = 0) : trimL (l.take (l.length - 1)) = trimL l := by
  have e := snoc_at l h
  rw [hx] at e
  rw [show trimL l = trimL (l.take (l.length - 1) ++ [0]) from congrArg trimL e, trimL_snoc0]
theorem trimL_end (l : List Int) (h : 0 < l.length) (hx : rd l ((l.length : Int) - 1) ≠ 0) : trimL l = l := by
  have e := snoc_at l h
  rw [show trimL l = trimL (l.take (l.length - 1) ++ [rd l ((l.length : Int) - 1)]) from congrArg trimL e, trimL_snoc _ _ hx]
  exact e.symm
theorem dropWhile_le {α : Type} (p : α → Bool) : ∀ l : List α, (l.dropWhile p).length ≤ l.length
  | [] => Nat.le_refl _
  | x :: l => by
    rw [List.dropWhile_cons]
    split
    · exact Nat.le_trans (dropWhile_le p l) (Nat.le_succ _)
    · exact Nat.le_refl _
theorem trimL_length (l : List Int) : (trimL l).length ≤ l.length := by
  unfold trimL
  rw [List.length_reverse]
  exact Nat.le_trans (dropWhile_le _ _) (by rw [List.length_reverse]; exact Nat.le_refl _)
/-- WHAT IS LEFT behind grow or shrink. -/
def sizedL (R delay more : Int) (l : List Int) : Int × List Int :=
  if 0 < more then (if delay = 0 then (wrap64 (R + more), l) else (R, growL delay more l))
  else if more < 0 then (wrap64 (R - (shr l (wrap64 (-more)) l.length).2), (shr l (wrap64 (-more)) l.length).1)
  else (R, l)
def readyL (R : Int) (l : List Int) : Int := if 0 < l.length then wrap64 (R + rd l 0) else R
def moreL (R want : Int) (l : List Int) : Int := wrap64 (mx 0 (mn want 1000) - allL R l)
def plant_Step.f (a0_0 a0_1 a0_2 a0_3 a0_4 a0_5 a0_6 a0_7 a0_8 a0_9 a0_10 a0_11 : Int) (a1_0 : Int) (l1_1 : List Int) (a1_2 a1_3 : Int) (a2 a3 : Int) : Option (Int × List Int × Int × Int × Int × Bool) :=
  if l1_1.length ≤ 8 ∧ 0 ≤ a0_5 ∧ a0_5 ≤ 8 then
    let s := sizedL (readyL a1_0 l1_1) a0_5 (moreL (readyL a1_0 l1_1) a2 (l1_1.drop 1)) (l1_1.drop 1)
    (fixed_Add.f a1_2 (mx 0 (mn a3 1000000))).bind fun todo =>
    (fixed_Sat.f (wrap64 (s.1 * a0_4))).bind fun can =>
    (fixed_Div.f todo can).bind fun ut =>
    some (s.1, trimL s.2, mx 0 (wrap64 (todo - can)), ut, allL s.1 (trimL s.2), decide (a0_6 < mx 0 (wrap64 (todo - can))))
  else none
theorem plant_All_at (l : List Int) (hl : l.length < 9000000000000000000) (a b : Int) : ∀ (d : Nat) (j : Nat) (R : Int), l.length = j + d → plant_All.l0 (d + 1) R l (l.length : Int) (j : Int) = some (allL R (l.drop j)) := by
  intro d
  induction d with
  | zero =>
    intro j R h
    rw [plant_All.l0, if_neg (by omega), List.drop_of_length_le (by omega)]
    rfl
  | succ d ih =>
    intro j R h
    rw [plant_All.l0, if_pos (by omega), if_pos (by omega), if_pos (by omega)]
    have e : wrap64 ((j : Int) + 1) = ((j + 1 : Nat) : Int) := by unfold wrap64; omega
    rw [e, ih (j + 1) _ (by omega)]
    have hj : j < l.length := by omega
    rw [List.drop_eq_getElem_cons hj]
    congr 1
    show allL _ _ = List.foldl _ _ _
    rw [List.foldl_cons]
    have e2 : rd l (j : Int) = l[j] := by
      unfold rd
      rw [Int.toNat_natCast, List.getD_eq_getElem?_getD, List.getElem?_eq_getElem hj]
      rfl
    rw [e2]
    rfl
theorem plant_All_fold (R : Int) (l : List Int) (hl : l.length < 9000000000000000000) (a b : Int) : plant_All.f (l.length + 1) R l a b = some (allL R l) :=
  plant_All_at l hl a b l.length 0 R (by omega)
/-- The blocks of Step: the boxes of c and p, the two results'. -/
structure PlB (w W : World) (cc pc : Array Value) : Prop where
  hC : W.heap[w.heap.size]? = some (.cells cc 23 (0, 0))
  hP : W.heap[w.heap.size + 1]? = some (.cells pc 26 (0, 0))
  hA : W.heap[w.heap.size + 1 + 1]? = some (.cells #[.int .i64 0, .slice none 0 0, .int .i64 0, .int .i64 0] 26 (0, 0))
  hM : W.heap[w.heap.size + 1 + 1 + 1]? = some (.cells #[.int .i64 0, .bool false] 31 (0, 0))
  hB : Below w.heap.size w W
/-- .. and the row. -/
def PlS (w W : World) (cc : Array Value) (R wt ut : Int) (v : Value) (l : List Int) : Prop :=
  PlB w W cc #[.int .i64 R, v, .int .i64 wt, .int .i64 ut] ∧ (Kd.int .i64).Q 3 W w.heap.size (fun _ => True) v l
section
variable {w W W1 : World} {cc pc pc' : Array Value} {R wt ut : Int} {v : Value} {l : List Int}
theorem PlB.below (h : PlB w W cc pc) (hb : Below W.heap.size W W1) : PlB w W1 cc pc :=
  ⟨blk_below h.hC hb, blk_below h.hP hb, blk_below h.hA hb, blk_below h.hM hb, below_step h.hB hb⟩
theorem PlB.put (h : PlB w W cc pc) (j : Nat) (u : Value) (e : pc.setIfInBounds j u = pc') : PlB w (W.setCell ⟨w.heap.size + 1, j, none⟩ u) cc pc' :=
  ⟨blk_far h.hC (by show w.heap.size ≠ w.heap.size + 1; omega) _, blk_put h.hP j _ e, blk_far h.hA (by show w.heap.size + 1 + 1 ≠ w.heap.size + 1; omega) _, blk_far h.hM (by show w.heap.size + 1 + 1 + 1 ≠ w.heap.size + 1; omega) _, below_set h.hB (by omega)⟩
theorem PlB.cell (h : PlB w W cc pc) (j : Nat) : W.cell? ⟨w.heap.size + 1, j, none⟩ = pc[j]? ∧ W.frozen? ⟨w.heap.size + 1, j, none⟩ = false := ⟨blk_cell h.hP j, blk_frozen h.hP j⟩
theorem PlB.q_put (h : PlB w W cc pc) (j : Nat) (u : Value) (hq : (Kd.int .i64).Q 3 W w.heap.size (fun _ => True) v l) : (Kd.int .i64).Q 3 (W.setCell ⟨w.heap.size + 1, j, none⟩ u) w.heap.size (fun _ => True) v l :=
  Kd.Q_mono (Kd.Q_set hq h.hP (by decide) j u) (fun _ _ => trivial)
theorem PlS.below (h : PlS w W cc R wt ut v l) (hb : Below W.heap.size W W1) : PlS w W1 cc R wt ut v l := ⟨h.1.below hb, Kd.Q_below h.2 hb⟩
theorem PlS.drew (h : PlS w W cc R wt ut v l) : PlS w W.drew cc R wt ut v l := h.below (below_drew1 (Below.refl _ _))
theorem PlS.kept (h : PlS w W cc R wt ut v l) (hk : Kept W W1 (fun k => k = w.heap.size + 1 ∨ some k = v.ownBlock)) (ho : W1.os = W.os ∧ W1.tape = W.tape ∧ W1.output = W.output) {R' wt' ut' : Int} {v' : Value} {l' : List Int}
    (hP : W1.heap[w.heap.size + 1]? = some (.cells #[.int .i64 R', v', .int .i64 wt', .int .i64 ut'] 26 (0, 0))) (hq : (Kd.int .i64).Q 3 W1 w.heap.size (fun _ => True) v' l') : PlS w W1 cc R' wt' ut' v' l' := by
  obtain ⟨b, q⟩ := h
  refine ⟨⟨blk_kept b.hC hk (fun e => e.elim (by omega) (Kd.Q_ne q b.hC (by decide))), hP, blk_kept b.hA hk (fun e => e.elim (by omega) (Kd.Q_ne q b.hA (by decide))), blk_kept b.hM hk (fun e => e.elim (by omega) (Kd.Q_ne q b.hM (by decide))), ?_⟩, hq⟩
  refine ⟨ho.1.trans b.hB.os, ho.2.1.trans b.hB.tape, ho.2.2.trans b.hB.output, Nat.le_trans b.hB.size hk.1, fun k hlt => ?_⟩
  refine (hk.2 k (Nat.lt_of_lt_of_le hlt b.hB.size) (fun e => ?_)).trans (b.hB.block k hlt)
  rcases e with e | e
  · omega
  · have := Kd.Q_base q k e.symm
    omega
end
theorem PlB.new (w : World) (cc pc : Array Value) :
    PlB w ((((w.alloc (.cells cc 23)).alloc (.cells pc 26)).alloc (.cells #[.int .i64 0, .slice none 0 0, .int .i64 0, .int .i64 0] 26)).alloc (.cells #[.int .i64 0, .bool false] 31)) cc pc := by
  have z1 := blk_new (w.alloc (.cells cc 23)) (.cells pc 26)
  rw [World.size_alloc] at z1
  have z2 := blk_new ((w.alloc (.cells cc 23)).alloc (.cells pc 26)) (.cells #[.int .i64 0, .slice none 0 0, .int .i64 0, .int .i64 0] 26)
  rw [World.size_alloc, World.size_alloc] at z2
  have z3 := blk_new (((w.alloc (.cells cc 23)).alloc (.cells pc 26)).alloc (.cells #[.int .i64 0, .slice none 0 0, .int .i64 0, .int .i64 0] 26)) (.cells #[.int .i64 0, .bool false] 31)
  rw [World.size_alloc, World.size_alloc, World.size_alloc] at z3
  exact ⟨blk_alloc (blk_alloc (blk_alloc (blk_new w _) _) _) _, blk_alloc (blk_alloc z1 _) _, blk_alloc z2 _, z3, below_alloc (below_alloc (below_alloc (below_alloc (Below.refl _ _) _) _) _) _⟩
set_option maxHeartbeats 8000000 in
set_option maxRecDepth 100000 in
theorem plant_Step.calls (a0_0 a0_1 a0_2 a0_3 a0_4 a0_5 a0_6 a0_7 a0_8 a0_9 a0_10 a0_11 : Int) (a1_0 : Int) (A1_1 : Option Addr) (c1_1 : Nat) (l1_1 : List Int) (a1_2 a1_3 : Int) (a2 a3 : Int) (r1 : Int) (r2 : List Int) (r3 : Int) (r4 : Int) (r5 : Int) (r6 : Bool) (w : World)
    (hr1_1 : Kd.C (Kd.int .i64) w A1_1 l1_1.length l1_1) (hc1_1 : l1_1.length ≤ c1_1) (h : plant_Step.f a0_0 a0_1 a0_2 a0_3 a0_4 a0_5 a0_6 a0_7 a0_8 a0_9 a0_10 a0_11 a1_0 l1_1 a1_2 a1_3 a2 a3 = some (r1, r2, r3, r4, r5, r6)) :
    Calls Try.prog 18 #[.agg #[.int .i64 a0_0, .int .i64 a0_1, .int .i64 a0_2, .int .i64 a0_3, .int .i64 a0_4, .int .i64 a0_5, .int .i64 a0_6, .int .i64 a0_7, .int .i64 a0_8, .int .i64 a0_9, .int .i64 a0_10, .int .i64 a0_11], .agg #[.int .i64 a1_0, .slice A1_1 l1_1.length c1_1, .int .i64 a1_2, .int .i64 a1_3], .int .i64 a2, .int .i64 a3] w
      fun e w' => ∃ v1_ : Value, e = .returned (.tuple #[.agg #[.int .i64 r1, v1_, .int .i64 r3, .int .i64 r4], .agg #[.int .i64 r5, .bool r6]]) ∧ Kd.Q (Kd.int .i64) 3 w' w.heap.size (fun _ => True) v1_ r2 ∧ Below w.heap.size w w' := by
  have hu1 := Try.underlying26
  have hu2 := Try.underlying23
  have hu3 := Try.underlying31
  unfold plant_Step.f at h
  have hD : l1_1.length ≤ 8 ∧ 0 ≤ a0_5 ∧ a0_5 ≤ 8 := by
    by_cases hD : l1_1.length ≤ 8 ∧ 0 ≤ a0_5 ∧ a0_5 ≤ 8
    · exact hD
    · rw [if_neg hD] at h
      cases h
  rw [if_pos hD] at h
  obtain ⟨hl8, hd0, hd8⟩ := hD
  have Hh := Aside0.mk h
  have HR := Aside0.mk hr1_1
  have HC := Aside0.mk hc1_1
  have Hl8 := Aside0.mk hl8
  obtain ⟨cc, hcc⟩ : ∃ cc : Array Value, cc = #[.int .i64 a0_0, .int .i64 a0_1, .int .i64 a0_2, .int .i64 a0_3, .int .i64 a0_4, .int .i64 a0_5, .int .i64 a0_6, .int .i64 a0_7, .int .i64 a0_8, .int .i64 a0_9, .int .i64 a0_10, .int .i64 a0_11] := ⟨_, rfl⟩
  have Hcc := Aside0.mk hcc
  clear h hr1_1 hc1_1 hl8 hcc
  go_enter Try.func18, Try.ntmps18
  go_upto_region 1 with (fail)
  have n1 := PlB.new w #[.int .i64 a0_0, .int .i64 a0_1, .int .i64 a0_2, .int .i64 a0_3, .int .i64 a0_4, .int .i64 a0_5, .int .i64 a0_6, .int .i64 a0_7, .int .i64 a0_8, .int .i64 a0_9, .int .i64 a0_10, .int .i64 a0_11] #[.int .i64 a1_0, .slice A1_1 l1_1.length c1_1, .int .i64 a1_2, .int .i64 a1_3]
  generalize (((w.alloc _).alloc _).alloc _).alloc _ = W0 at n1 ⊢
  have hC0 := Aside0.mk (Kd.C_below HR.out n1.hB)
  have p1 := (n1.cell 1).1
  simp only [List.getElem?_toArray, List.getElem?_cons_zero, List.getElem?_cons_succ] at p1
  have N1 := Aside0.mk n1
  have Hf := Aside0.mk (show slices_Clone_int_int.f l1_1 = some l1_1 by unfold slices_Clone_int_int.f; rw [if_pos (by have := Hl8.out; omega)])
  clear n1 HR
  go_upto_if 20 with (go_at_call 37; refine (slices_Clone_int_int.calls A1_1 c1_1 l1_1 l1_1 _ hC0.out HC.out Hf.out).mono ?_; rintro e_ w1 ⟨v1, rfl, ho, hb⟩; obtain ⟨A', c', rfl⟩ := Kd.R_slice ho; have HS := Aside0.mk (N1.out.below hb); have HO := Aside0.mk (Kd.R_mono (Kd.R_lower ho N1.out.hB.size) (fun _ _ => trivial)); have q1 := (HS.out.cell 1).1; have qf1 := (HS.out.cell 1).2; clear ho hb)
  have S1 := PlB.put HS.out 1 (.slice A' l1_1.length c') rfl
  have Q1 := PlB.q_put HS.out 1 (.slice A' l1_1.length c') (Kd.Q_of_R HO.out)
  generalize w1.setCell _ _ = W1 at S1 Q1 ⊢
  clear HS HO q1 qf1 N1 Hf hC0 p1 HC
  go_cut [] (fun wx => ∃ v', PlS w wx #[.int .i64 a0_0, .int .i64 a0_1, .int .i64 a0_2, .int .i64 a0_3, .int .i64 a0_4, .int .i64 a0_5, .int .i64 a0_6, .int .i64 a0_7, .int .i64 a0_8, .int .i64 a0_9, .int .i64 a0_10, .int .i64 a0_11] (readyL a1_0 l1_1) a1_2 a1_3 v' (l1_1.drop 1))
  case first =>
    by_cases hl : 0 < l1_1.length
    · have b1 : decide (0 < l1_1.length) = true := decide_eq_true hl
      obtain ⟨g, o, c2, hv, hg1, hg2, _⟩ := Kd.Q_form Q1 hl
      injection hv with e1 _ e3
      subst e1
      subst e3
      have p0 := (S1.cell 0).1
      have p1 := (S1.cell 1).1
      have f0 := (S1.cell 0).2
      obtain ⟨c1, _⟩ := Kd.Q_cell (0 : Int) Q1 0 (by omega) (by omega)
      simp only [List.setIfInBounds_toArray, List.set_cons_zero, List.set_cons_succ, List.getElem?_toArray, List.getElem?_cons_zero, List.getElem?_cons_succ] at p0 p1
      obtain ⟨x, hx⟩ : ∃ x, rd l1_1 0 = x := ⟨_, rfl⟩
      have c1' : W1.cell? ⟨g, o, none⟩ = some (.int .i64 x) := by rw [← hx]; exact c1
      have h0 : (0 : Int) < (l1_1.length : Int) := by omega
      have S2 := PlB.put S1 0 (.int .i64 (wrap64 (a1_0 + x))) rfl
      have Q2 := PlB.q_put S1 0 (.int .i64 (wrap64 (a1_0 + x))) Q1
      have HS2 := Aside0.mk S2
      have HQ2 := Aside0.mk Q2
      have HX := Aside0.mk hx
      clear S2 Q2 S1 Q1 hx hg1 hg2 c1
      go_wp2
      go_region
      have S3 := HS2.out.below (below_drew1 (Below.refl _ _))
      have Q3 := Kd.Q_below HQ2.out (below_drew1 (Below.refl _ _))
      generalize (W1.setCell _ _).drew = W2 at S3 Q3 ⊢
      clear p0 p1 f0 c1' HS2 HQ2
      have p1 := (S3.cell 1).1
      have f1 := (S3.cell 1).2
      simp only [List.setIfInBounds_toArray, List.set_cons_zero, List.set_cons_succ, List.getElem?_toArray, List.getElem?_cons_zero, List.getElem?_cons_succ] at p1
      have hr := Kd.Q_drop (k := 1) Q3 (by omega)
      obtain ⟨i0, hi0, _, hsz, _⟩ := info_parts info3
      have hcut := cut_from (P := Try.prog) 24 3 .i64 Try.underlying24 hi0 1 hsz (some ⟨g, o, none⟩) l1_1.length c' 1 (by omega) (by omega)
      obtain ⟨A3, hA3⟩ : ∃ A3, A3 = (if c' = 1 then (some ⟨g, o, none⟩) else (some (⟨g, o, none⟩ : Addr)).map (·.add (1 * 1))) := ⟨_, rfl⟩
      obtain ⟨n3, hn3⟩ : ∃ n3, n3 = l1_1.length - 1 := ⟨_, rfl⟩
      obtain ⟨c3, hc3⟩ : ∃ c3, c3 = c' - 1 := ⟨_, rfl⟩
      rw [show (1 : Int).toNat = 1 from rfl, ← hn3, ← hc3, ← hA3] at hcut
      replace hr : (Kd.int .i64).Q 3 W2 w.heap.size (fun _ => True) (.slice A3 n3 c3) (l1_1.drop 1) := by rw [hA3, hn3, hc3]; exact hr
      clear hA3 hn3 hc3 hi0 hsz Q3
      have HS4 := Aside0.mk (PlB.put S3 1 (.slice A3 n3 c3) rfl)
      have HQ4 := Aside0.mk (PlB.q_put S3 1 (.slice A3 n3 c3) hr)
      clear S3 hr
      go_wp2
      go_meet
      refine ⟨_, ?_, HQ4.out⟩
      have z := HS4.out
      rw [← HX.out] at z
      unfold readyL
      rw [if_pos hl]
      exact z
    · have b1 : decide (0 < l1_1.length) = false := decide_eq_false hl
      have hz : l1_1 = [] := List.eq_nil_of_length_eq_zero (by omega)
      go_wp2
      go_meet
      subst hz
      exact ⟨_, S1, Q1⟩
  case rest =>
    obtain ⟨v1, S1, Q1⟩ := hcut
    have hl7 : (l1_1.drop 1).length ≤ 8 := by have := Hl8.out; rw [List.length_drop]; omega
    obtain ⟨R1, hR1⟩ : ∃ R1, readyL a1_0 l1_1 = R1 := ⟨_, rfl⟩
    obtain ⟨l1, hl1⟩ : ∃ l1, l1_1.drop 1 = l1 := ⟨_, rfl⟩
    rw [hR1] at S1
    rw [hl1] at Q1 hl7
    have h := Hh.out
    rw [hR1, hl1] at h
    clear Hh hR1 hl1
    obtain ⟨A1, c1, rfl, hc1⟩ := Kd.Q_slice Q1
    have p0 := (S1.cell 0).1
    have p1 := (S1.cell 1).1
    have p2 := (S1.cell 2).1
    have p3 := (S1.cell 3).1
    simp only [List.getElem?_toArray, List.getElem?_cons_zero, List.getElem?_cons_succ] at p0 p1 p2 p3
    obtain ⟨al, hal⟩ : ∃ al, allL R1 l1 = al := ⟨_, rfl⟩
    have HF := Aside0.mk (plant_All_fold R1 l1 (by omega) a1_2 a1_3)
    rw [hal] at HF
    obtain ⟨m1, hm1⟩ : ∃ m1, mn a2 1000 = m1 := ⟨_, rfl⟩
    have hm1' : (if 1000 < a2 then 1000 else a2) = m1 := hm1
    obtain ⟨s1, hs1⟩ : ∃ s1, mx 0 m1 = s1 := ⟨_, rfl⟩
    have hs1' : (if 0 < m1 then m1 else 0) = s1 := hs1
    obtain ⟨more, hmore⟩ : ∃ more, wrap64 (s1 - al) = more := ⟨_, rfl⟩
    have hm : moreL R1 a2 l1 = more := by unfold moreL; rw [hm1, hs1, hal, hmore]
    rw [hm] at h
    have Hh := Aside0.mk h
    have HS1 := Aside0.mk S1
    have HQ1 := Aside0.mk Q1
    have HR1 := Aside0.mk ((Kd.Q_reads' Q1).2.2)
    have HC1 := Aside0.mk hc1
    have HL7 := Aside0.mk hl7
    clear h S1 Q1 hm hm1 hs1 hal hc1 hl7
    go_upto_block 0 with (go_at_call 21; refine (plant_All.calls (l1.length + 1) R1 A1 c1 l1 a1_2 a1_3 al _ HR1.out HC1.out HF.out).mono ?_; rintro e_ w5 ⟨rfl, hb⟩; have HS5 := Aside0.mk (HS1.out.below hb); have HQ5 := Aside0.mk (Kd.Q_below HQ1.out hb); clear hb)
    rw [hmore]
    clear p0 p1 p2 p3 HS1 HQ1 HR1 HF hm1' hs1' hmore
    have S5 := HS5.out
    have Q5 := HQ5.out
    have hl8 := HL7.out
    clear HS5 HQ5 HL7 HC1 Hl8 S1 Q1
    go_cut [] (fun wx => ∃ v', PlS w wx #[.int .i64 a0_0, .int .i64 a0_1, .int .i64 a0_2, .int .i64 a0_3, .int .i64 a0_4, .int .i64 a0_5, .int .i64 a0_6, .int .i64 a0_7, .int .i64 a0_8, .int .i64 a0_9, .int .i64 a0_10, .int .i64 a0_11] (sizedL R1 a0_5 more l1).1 a1_2 a1_3 v' (sizedL R1 a0_5 more l1).2 ∧ (sizedL R1 a0_5 more l1).2.length ≤ 8)
    case first =>
      clear Hh
      have d5 := blk_cell S5.hC 5
      simp only [List.getElem?_toArray, List.getElem?_cons_zero, List.getElem?_cons_succ] at d5
      by_cases hp : 0 < more
      · have b1 : decide (0 < more) = true := decide_eq_true hp
        by_cases hz : a0_5 = 0
        · subst hz
          have HS5 := Aside0.mk S5
          have HQ5 := Aside0.mk Q5
          have Hp := Aside0.mk hp
          have Hl := Aside0.mk hl8
          clear S5 Q5 hp hl8
          go_wp2_with (go_at_call 38; refine (grow_zero (w.heap.size + 1) more R1 a1_2 a1_3 (.slice A1 l1.length c1) w5 HS5.out.hP).mono ?_; rintro e_ w6 ⟨rfl, rfl⟩)
          go_meet
          have e : sizedL R1 0 more l1 = (wrap64 (R1 + more), l1) := by unfold sizedL; rw [if_pos Hp.out, if_pos rfl]
          rw [e]
          exact ⟨_, ⟨HS5.out.put 0 _ rfl, HS5.out.q_put 0 _ HQ5.out⟩, Hl.out⟩
        · have hd1 : 0 < a0_5 := by omega
          have HS5 := Aside0.mk S5
          have HQ5 := Aside0.mk Q5
          have Hp := Aside0.mk hp
          have Hl := Aside0.mk hl8
          have Hz := Aside0.mk hz
          have e : sizedL R1 a0_5 more l1 = (R1, growL a0_5 more l1) := by unfold sizedL; rw [if_pos hp, if_neg hz]
          by_cases hle : a0_5 ≤ (l1.length : Int)
          · obtain ⟨g, o, c2, hv, hg1, hg2, cells, hcells⟩ := Kd.Q_form Q5 (by omega)
            injection hv with e1 _ e3
            subst e1
            subst e3
            have HG := Aside0.mk (grow_old (w.heap.size + 1) g o c1 a0_5 more R1 a1_2 a1_3 l1 w.heap.size w5 S5.hP Q5 hd1 hd8 hle hl8)
            have Hle := Aside0.mk hle
            have HE := Aside0.mk e
            have HD := Aside0.mk hd1
            have HT := Aside0.mk hcells
            clear S5 Q5 hp hl8 hz e hle hd1 hg1 hg2 hcells
            go_wp2_with (go_at_call 38; refine HG.out.mono ?_; rintro e_ w6 ⟨rfl, rfl⟩)
            go_meet
            have hle := Hle.out
            have hd1 := HD.out
            have S5 := HS5.out
            have hq := (Kd.Q_putg HQ5.out (a0_5 - 1) (by omega) (by omega) (wrap64 (rd l1 (a0_5 - 1) + more))).1
            have hne : ∀ (k t : Nat) (cs : Array Value), w5.heap[k]? = some (.cells cs t (0, 0)) → 3 ≠ t → k ≠ g := fun k t cs hk ht hkg => Kd.Q_ne HQ5.out hk ht (by rw [hkg]; rfl)
            rw [HE.out]
            refine ⟨_, ⟨⟨blk_far S5.hC (hne _ _ _ S5.hC (by decide)) _, blk_far S5.hP (hne _ _ _ S5.hP (by decide)) _, blk_far S5.hA (hne _ _ _ S5.hA (by decide)) _, blk_far S5.hM (hne _ _ _ S5.hM (by decide)) _, below_set S5.hB (Kd.Q_base HQ5.out g rfl)⟩, ?_⟩, ?_⟩
            · have eg : growL a0_5 more l1 = l1.set (a0_5 - 1).toNat (wrap64 (rd l1 (a0_5 - 1) + more)) := by
                unfold growL
                simp only
                rw [if_neg (by omega)]
              have en : (a0_5 - 1).toNat = a0_5.toNat - 1 := by omega
              rw [en] at hq
              rw [eg, en]
              exact hq
            · show (growL a0_5 more l1).length ≤ 8
              have := Hl.out
              unfold growL
              simp only
              rw [if_neg (by omega), List.length_set]
              exact this
          · have HG := Aside0.mk (grow_new (w.heap.size + 1) (.slice A1 l1.length c1) a0_5 more R1 a1_2 a1_3 l1 w.heap.size w5 S5.hP Q5 S5.hB.size hd1 hd8 (by omega))
            have Hle := Aside0.mk hle
            have HE := Aside0.mk e
            clear S5 Q5 hp hl8 hz e hle hd1
            go_wp2_with (go_at_call 38; refine HG.out.mono ?_; rintro e_ w6 ⟨rfl, v6, g1, g2, g3, g4⟩; have G1 := Aside0.mk g1; have G2 := Aside0.mk g2; have G3 := Aside0.mk g3; have G4 := Aside0.mk g4; clear g1 g2 g3 g4)
            go_meet
            rw [HE.out]
            refine ⟨v6, PlS.kept ⟨HS5.out, HQ5.out⟩ G3.out G4.out G1.out G2.out, ?_⟩
            show (growL a0_5 more l1).length ≤ 8
            have := Hl.out
            unfold growL
            simp only
            rw [List.length_set]
            split
            · rw [List.length_append, List.length_replicate]
              omega
            · exact this
      · have b1 : decide (0 < more) = false := decide_eq_false hp
        by_cases hn : more < 0
        · have b2 : decide (more < 0) = true := decide_eq_true hn
          have e : sizedL R1 a0_5 more l1 = (wrap64 (R1 - (shr l1 (wrap64 (-more)) l1.length).2), (shr l1 (wrap64 (-more)) l1.length).1) := by unfold sizedL; rw [if_neg hp, if_pos hn]
          have HS5 := Aside0.mk S5
          have HQ5 := Aside0.mk Q5
          have Hl := Aside0.mk hl8
          have HE := Aside0.mk e
          by_cases hz : 0 < l1.length
          · obtain ⟨g, o, c2, hv, hg1, hg2, cells, hcells⟩ := Kd.Q_form Q5 hz
            injection hv with e1 _ e3
            subst e1
            subst e3
            have HG := Aside0.mk (shrink_some (w.heap.size + 1) g o c1 (wrap64 (-more)) R1 a1_2 a1_3 l1 w.heap.size w5 S5.hP Q5 (fun hk => Kd.Q_ne Q5 S5.hP (by decide) (by rw [← hk]; rfl)) hl8)
            clear S5 Q5 hp hl8 hz e hn hg1 hg2 hcells
            go_wp2_with (go_at_call 39; refine HG.out.mono ?_; rintro e_ w6 ⟨rfl, g1, g2, g3, g4⟩; have G1 := Aside0.mk g1; have G2 := Aside0.mk g2; have G3 := Aside0.mk g3; have G4 := Aside0.mk g4; clear g1 g2 g3 g4)
            go_meet
            rw [HE.out]
            exact ⟨_, PlS.kept ⟨HS5.out, HQ5.out⟩ (G3.out.mono (fun k hk => hk.imp_right (fun hk => by rw [hk]; rfl))) G4.out G1.out G2.out, by rw [shr_length]; exact Hl.out⟩
          · have hz0 : l1 = [] := List.eq_nil_of_length_eq_zero (by omega)
            subst hz0
            have HG := Aside0.mk (shrink_nil (w.heap.size + 1) c1 A1 (wrap64 (-more)) R1 a1_2 a1_3 w5 S5.hP)
            clear S5 Q5 hp hl8 hz e hn
            go_wp2_with (go_at_call 39; refine HG.out.mono ?_; rintro e_ w6 ⟨rfl, g1, g3, g4⟩; have G1 := Aside0.mk g1; have G3 := Aside0.mk g3; have G4 := Aside0.mk g4; clear g1 g3 g4)
            go_meet
            rw [HE.out]
            exact ⟨_, PlS.kept ⟨HS5.out, HQ5.out⟩ (G3.out.mono (fun k hk => .inl hk)) G4.out G1.out (Kd.Q_mono (Kd.Q_kept (Kd.Q_types HQ5.out HS5.out.hP (by decide)) G3.out (fun k hk e => hk.2 e)) (fun _ _ => trivial)), Hl.out⟩
        · have b2 : decide (more < 0) = false := decide_eq_false hn
          have e : sizedL R1 a0_5 more l1 = (R1, l1) := by unfold sizedL; rw [if_neg hp, if_neg hn]
          have HS5 := Aside0.mk S5
          have HQ5 := Aside0.mk Q5
          have Hl := Aside0.mk hl8
          have HE := Aside0.mk e
          clear S5 Q5 hp hl8 e hn
          go_wp2
          go_meet
          rw [HE.out]
          exact ⟨_, ⟨HS5.out, HQ5.out⟩, Hl.out⟩
    case rest =>
      obtain ⟨v6, ⟨S6, Q6⟩, hl6⟩ := hcut
      obtain ⟨s2, hs2⟩ : ∃ s2, sizedL R1 a0_5 more l1 = s2 := ⟨_, rfl⟩
      obtain ⟨R2, l2⟩ := s2
      rw [hs2] at S6 Q6 hl6
      have h := Hh.out
      rw [hs2] at h
      clear Hh hs2
      dsimp only at S6 Q6 hl6 h
      have Hh := Aside0.mk h
      clear h S5 Q5 hl8
      go_upto_block 1 with (fail)
      go_cut [] (fun wx => ∃ v', PlS w wx #[.int .i64 a0_0, .int .i64 a0_1, .int .i64 a0_2, .int .i64 a0_3, .int .i64 a0_4, .int .i64 a0_5, .int .i64 a0_6, .int .i64 a0_7, .int .i64 a0_8, .int .i64 a0_9, .int .i64 a0_10, .int .i64 a0_11] R2 a1_2 a1_3 v' (trimL l2))
      case first =>
        clear Hh
        go_wp2
        go_loopg [] l2.length (fun kq wr => ∃ (v : Value) (l : List Int), PlS w wr #[.int .i64 a0_0, .int .i64 a0_1, .int .i64 a0_2, .int .i64 a0_3, .int .i64 a0_4, .int .i64 a0_5, .int .i64 a0_6, .int .i64 a0_7, .int .i64 a0_8, .int .i64 a0_9, .int .i64 a0_10, .int .i64 a0_11] R2 a1_2 a1_3 v l ∧ l.length = kq ∧ Aside0 (trimL l = trimL l2) ∧ Aside0 (l.length ≤ 8))
        case atStart => exact ⟨v6, l2, ⟨S6, Q6⟩, rfl, ⟨rfl⟩, ⟨hl6⟩⟩
        case round =>
          clear S6 Q6 hl6
          obtain ⟨v, l, ⟨S, Q⟩, rfl, HT, HL⟩ := hrel
          obtain ⟨A, c, rfl, hc⟩ := Kd.Q_slice Q
          have p1 := (S.cell 1).1
          have f1 := (S.cell 1).2
          simp only [List.getElem?_toArray, List.getElem?_cons_zero, List.getElem?_cons_succ] at p1
          by_cases hl : 0 < l.length
          · have hl8 := HL.out
            have b1 : decide (0 < l.length) = true := decide_eq_true hl
            obtain ⟨g, o, c2, hv, hg1, hg2, _⟩ := Kd.Q_form Q hl
            injection hv with e1 _ e3
            subst e1
            subst e3
            obtain ⟨c1', _⟩ := Kd.Q_cell (0 : Int) Q ((l.length : Int) - 1) (by omega) (by omega)
            obtain ⟨x, hx⟩ : ∃ x, rd l ((l.length : Int) - 1) = x := ⟨_, rfl⟩
            have c1 : wr.cell? ⟨g, o + (l.length - 1), none⟩ = some (.int .i64 x) := by
              rw [← hx, show l.length - 1 = ((l.length : Int) - 1).toNat by omega]
              exact c1'
            have c2 : wr.cell? ⟨g, o + ((l.length : Int) - 1).toNat, none⟩ = some (.int .i64 x) := by
              rw [← hx]
              exact c1'
            have w1 : wrap64 ((l.length : Int) - 1) = (l.length : Int) - 1 := IntWalk.wrap64_in _ (by omega)
            have b3 : 0 ≤ (l.length : Int) - 1 := by omega
            have b4 : (l.length : Int) - 1 < (l.length : Int) := by omega
            clear c1' hc
            have HX := Aside0.mk hx
            have HP := Aside0.mk hl
            have HS := Aside0.mk S
            have HQ := Aside0.mk Q
            by_cases hz : x = 0
            · subst hz
              have hr := Kd.Q_take (m := l.length - 1) Q (by omega)
              obtain ⟨i0, hi0, _, hsz, _⟩ := info_parts info3
              have hcut := cut_to (P := Try.prog) 24 3 .i64 Try.underlying24 hi0 (some ⟨g, o, none⟩) l.length c ((l.length : Int) - 1) (by omega) (by omega) (Kd.Q_reads' Q).2.1
              rw [show ((l.length : Int) - 1).toNat = l.length - 1 by omega] at hcut
              have hr' := S.q_put 1 (.slice (some ⟨g, o, none⟩) (l.length - 1) c) hr
              have HR := Aside0.mk hr'
              clear hi0 hsz hr hr' hx S Q hl hl8 hg1 hg2
              go_wp2
              go_roundg (l.length - 1)
              case measure => have := HP.out; omega
              case rel => exact ⟨_, l.take (l.length - 1), ⟨HS.out.put 1 _ rfl, HR.out⟩, by rw [List.length_take]; omega, ⟨(trimL_end0 l HP.out HX.out).trans HT.out⟩, ⟨by have := HL.out; rw [List.length_take]; omega⟩⟩
            · have b5 : (x == 0) = false := by simp [hz]
              have HZ := Aside0.mk hz
              clear hx S Q hl hl8 hg1 hg2 hz
              go_wp2
              go_meet
              have e := trimL_end l HP.out (by rw [HX.out]; exact HZ.out)
              rw [← HT.out, e]
              exact ⟨_, HS.out, HQ.out⟩
          · have b1 : decide (0 < l.length) = false := decide_eq_false hl
            have hz : l = [] := List.eq_nil_of_length_eq_zero (by omega)
            have HS := Aside0.mk S
            have HQ := Aside0.mk Q
            have HZ := Aside0.mk hz
            clear S Q hl hz
            go_wp2
            go_meet
            rw [← HT.out]
            rw [HZ.out] at HQ
            have := HZ.out
            subst this
            exact ⟨_, HS.out, HQ.out⟩
      case rest =>
        obtain ⟨v7, S7, Q7⟩ := hcut
        obtain ⟨todo, ht, h1⟩ := Option.bind_eq_some_iff.1 Hh.out
        obtain ⟨can, hc, h2⟩ := Option.bind_eq_some_iff.1 h1
        obtain ⟨ut, hd, h⟩ := Option.bind_eq_some_iff.1 h2
        clear h1 h2
        simp only [Option.some.injEq, Prod.mk.injEq] at h
        obtain ⟨l3, hl3⟩ : ∃ l3, trimL l2 = l3 := ⟨_, rfl⟩
        rw [hl3] at Q7 h
        obtain ⟨e1, e2, e3, e4, e5, e6⟩ := h
        clear Hh
        have HT := Aside0.mk ht
        have HC := Aside0.mk hc
        have HD := Aside0.mk hd
        obtain ⟨A7, c7, rfl, hc7⟩ := Kd.Q_slice Q7
        obtain ⟨m2, hm2⟩ : ∃ m2, mn a3 1000000 = m2 := ⟨_, rfl⟩
        have hm2' : (if 1000000 < a3 then 1000000 else a3) = m2 := hm2
        obtain ⟨s2, hs2⟩ : ∃ s2, mx 0 m2 = s2 := ⟨_, rfl⟩
        have hs2' : (if 0 < m2 then m2 else 0) = s2 := hs2
        obtain ⟨wd, hwd⟩ : ∃ wd, wrap64 (todo - can) = wd := ⟨_, rfl⟩
        obtain ⟨wt, hwt⟩ : ∃ wt, mx 0 wd = wt := ⟨_, rfl⟩
        have hwt' : (if 0 < wd then wd else 0) = wt := hwt
        rw [hm2, hs2] at HT
        rw [hwd, hwt] at e3 e6
        have hlen : l3.length < 9000000000000000000 := by
          have := trimL_length l2
          rw [hl3] at this
          omega
        have HF3 := Aside0.mk (plant_All_fold R2 l3 hlen wt ut)
        rw [e5] at HF3
        subst e1
        subst e2
        subst e3
        subst e4
        subst e6
        have HS := Aside0.mk S7
        have HQ := Aside0.mk Q7
        have p0 := (S7.cell 0).1
        have p2 := (S7.cell 2).1
        have p3 := (S7.cell 3).1
        have f2 := (S7.cell 2).2
        have f3 := (S7.cell 3).2
        have d4 := blk_cell S7.hC 4
        simp only [List.getElem?_toArray, List.getElem?_cons_zero, List.getElem?_cons_succ] at p0 p2 p3 d4
        clear ht hc hd hm2 hs2 hwt e5 S7 Q7 hlen hl3 hc7 S6 Q6 hl6
        go_upto_region 15 with (first | (go_at_call 40; refine (fixed_Add.calls _ _ _ _ HT.out).mono ?_; rintro e_ w_ ⟨rfl, ⟨na, rfl⟩⟩) | (go_at_call 41; refine (fixed_Sat.calls _ _ _ HC.out).mono ?_; rintro e_ w_ ⟨rfl, ⟨nb, rfl⟩⟩) | (go_at_call 42; refine (fixed_Div.calls _ _ _ _ HD.out).mono ?_; rintro e_ w_ ⟨rfl, ⟨nd, rfl⟩⟩))
        have HW := pw_below_drewN (Below.refl wc.heap.size wc) (na + nb + nd)
        have S8 := ((HS.out.below HW).put 2 (.int .i64 wt) rfl).put 3 (.int .i64 ut) rfl
        have Q8 := PlB.q_put ((HS.out.below HW).put 2 (.int .i64 wt) rfl) 3 (.int .i64 ut) (PlB.q_put (HS.out.below HW) 2 (.int .i64 wt) (Kd.Q_below HQ.out HW))
        generalize ((wc.drewN _).setCell _ _).setCell _ _ = W8 at S8 Q8 ⊢
        clear HW HS HQ HT HC HD f2 f3 p0 p2 p3 d4 hm2' hs2' hwd hwt'
        refine start_ (n := 11) (S := fun w' => w'.heap[w.heap.size]? = some (.cells #[.int .i64 a0_0, .int .i64 a0_1, .int .i64 a0_2, .int .i64 a0_3, .int .i64 a0_4, .int .i64 a0_5, .int .i64 a0_6, .int .i64 a0_7, .int .i64 a0_8, .int .i64 a0_9, .int .i64 a0_10, .int .i64 a0_11] 23 (0, 0)) ∧ w'.heap[w.heap.size + 1]? = some (.cells #[.int .i64 R2, .slice A7 l3.length c7, .int .i64 wt, .int .i64 ut] 26 (0, 0))) (ds := []) #[false, false, false, false, false, false, false, false, false, false, false] (by kernel_rfl) rfl rfl ⟨S8.hC, S8.hP⟩ (fun hHeld => ?_)
        have S8 := S8.below (below_drew1 (Below.refl _ _))
        have Q8 := Kd.Q_below Q8 (below_drew1 (Below.refl _ _))
        generalize W8.drew = w9 at S8 Q8 hHeld ⊢
        refine pure_ (i := 3) (N := some 99) (v := ?_) (a' := ?_) #[false, false, false, true, false, false, false, false, false, false, false] rfl rfl (by kernel_rfl) (fun _ _ _ h => h) (Or.inl ⟨by rfl, ?_⟩) ?_ ?_
        rotate_left
        · intro w'
          go_simp
          with_reducible rfl
        rotate_left
        · simp only [Act.put, List.setIfInBounds_toArray, List.set_cons_zero, List.set_cons_succ, i64_w, i32_w]
          rfl
        refine pure_ (i := 5) (N := some 101) (v := ?_) (a' := ?_) #[false, false, false, true, false, true, false, false, false, false, false] rfl rfl (by kernel_rfl) (fun _ _ _ h => h) (Or.inl ⟨by rfl, ?_⟩) ?_ ?_
        rotate_left
        · intro w'
          go_simp
          with_reducible rfl
        rotate_left
        · simp only [Act.put, List.setIfInBounds_toArray, List.set_cons_zero, List.set_cons_succ, i64_w, i32_w]
          rfl
        refine take_ (i := 0) (N := some 96) (v := ?_) (a' := ?_) #[true, false, false, true, false, true, false, false, false, false, false] rfl rfl (by kernel_rfl) (fun _ _ _ h => h) (Or.inl ⟨by rfl, ?_⟩) hHeld ?_ ?_
        rotate_left
        · intro w' hS
          have s0 := blk_cell hS.2 0
          have s1 := blk_cell hS.2 1
          have s2 := blk_cell hS.2 2
          have s3 := blk_cell hS.2 3
          simp only [List.getElem?_toArray, List.getElem?_cons_zero, List.getElem?_cons_succ] at s0 s1 s2 s3
          clear hS
          go_simp
          with_reducible rfl
        rotate_left
        · simp only [Act.put, List.setIfInBounds_toArray, List.set_cons_zero, List.set_cons_succ, i64_w, i32_w]
          rfl
        refine take_ (i := 1) (N := some 97) (v := ?_) (a' := ?_) #[true, true, false, true, false, true, false, false, false, false, false] rfl rfl (by kernel_rfl) (fun _ _ _ h => h) (Or.inl ⟨by rfl, ?_⟩) hHeld ?_ ?_
        rotate_left
        · intro w' hS
          have s0 := blk_cell hS.2 0
          have s1 := blk_cell hS.2 1
          have s2 := blk_cell hS.2 2
          have s3 := blk_cell hS.2 3
          simp only [List.getElem?_toArray, List.getElem?_cons_zero, List.getElem?_cons_succ] at s0 s1 s2 s3
          clear hS
          go_simp
          with_reducible rfl
        rotate_left
        · simp only [Act.put, List.setIfInBounds_toArray, List.set_cons_zero, List.set_cons_succ, i64_w, i32_w]
          rfl
        refine take_ (i := 4) (N := some 100) (v := ?_) (a' := ?_) #[true, true, false, true, true, true, false, false, false, false, false] rfl rfl (by kernel_rfl) (fun _ _ _ h => h) (Or.inl ⟨by rfl, ?_⟩) hHeld ?_ ?_
        rotate_left
        · intro w' hS
          have s0 := blk_cell hS.2 0
          have s1 := blk_cell hS.2 1
          have s2 := blk_cell hS.2 2
          have s3 := blk_cell hS.2 3
          simp only [List.getElem?_toArray, List.getElem?_cons_zero, List.getElem?_cons_succ] at s0 s1 s2 s3
          clear hS
          go_simp
          with_reducible rfl
        rotate_left
        · simp only [Act.put, List.setIfInBounds_toArray, List.set_cons_zero, List.set_cons_succ, i64_w, i32_w]
          rfl
        refine take_ (i := 6) (N := some 102) (v := ?_) (a' := ?_) #[true, true, false, true, true, true, true, false, false, false, false] rfl rfl (by kernel_rfl) (fun _ _ _ h => h) (Or.inl ⟨by rfl, ?_⟩) hHeld ?_ ?_
        rotate_left
        · intro w' hS
          have s6 := blk_cell hS.1 6
          simp only [List.getElem?_toArray, List.getElem?_cons_zero, List.getElem?_cons_succ] at s6
          clear hS
          go_simp
          with_reducible rfl
        rotate_left
        · simp only [Act.put, List.setIfInBounds_toArray, List.set_cons_zero, List.set_cons_succ, i64_w, i32_w]
          rfl
        refine pure_ (i := 7) (N := some 103) (v := ?_) (a' := ?_) #[true, true, false, true, true, true, true, true, false, false, false] rfl rfl (by kernel_rfl) (fun _ _ _ h => h) (Or.inl ⟨by rfl, ?_⟩) ?_ ?_
        rotate_left
        · intro w'
          go_simp
          with_reducible rfl
        rotate_left
        · simp only [Act.put, List.setIfInBounds_toArray, List.set_cons_zero, List.set_cons_succ, i64_w, i32_w]
          rfl
        refine one_ (i := 2) (N := some 98) #[true, true, true, true, true, true, true, true, false, false, false] rfl rfl (by kernel_rfl) (by decide) (fun K hK => ?_)
        refine goes_ Try.func21 (by kernel_rfl) rfl #[.agg #[.int .i64 R2, .slice A7 l3.length c7, .int .i64 wt, .int .i64 ut]] (by rfl) rfl rfl (by simp only [List.map_toArray, List.map_cons, List.map_nil]; rfl) ?_
        refine (plant_All.calls (l3.length + 1) R2 A7 c7 l3 wt ut r5 _ (Kd.Q_reads' Q8).2.2 (Kd.Q_reads' Q8).2.1 HF3.out).mono ?_
        rintro e_ w_ ⟨rfl, hb⟩
        refine ⟨_, rfl, ?_⟩
        have S8 := S8.below hb
        have Q8 := Kd.Q_below Q8 hb
        clear hb
        refine hK.out _ _ ⟨S8.hC, S8.hP⟩ (fun hHeld => ?_)
        clear hK K
        refine norm_ (a' := ?_) ?_ ?_
        rotate_left
        · show Act.put _ (some 98) _ = _
          simp only [Act.put, List.setIfInBounds_toArray, List.set_cons_zero, List.set_cons_succ, i64_w, i32_w]
          rfl
        refine pure_ (i := 8) (N := some 104) (v := ?_) (a' := ?_) #[true, true, true, true, true, true, true, true, true, false, false] rfl rfl (by kernel_rfl) (fun _ _ _ h => h) (Or.inl ⟨by rfl, ?_⟩) ?_ ?_
        rotate_left
        · intro w'
          go_simp
          with_reducible rfl
        rotate_left
        · simp only [Act.put, List.setIfInBounds_toArray, List.set_cons_zero, List.set_cons_succ, i64_w, i32_w]
          rfl
        refine one_ (i := 9) (N := none) #[true, true, true, true, true, true, true, true, true, true, false] rfl rfl (by kernel_rfl) (by decide) (fun K hK => ?_)
        have z0 := blk_cell S8.hA 0
        have f0 := blk_frozen S8.hA 0
        have z1 := blk_cell S8.hA 1
        have f1 := blk_frozen S8.hA 1
        have z2 := blk_cell S8.hA 2
        have f2 := blk_frozen S8.hA 2
        have z3 := blk_cell S8.hA 3
        have f3 := blk_frozen S8.hA 3
        simp only [List.getElem?_toArray, List.getElem?_cons_zero, List.getElem?_cons_succ] at z0 z1 z2 z3
        refine skip_ (w1 := ?_) (by rfl) rfl ?_ ?_
        rotate_left
        · go_simp
          rfl
        clear z0 f0 z1 f1 z2 f2 z3 f3
        have C9 := blk_far (p := ⟨w.heap.size + 1 + 1, 3, none⟩) (blk_far (p := ⟨w.heap.size + 1 + 1, 2, none⟩) (blk_far (p := ⟨w.heap.size + 1 + 1, 1, none⟩) (blk_far (p := ⟨w.heap.size + 1 + 1, 0, none⟩) (S8.hC) (by show w.heap.size ≠ w.heap.size + 1 + 1; omega) (.int .i64 R2)) (by show w.heap.size ≠ w.heap.size + 1 + 1; omega) (.slice A7 l3.length c7)) (by show w.heap.size ≠ w.heap.size + 1 + 1; omega) (.int .i64 wt)) (by show w.heap.size ≠ w.heap.size + 1 + 1; omega) (.int .i64 ut)
        have P9 := blk_far (p := ⟨w.heap.size + 1 + 1, 3, none⟩) (blk_far (p := ⟨w.heap.size + 1 + 1, 2, none⟩) (blk_far (p := ⟨w.heap.size + 1 + 1, 1, none⟩) (blk_far (p := ⟨w.heap.size + 1 + 1, 0, none⟩) (S8.hP) (by show w.heap.size + 1 ≠ w.heap.size + 1 + 1; omega) (.int .i64 R2)) (by show w.heap.size + 1 ≠ w.heap.size + 1 + 1; omega) (.slice A7 l3.length c7)) (by show w.heap.size + 1 ≠ w.heap.size + 1 + 1; omega) (.int .i64 wt)) (by show w.heap.size + 1 ≠ w.heap.size + 1 + 1; omega) (.int .i64 ut)
        have A9 := blk_put (blk_put (blk_put (blk_put (S8.hA) 0 (.int .i64 R2) rfl) 1 (.slice A7 l3.length c7) rfl) 2 (.int .i64 wt) rfl) 3 (.int .i64 ut) rfl
        have M8 := blk_far (p := ⟨w.heap.size + 1 + 1, 3, none⟩) (blk_far (p := ⟨w.heap.size + 1 + 1, 2, none⟩) (blk_far (p := ⟨w.heap.size + 1 + 1, 1, none⟩) (blk_far (p := ⟨w.heap.size + 1 + 1, 0, none⟩) (S8.hM) (by show w.heap.size + 1 + 1 + 1 ≠ w.heap.size + 1 + 1; omega) (.int .i64 R2)) (by show w.heap.size + 1 + 1 + 1 ≠ w.heap.size + 1 + 1; omega) (.slice A7 l3.length c7)) (by show w.heap.size + 1 + 1 + 1 ≠ w.heap.size + 1 + 1; omega) (.int .i64 wt)) (by show w.heap.size + 1 + 1 + 1 ≠ w.heap.size + 1 + 1; omega) (.int .i64 ut)
        have B9 := below_set (g := w.heap.size + 1 + 1) (j := 3) (v := .int .i64 ut) (below_set (g := w.heap.size + 1 + 1) (j := 2) (v := .int .i64 wt) (below_set (g := w.heap.size + 1 + 1) (j := 1) (v := .slice A7 l3.length c7) (below_set (g := w.heap.size + 1 + 1) (j := 0) (v := .int .i64 R2) (S8.hB) (by omega)) (by omega)) (by omega)) (by omega)
        have Q9 := Kd.Q_far (p := ⟨w.heap.size + 1 + 1, 3, none⟩) (Kd.Q_far (p := ⟨w.heap.size + 1 + 1, 2, none⟩) (Kd.Q_far (p := ⟨w.heap.size + 1 + 1, 1, none⟩) (Kd.Q_far (p := ⟨w.heap.size + 1 + 1, 0, none⟩) (Kd.Q_types Q8 S8.hA (by decide)) (fun k hk => hk.2) (.int .i64 R2)) (fun k hk => hk.2) (.slice A7 l3.length c7)) (fun k hk => hk.2) (.int .i64 wt)) (fun k hk => hk.2) (.int .i64 ut)
        replace Q9 := Kd.Q_mono Q9 (ok' := fun _ => True) (fun _ _ => trivial)
        clear S8 Q8
        generalize ((((w_.setCell _ _).setCell _ _).setCell _ _).setCell _ _) = w10 at C9 P9 A9 M8 B9 Q9 ⊢
        refine hK.out _ _ ⟨C9, P9⟩ (fun hHeld => ?_)
        clear hK K
        refine one_ (i := 10) (N := none) #[true, true, true, true, true, true, true, true, true, true, true] rfl rfl (by kernel_rfl) (by decide) (fun K hK => ?_)
        have z0 := blk_cell M8 0
        have f0 := blk_frozen M8 0
        have z1 := blk_cell M8 1
        have f1 := blk_frozen M8 1
        simp only [List.getElem?_toArray, List.getElem?_cons_zero, List.getElem?_cons_succ] at z0 z1
        refine skip_ (w1 := ?_) (by rfl) rfl ?_ ?_
        rotate_left
        · go_simp
          rfl
        clear z0 f0 z1 f1
        have C10 := blk_far (p := ⟨w.heap.size + 1 + 1 + 1, 1, none⟩) (blk_far (p := ⟨w.heap.size + 1 + 1 + 1, 0, none⟩) (C9) (by show w.heap.size ≠ w.heap.size + 1 + 1 + 1; omega) (.int .i64 r5)) (by show w.heap.size ≠ w.heap.size + 1 + 1 + 1; omega) (.bool (decide (a0_6 < wt)))
        have P10 := blk_far (p := ⟨w.heap.size + 1 + 1 + 1, 1, none⟩) (blk_far (p := ⟨w.heap.size + 1 + 1 + 1, 0, none⟩) (P9) (by show w.heap.size + 1 ≠ w.heap.size + 1 + 1 + 1; omega) (.int .i64 r5)) (by show w.heap.size + 1 ≠ w.heap.size + 1 + 1 + 1; omega) (.bool (decide (a0_6 < wt)))
        have A10 := blk_far (p := ⟨w.heap.size + 1 + 1 + 1, 1, none⟩) (blk_far (p := ⟨w.heap.size + 1 + 1 + 1, 0, none⟩) (A9) (by show w.heap.size + 1 + 1 ≠ w.heap.size + 1 + 1 + 1; omega) (.int .i64 r5)) (by show w.heap.size + 1 + 1 ≠ w.heap.size + 1 + 1 + 1; omega) (.bool (decide (a0_6 < wt)))
        have M10 := blk_put (blk_put (M8) 0 (.int .i64 r5) rfl) 1 (.bool (decide (a0_6 < wt))) rfl
        have B10 := below_set (g := w.heap.size + 1 + 1 + 1) (j := 1) (v := .bool (decide (a0_6 < wt))) (below_set (g := w.heap.size + 1 + 1 + 1) (j := 0) (v := .int .i64 r5) (B9) (by omega)) (by omega)
        have Q10 := Kd.Q_far (p := ⟨w.heap.size + 1 + 1 + 1, 1, none⟩) (Kd.Q_far (p := ⟨w.heap.size + 1 + 1 + 1, 0, none⟩) (Kd.Q_types Q9 M8 (by decide)) (fun k hk => hk.2) (.int .i64 r5)) (fun k hk => hk.2) (.bool (decide (a0_6 < wt)))
        replace Q10 := Kd.Q_mono Q10 (ok' := fun _ => True) (fun _ _ => trivial)
        clear C9 P9 A9 M8 B9 Q9
        generalize ((w10.setCell _ _).setCell _ _) = w11 at C10 P10 A10 M10 B10 Q10 ⊢
        refine hK.out _ _ ⟨C10, P10⟩ (fun hHeld => ?_)
        clear hK K
        refine done_ (by kernel_rfl) ?_
        have HA := Aside0.mk A10
        have HM := Aside0.mk M10
        have HB := Aside0.mk B10
        have HQ := Aside0.mk Q10
        clear C10 P10 A10 M10 B10 Q10 hHeld
        go_wp2
        refine bodyPost_ret (results_cc rfl _ _ (w.heap.size + 1 + 1) (w.heap.size + 1 + 1 + 1) 26 31 _ _ (0, 0) (0, 0) _ _ rfl HA.out Try.underlying26 rfl (by kernel_rfl) rfl HM.out Try.underlying31 rfl (by kernel_rfl)) rfl ?_
        exact ⟨_, rfl, HQ.out, HB.out⟩

end Go.Proofs.Ytgeldfjpafimpaa.PAll
