/- What the laws FleetOwn lean on: the contracts of the functions that they reach, part 3 of 5. -/
import Derived.Test.YtefgoffaidjiaaaMcB2
namespace Go.Proofs.Ytefgoffaidjiaaa.PAll
open Go.RowKit Go.Proofs.YtefgoffaidjiaaaW.PrintWords Go.Proofs.YtefgoffaidjiaaaW.PrintLast Go.Proofs.YtefgoffaidjiaaaW.PrintMore
attribute [local go_sem] max2_int min2_int max_two min_two max_three min_three max_four min_four   -- for this text's walks alone
set_option linter.unusedVariables false
set_option linter.unusedSimpArgs false

/-! ### plant_Step: function 49 -/
/-- HOW MANY THERE ARE. -/
def allL (R : Int) (l : List Int) : Int := l.foldl (fun s x => wrap64 (s + x)) R
/-- WITHOUT THE NOTHING AT THE END. -/
def trimL (l : List Int) : List Int := (l.reverse.dropWhile (fun x => x == 0)).reverse
theorem trimL_nil : trimL [] = [] := rfl
theorem trimL_snoc0 (l : List Int) : trimL (l ++ [0]) = trimL l := by simp [trimL]
theorem trimL_snoc (l : List Int) (x : Int) (h : x ≠ 0) : trimL (l ++ [x]) = l ++ [x] := by simp [trimL, h]
theorem snoc_at (l : List Int) (h : 0 < l.length) : l = l.take (l.length - 1) ++ [rd l ((l.length : Int) - 1)] := by
  have e : rd l ((l.length : Int) - 1) = l[l.length - 1] := by
    unfold rd
    rw [show ((l.length : Int) - 1).toNat = l.length - 1 by omega, List.getD_eq_getElem?_getD, List.getElem?_eq_getElem (by omega)]
    rfl
  have hne : l ≠ [] := List.ne_nil_of_length_pos h
  rw [e, ← List.getLast_eq_getElem hne, ← List.dropLast_eq_take]
  exact (List.dropLast_concat_getLast hne).symm
theorem trimL_end0 (l : List Int) (h : 0 < l.length) (hx : rd l ((l.length : Int) - 1) = 0) : trimL (l.take (l.length - 1)) = trimL l := by
  have e := snoc_at l h
  rw [hx] at e
  rw [show trimL l = trimL (l.take (l.length - 1) ++ [0]) from congrArg trimL e, trimL_snoc0]
theorem trimL_end (l : List Int) (h : 0 < l.length) (hx : rd l ((l.length : Int) - 1) ≠ 0) : trimL l = l := by
  have e := snoc_at l h
  rw [show trimL l = trimL (l.take (l.length - 1) ++ [rd l ((l.length : Int) - 1)]) from congrArg trimL e, trimL_snoc _ _ hx]
  exact e.symm
theorem dropWhile_le {α : Type} (p : α → Bool) : ∀ l : List α, (l.dropWhile p).length ≤ l.length
  | [] => Nat.le_refl _
  | x :: l => by
    rw [List.dropWhile_cons]
    split
    · exact Nat.le_trans (dropWhile_le p l) (Nat.le_succ _)
    · exact Nat.le_refl _
theorem trimL_length (l : List Int) : (trimL l).length ≤ l.length := by
  unfold trimL
  rw [List.length_reverse]
  exact Nat.le_trans (dropWhile_le _ _) (by rw [List.length_reverse]; exact Nat.le_refl _)
/-- WHAT IS LEFT behind grow or shrink. -/
def sizedL (R delay more : Int) (l : List Int) : Int × List Int :=
  if 0 < more then (if delay = 0 then (wrap64 (R + more), l) else (R, growL delay more l))
  else if more < 0 then (wrap64 (R - (shr l (wrap64 (-more)) l.length).2), (shr l (wrap64 (-more)) l.length).1)
  else (R, l)
def readyL (R : Int) (l : List Int) : Int := if 0 < l.length then wrap64 (R + rd l 0) else R
def moreL (R want : Int) (l : List Int) : Int := wrap64 (mx 0 (mn want 1000) - allL R l)
def plant_Step.f (a0_0 a0_1 a0_2 a0_3 a0_4 a0_5 a0_6 a0_7 a0_8 a0_9 a0_10 a0_11 : Int) (a1_0 : Int) (l1_1 : List Int) (a1_2 a1_3 : Int) (a2 a3 : Int) : Option (Int × List Int × Int × Int × Int × Bool) :=
  if l1_1.length ≤ 8 ∧ 0 ≤ a0_5 ∧ a0_5 ≤ 8 then
    let s := sizedL (readyL a1_0 l1_1) a0_5 (moreL (readyL a1_0 l1_1) a2 (l1_1.drop 1)) (l1_1.drop 1)
    (fixed_Add.f a1_2 (mx 0 (mn a3 1000000))).bind fun todo =>
    (fixed_Sat.f (wrap64 (s.1 * a0_4))).bind fun can =>
    (fixed_Div.f todo can).bind fun ut =>
    some (s.1, trimL s.2, mx 0 (wrap64 (todo - can)), ut, allL s.1 (trimL s.2), decide (a0_6 < mx 0 (wrap64 (todo - can))))
  else none
theorem plant_All_at (l : List Int) (hl : l.length < 9000000000000000000) (a b : Int) : ∀ (d : Nat) (j : Nat) (R : Int), l.length = j + d → plant_All.l0 (d + 1) R l (l.length : Int) (j : Int) = some (allL R (l.drop j)) := by
  intro d
  induction d with
  | zero =>
    intro j R h
    rw [plant_All.l0, if_neg (by omega), List.drop_of_length_le (by omega)]
    rfl
  | succ d ih =>
    intro j R h
    rw [plant_All.l0, if_pos (by omega), if_pos (by omega), if_pos (by omega)]
    have e : wrap64 ((j : Int) + 1) = ((j + 1 : Nat) : Int) := by unfold wrap64; omega
    rw [e, ih (j + 1) _ (by omega)]
    have hj : j < l.length := by omega
    rw [List.drop_eq_getElem_cons hj]
    congr 1
    show allL _ _ = List.foldl _ _ _
    rw [List.foldl_cons]
    have e2 : rd l (j : Int) = l[j] := by
      unfold rd
      rw [Int.toNat_natCast, List.getD_eq_getElem?_getD, List.getElem?_eq_getElem hj]
      rfl
    rw [e2]
    rfl
theorem plant_All_fold (R : Int) (l : List Int) (hl : l.length < 9000000000000000000) (a b : Int) : plant_All.f (l.length + 1) R l a b = some (allL R l) :=
  plant_All_at l hl a b l.length 0 R (by omega)
/-- The blocks of Step: the boxes of c and p, the two results'. -/
structure PlB (w W : World) (cc pc : Array Value) : Prop where
  hC : W.heap[w.heap.size]? = some (.cells cc 23 (0, 0))
  hP : W.heap[w.heap.size + 1]? = some (.cells pc 34 (0, 0))
  hA : W.heap[w.heap.size + 1 + 1]? = some (.cells #[.int .i64 0, .slice none 0 0, .int .i64 0, .int .i64 0] 34 (0, 0))
  hM : W.heap[w.heap.size + 1 + 1 + 1]? = some (.cells #[.int .i64 0, .bool false] 52 (0, 0))
  hB : Below w.heap.size w W
/-- .. and the row. -/
def PlS (w W : World) (cc : Array Value) (R wt ut : Int) (v : Value) (l : List Int) : Prop :=
  PlB w W cc #[.int .i64 R, v, .int .i64 wt, .int .i64 ut] ∧ (Kd.int .i64).Q 3 W w.heap.size (fun _ => True) v l
section
variable {w W W1 : World} {cc pc pc' : Array Value} {R wt ut : Int} {v : Value} {l : List Int}
theorem PlB.below (h : PlB w W cc pc) (hb : Below W.heap.size W W1) : PlB w W1 cc pc :=
  ⟨blk_below h.hC hb, blk_below h.hP hb, blk_below h.hA hb, blk_below h.hM hb, below_step h.hB hb⟩
theorem PlB.put (h : PlB w W cc pc) (j : Nat) (u : Value) (e : pc.setIfInBounds j u = pc') : PlB w (W.setCell ⟨w.heap.size + 1, j, none⟩ u) cc pc' :=
  ⟨blk_far h.hC (by show w.heap.size ≠ w.heap.size + 1; omega) _, blk_put h.hP j _ e, blk_far h.hA (by show w.heap.size + 1 + 1 ≠ w.heap.size + 1; omega) _, blk_far h.hM (by show w.heap.size + 1 + 1 + 1 ≠ w.heap.size + 1; omega) _, below_set h.hB (by omega)⟩
theorem PlB.cell (h : PlB w W cc pc) (j : Nat) : W.cell? ⟨w.heap.size + 1, j, none⟩ = pc[j]? ∧ W.frozen? ⟨w.heap.size + 1, j, none⟩ = false := ⟨blk_cell h.hP j, blk_frozen h.hP j⟩
theorem PlB.q_put (h : PlB w W cc pc) (j : Nat) (u : Value) (hq : (Kd.int .i64).Q 3 W w.heap.size (fun _ => True) v l) : (Kd.int .i64).Q 3 (W.setCell ⟨w.heap.size + 1, j, none⟩ u) w.heap.size (fun _ => True) v l :=
  Kd.Q_mono (Kd.Q_set hq h.hP (by decide) j u) (fun _ _ => trivial)
theorem PlS.below (h : PlS w W cc R wt ut v l) (hb : Below W.heap.size W W1) : PlS w W1 cc R wt ut v l := ⟨h.1.below hb, Kd.Q_below h.2 hb⟩
theorem PlS.drew (h : PlS w W cc R wt ut v l) : PlS w W.drew cc R wt ut v l := h.below (below_drew1 (Below.refl _ _))
theorem PlS.kept (h : PlS w W cc R wt ut v l) (hk : Kept W W1 (fun k => k = w.heap.size + 1 ∨ some k = v.ownBlock)) (ho : W1.os = W.os ∧ W1.tape = W.tape ∧ W1.output = W.output) {R' wt' ut' : Int} {v' : Value} {l' : List Int}
    (hP : W1.heap[w.heap.size + 1]? = some (.cells #[.int .i64 R', v', .int .i64 wt', .int .i64 ut'] 34 (0, 0))) (hq : (Kd.int .i64).Q 3 W1 w.heap.size (fun _ => True) v' l') : PlS w W1 cc R' wt' ut' v' l' := by
  obtain ⟨b, q⟩ := h
  refine ⟨⟨blk_kept b.hC hk (fun e => e.elim (by omega) (Kd.Q_ne q b.hC (by decide))), hP, blk_kept b.hA hk (fun e => e.elim (by omega) (Kd.Q_ne q b.hA (by decide))), blk_kept b.hM hk (fun e => e.elim (by omega) (Kd.Q_ne q b.hM (by decide))), ?_⟩, hq⟩
  refine ⟨ho.1.trans b.hB.os, ho.2.1.trans b.hB.tape, ho.2.2.trans b.hB.output, Nat.le_trans b.hB.size hk.1, fun k hlt => ?_⟩
  refine (hk.2 k (Nat.lt_of_lt_of_le hlt b.hB.size) (fun e => ?_)).trans (b.hB.block k hlt)
  rcases e with e | e
  · omega
  · have := Kd.Q_base q k e.symm
    omega
end
theorem PlB.new (w : World) (cc pc : Array Value) :
    PlB w ((((w.alloc (.cells cc 23)).alloc (.cells pc 34)).alloc (.cells #[.int .i64 0, .slice none 0 0, .int .i64 0, .int .i64 0] 34)).alloc (.cells #[.int .i64 0, .bool false] 52)) cc pc := by
  have z1 := blk_new (w.alloc (.cells cc 23)) (.cells pc 34)
  rw [World.size_alloc] at z1
  have z2 := blk_new ((w.alloc (.cells cc 23)).alloc (.cells pc 34)) (.cells #[.int .i64 0, .slice none 0 0, .int .i64 0, .int .i64 0] 34)
  rw [World.size_alloc, World.size_alloc] at z2
  have z3 := blk_new (((w.alloc (.cells cc 23)).alloc (.cells pc 34)).alloc (.cells #[.int .i64 0, .slice none 0 0, .int .i64 0, .int .i64 0] 34)) (.cells #[.int .i64 0, .bool false] 52)
  rw [World.size_alloc, World.size_alloc, World.size_alloc] at z3
  exact ⟨blk_alloc (blk_alloc (blk_alloc (blk_new w _) _) _) _, blk_alloc (blk_alloc z1 _) _, blk_alloc z2 _, z3, below_alloc (below_alloc (below_alloc (below_alloc (Below.refl _ _) _) _) _) _⟩
set_option maxHeartbeats 8000000 in
set_option maxRecDepth 100000 in
theorem plant_Step.calls (a0_0 a0_1 a0_2 a0_3 a0_4 a0_5 a0_6 a0_7 a0_8 a0_9 a0_10 a0_11 : Int) (a1_0 : Int) (A1_1 : Option Addr) (c1_1 : Nat) (l1_1 : List Int) (a1_2 a1_3 : Int) (a2 a3 : Int) (r1 : Int) (r2 : List Int) (r3 : Int) (r4 : Int) (r5 : Int) (r6 : Bool) (w : World)
    (hr1_1 : Kd.C (Kd.int .i64) w A1_1 l1_1.length l1_1) (hc1_1 : l1_1.length ≤ c1_1) (h : plant_Step.f a0_0 a0_1 a0_2 a0_3 a0_4 a0_5 a0_6 a0_7 a0_8 a0_9 a0_10 a0_11 a1_0 l1_1 a1_2 a1_3 a2 a3 = some (r1, r2, r3, r4, r5, r6)) :
    Calls Try.prog 49 #[.agg #[.int .i64 a0_0, .int .i64 a0_1, .int .i64 a0_2, .int .i64 a0_3, .int .i64 a0_4, .int .i64 a0_5, .int .i64 a0_6, .int .i64 a0_7, .int .i64 a0_8, .int .i64 a0_9, .int .i64 a0_10, .int .i64 a0_11], .agg #[.int .i64 a1_0, .slice A1_1 l1_1.length c1_1, .int .i64 a1_2, .int .i64 a1_3], .int .i64 a2, .int .i64 a3] w
      fun e w' => ∃ v1_ : Value, e = .returned (.tuple #[.agg #[.int .i64 r1, v1_, .int .i64 r3, .int .i64 r4], .agg #[.int .i64 r5, .bool r6]]) ∧ Kd.Q (Kd.int .i64) 3 w' w.heap.size (fun _ => True) v1_ r2 ∧ Below w.heap.size w w' := by
  have hu1 := Try.underlying34
  have hu2 := Try.underlying23
  have hu3 := Try.underlying52
  unfold plant_Step.f at h
  have hD : l1_1.length ≤ 8 ∧ 0 ≤ a0_5 ∧ a0_5 ≤ 8 := by
    by_cases hD : l1_1.length ≤ 8 ∧ 0 ≤ a0_5 ∧ a0_5 ≤ 8
    · exact hD
    · rw [if_neg hD] at h
      cases h
  rw [if_pos hD] at h
  obtain ⟨hl8, hd0, hd8⟩ := hD
  have Hh := Aside0.mk h
  have HR := Aside0.mk hr1_1
  have HC := Aside0.mk hc1_1
  have Hl8 := Aside0.mk hl8
  obtain ⟨cc, hcc⟩ : ∃ cc : Array Value, cc = #[.int .i64 a0_0, .int .i64 a0_1, .int .i64 a0_2, .int .i64 a0_3, .int .i64 a0_4, .int .i64 a0_5, .int .i64 a0_6, .int .i64 a0_7, .int .i64 a0_8, .int .i64 a0_9, .int .i64 a0_10, .int .i64 a0_11] := ⟨_, rfl⟩
  have Hcc := Aside0.mk hcc
  clear h hr1_1 hc1_1 hl8 hcc
  go_enter Try.func49, Try.ntmps49
  go_upto_region 1 with (fail)
  have n1 := PlB.new w #[.int .i64 a0_0, .int .i64 a0_1, .int .i64 a0_2, .int .i64 a0_3, .int .i64 a0_4, .int .i64 a0_5, .int .i64 a0_6, .int .i64 a0_7, .int .i64 a0_8, .int .i64 a0_9, .int .i64 a0_10, .int .i64 a0_11] #[.int .i64 a1_0, .slice A1_1 l1_1.length c1_1, .int .i64 a1_2, .int .i64 a1_3]
  generalize (((w.alloc _).alloc _).alloc _).alloc _ = W0 at n1 ⊢
  have hC0 := Aside0.mk (Kd.C_below HR.out n1.hB)
  have p1 := (n1.cell 1).1
  simp only [List.getElem?_toArray, List.getElem?_cons_zero, List.getElem?_cons_succ] at p1
  have N1 := Aside0.mk n1
  have Hf := Aside0.mk (show slices_Clone_int_int.f l1_1 = some l1_1 by unfold slices_Clone_int_int.f; rw [if_pos (by have := Hl8.out; omega)])
  clear n1 HR
  go_upto_if 20 with (go_at_call 41; refine (slices_Clone_int_int.calls A1_1 c1_1 l1_1 l1_1 _ hC0.out HC.out Hf.out).mono ?_; rintro e_ w1 ⟨v1, rfl, ho, hb⟩; obtain ⟨A', c', rfl⟩ := Kd.R_slice ho; have HS := Aside0.mk (N1.out.below hb); have HO := Aside0.mk (Kd.R_mono (Kd.R_lower ho N1.out.hB.size) (fun _ _ => trivial)); have q1 := (HS.out.cell 1).1; have qf1 := (HS.out.cell 1).2; clear ho hb)
  have S1 := PlB.put HS.out 1 (.slice A' l1_1.length c') rfl
  have Q1 := PlB.q_put HS.out 1 (.slice A' l1_1.length c') (Kd.Q_of_R HO.out)
  generalize w1.setCell _ _ = W1 at S1 Q1 ⊢
  clear HS HO q1 qf1 N1 Hf hC0 p1 HC
  go_cut [] (fun wx => ∃ v', PlS w wx #[.int .i64 a0_0, .int .i64 a0_1, .int .i64 a0_2, .int .i64 a0_3, .int .i64 a0_4, .int .i64 a0_5, .int .i64 a0_6, .int .i64 a0_7, .int .i64 a0_8, .int .i64 a0_9, .int .i64 a0_10, .int .i64 a0_11] (readyL a1_0 l1_1) a1_2 a1_3 v' (l1_1.drop 1))
  case first =>
    by_cases hl : 0 < l1_1.length
    · have b1 : decide (0 < l1_1.length) = true := decide_eq_true hl
      obtain ⟨g, o, c2, hv, hg1, hg2, _⟩ := Kd.Q_form Q1 hl
      injection hv with e1 _ e3
      subst e1
      subst e3
      have p0 := (S1.cell 0).1
      have p1 := (S1.cell 1).1
      have f0 := (S1.cell 0).2
      obtain ⟨c1, _⟩ := Kd.Q_cell (0 : Int) Q1 0 (by omega) (by omega)
      simp only [List.setIfInBounds_toArray, List.set_cons_zero, List.set_cons_succ, List.getElem?_toArray, List.getElem?_cons_zero, List.getElem?_cons_succ] at p0 p1
      obtain ⟨x, hx⟩ : ∃ x, rd l1_1 0 = x := ⟨_, rfl⟩
      have c1' : W1.cell? ⟨g, o, none⟩ = some (.int .i64 x) := by rw [← hx]; exact c1
      have h0 : (0 : Int) < (l1_1.length : Int) := by omega
      have S2 := PlB.put S1 0 (.int .i64 (wrap64 (a1_0 + x))) rfl
      have Q2 := PlB.q_put S1 0 (.int .i64 (wrap64 (a1_0 + x))) Q1
      have HS2 := Aside0.mk S2
      have HQ2 := Aside0.mk Q2
      have HX := Aside0.mk hx
      clear S2 Q2 S1 Q1 hx hg1 hg2 c1
      go_wp2
      go_region
      have S3 := HS2.out.below (below_drew1 (Below.refl _ _))
      have Q3 := Kd.Q_below HQ2.out (below_drew1 (Below.refl _ _))
      generalize (W1.setCell _ _).drew = W2 at S3 Q3 ⊢
      clear p0 p1 f0 c1' HS2 HQ2
      have p1 := (S3.cell 1).1
      have f1 := (S3.cell 1).2
      simp only [List.setIfInBounds_toArray, List.set_cons_zero, List.set_cons_succ, List.getElem?_toArray, List.getElem?_cons_zero, List.getElem?_cons_succ] at p1
      have hr := Kd.Q_drop (k := 1) Q3 (by omega)
      obtain ⟨i0, hi0, _, hsz, _⟩ := info_parts info3
      have hcut := cut_from (P := Try.prog) 32 3 .i64 Try.underlying32 hi0 1 hsz (some ⟨g, o, none⟩) l1_1.length c' 1 (by omega) (by omega)
      obtain ⟨A3, hA3⟩ : ∃ A3, A3 = (if c' = 1 then (some ⟨g, o, none⟩) else (some (⟨g, o, none⟩ : Addr)).map (·.add (1 * 1))) := ⟨_, rfl⟩
      obtain ⟨n3, hn3⟩ : ∃ n3, n3 = l1_1.length - 1 := ⟨_, rfl⟩
      obtain ⟨c3, hc3⟩ : ∃ c3, c3 = c' - 1 := ⟨_, rfl⟩
      rw [show (1 : Int).toNat = 1 from rfl, ← hn3, ← hc3, ← hA3] at hcut
      replace hr : (Kd.int .i64).Q 3 W2 w.heap.size (fun _ => True) (.slice A3 n3 c3) (l1_1.drop 1) := by rw [hA3, hn3, hc3]; exact hr
      clear hA3 hn3 hc3 hi0 hsz Q3
      have HS4 := Aside0.mk (PlB.put S3 1 (.slice A3 n3 c3) rfl)
      have HQ4 := Aside0.mk (PlB.q_put S3 1 (.slice A3 n3 c3) hr)
      clear S3 hr
      go_wp2
      go_meet
      refine ⟨_, ?_, HQ4.out⟩
      have z := HS4.out
      rw [← HX.out] at z
      unfold readyL
      rw [if_pos hl]
      exact z
    · have b1 : decide (0 < l1_1.length) = false := decide_eq_false hl
      have hz : l1_1 = [] := List.eq_nil_of_length_eq_zero (by omega)
      go_wp2
      go_meet
      subst hz
      exact ⟨_, S1, Q1⟩
  case rest =>
    obtain ⟨v1, S1, Q1⟩ := hcut
    have hl7 : (l1_1.drop 1).length ≤ 8 := by have := Hl8.out; rw [List.length_drop]; omega
    obtain ⟨R1, hR1⟩ : ∃ R1, readyL a1_0 l1_1 = R1 := ⟨_, rfl⟩
    obtain ⟨l1, hl1⟩ : ∃ l1, l1_1.drop 1 = l1 := ⟨_, rfl⟩
    rw [hR1] at S1
    rw [hl1] at Q1 hl7
    have h := Hh.out
    rw [hR1, hl1] at h
    clear Hh hR1 hl1
    obtain ⟨A1, c1, rfl, hc1⟩ := Kd.Q_slice Q1
    have p0 := (S1.cell 0).1
    have p1 := (S1.cell 1).1
    have p2 := (S1.cell 2).1
    have p3 := (S1.cell 3).1
    simp only [List.getElem?_toArray, List.getElem?_cons_zero, List.getElem?_cons_succ] at p0 p1 p2 p3
    obtain ⟨al, hal⟩ : ∃ al, allL R1 l1 = al := ⟨_, rfl⟩
    have HF := Aside0.mk (plant_All_fold R1 l1 (by omega) a1_2 a1_3)
    rw [hal] at HF
    obtain ⟨m1, hm1⟩ : ∃ m1, mn a2 1000 = m1 := ⟨_, rfl⟩
    have hm1' : (if 1000 < a2 then 1000 else a2) = m1 := hm1
    obtain ⟨s1, hs1⟩ : ∃ s1, mx 0 m1 = s1 := ⟨_, rfl⟩
    have hs1' : (if 0 < m1 then m1 else 0) = s1 := hs1
    obtain ⟨more, hmore⟩ : ∃ more, wrap64 (s1 - al) = more := ⟨_, rfl⟩
    have hm : moreL R1 a2 l1 = more := by unfold moreL; rw [hm1, hs1, hal, hmore]
    rw [hm] at h
    have Hh := Aside0.mk h
    have HS1 := Aside0.mk S1
    have HQ1 := Aside0.mk Q1
    have HR1 := Aside0.mk ((Kd.Q_reads' Q1).2.2)
    have HC1 := Aside0.mk hc1
    have HL7 := Aside0.mk hl7
    clear h S1 Q1 hm hm1 hs1 hal hc1 hl7
    go_upto_block 0 with (go_at_call 61; refine (plant_All.calls (l1.length + 1) R1 A1 c1 l1 a1_2 a1_3 al _ HR1.out HC1.out HF.out).mono ?_; rintro e_ w5 ⟨rfl, hb⟩; have HS5 := Aside0.mk (HS1.out.below hb); have HQ5 := Aside0.mk (Kd.Q_below HQ1.out hb); clear hb)
    rw [hmore]
    clear p0 p1 p2 p3 HS1 HQ1 HR1 HF hm1' hs1' hmore
    have S5 := HS5.out
    have Q5 := HQ5.out
    have hl8 := HL7.out
    clear HS5 HQ5 HL7 HC1 Hl8 S1 Q1
    go_cut [] (fun wx => ∃ v', PlS w wx #[.int .i64 a0_0, .int .i64 a0_1, .int .i64 a0_2, .int .i64 a0_3, .int .i64 a0_4, .int .i64 a0_5, .int .i64 a0_6, .int .i64 a0_7, .int .i64 a0_8, .int .i64 a0_9, .int .i64 a0_10, .int .i64 a0_11] (sizedL R1 a0_5 more l1).1 a1_2 a1_3 v' (sizedL R1 a0_5 more l1).2 ∧ (sizedL R1 a0_5 more l1).2.length ≤ 8)
    case first =>
      clear Hh
      have d5 := blk_cell S5.hC 5
      simp only [List.getElem?_toArray, List.getElem?_cons_zero, List.getElem?_cons_succ] at d5
      by_cases hp : 0 < more
      · have b1 : decide (0 < more) = true := decide_eq_true hp
        by_cases hz : a0_5 = 0
        · subst hz
          have HS5 := Aside0.mk S5
          have HQ5 := Aside0.mk Q5
          have Hp := Aside0.mk hp
          have Hl := Aside0.mk hl8
          clear S5 Q5 hp hl8
          go_wp2_with (go_at_call 62; refine (grow_zero (w.heap.size + 1) more R1 a1_2 a1_3 (.slice A1 l1.length c1) w5 HS5.out.hP).mono ?_; rintro e_ w6 ⟨rfl, rfl⟩)
          go_meet
          have e : sizedL R1 0 more l1 = (wrap64 (R1 + more), l1) := by unfold sizedL; rw [if_pos Hp.out, if_pos rfl]
          rw [e]
          exact ⟨_, ⟨HS5.out.put 0 _ rfl, HS5.out.q_put 0 _ HQ5.out⟩, Hl.out⟩
        · have hd1 : 0 < a0_5 := by omega
          have HS5 := Aside0.mk S5
          have HQ5 := Aside0.mk Q5
          have Hp := Aside0.mk hp
          have Hl := Aside0.mk hl8
          have Hz := Aside0.mk hz
          have e : sizedL R1 a0_5 more l1 = (R1, growL a0_5 more l1) := by unfold sizedL; rw [if_pos hp, if_neg hz]
          by_cases hle : a0_5 ≤ (l1.length : Int)
          · obtain ⟨g, o, c2, hv, hg1, hg2, cells, hcells⟩ := Kd.Q_form Q5 (by omega)
            injection hv with e1 _ e3
            subst e1
            subst e3
            have HG := Aside0.mk (grow_old (w.heap.size + 1) g o c1 a0_5 more R1 a1_2 a1_3 l1 w.heap.size w5 S5.hP Q5 hd1 hd8 hle hl8)
            have Hle := Aside0.mk hle
            have HE := Aside0.mk e
            have HD := Aside0.mk hd1
            have HT := Aside0.mk hcells
            clear S5 Q5 hp hl8 hz e hle hd1 hg1 hg2 hcells
            go_wp2_with (go_at_call 62; refine HG.out.mono ?_; rintro e_ w6 ⟨rfl, rfl⟩)
            go_meet
            have hle := Hle.out
            have hd1 := HD.out
            have S5 := HS5.out
            have hq := (Kd.Q_putg HQ5.out (a0_5 - 1) (by omega) (by omega) (wrap64 (rd l1 (a0_5 - 1) + more))).1
            have hne : ∀ (k t : Nat) (cs : Array Value), w5.heap[k]? = some (.cells cs t (0, 0)) → 3 ≠ t → k ≠ g := fun k t cs hk ht hkg => Kd.Q_ne HQ5.out hk ht (by rw [hkg]; rfl)
            rw [HE.out]
            refine ⟨_, ⟨⟨blk_far S5.hC (hne _ _ _ S5.hC (by decide)) _, blk_far S5.hP (hne _ _ _ S5.hP (by decide)) _, blk_far S5.hA (hne _ _ _ S5.hA (by decide)) _, blk_far S5.hM (hne _ _ _ S5.hM (by decide)) _, below_set S5.hB (Kd.Q_base HQ5.out g rfl)⟩, ?_⟩, ?_⟩
            · have eg : growL a0_5 more l1 = l1.set (a0_5 - 1).toNat (wrap64 (rd l1 (a0_5 - 1) + more)) := by
                unfold growL
                simp only
                rw [if_neg (by omega)]
              have en : (a0_5 - 1).toNat = a0_5.toNat - 1 := by omega
              rw [en] at hq
              rw [eg, en]
              exact hq
            · show (growL a0_5 more l1).length ≤ 8
              have := Hl.out
              unfold growL
              simp only
              rw [if_neg (by omega), List.length_set]
              exact this
          · have HG := Aside0.mk (grow_new (w.heap.size + 1) (.slice A1 l1.length c1) a0_5 more R1 a1_2 a1_3 l1 w.heap.size w5 S5.hP Q5 S5.hB.size hd1 hd8 (by omega))
            have Hle := Aside0.mk hle
            have HE := Aside0.mk e
            clear S5 Q5 hp hl8 hz e hle hd1
            go_wp2_with (go_at_call 62; refine HG.out.mono ?_; rintro e_ w6 ⟨rfl, v6, g1, g2, g3, g4⟩; have G1 := Aside0.mk g1; have G2 := Aside0.mk g2; have G3 := Aside0.mk g3; have G4 := Aside0.mk g4; clear g1 g2 g3 g4)
            go_meet
            rw [HE.out]
            refine ⟨v6, PlS.kept ⟨HS5.out, HQ5.out⟩ G3.out G4.out G1.out G2.out, ?_⟩
            show (growL a0_5 more l1).length ≤ 8
            have := Hl.out
            unfold growL
            simp only
            rw [List.length_set]
            split
            · rw [List.length_append, List.length_replicate]
              omega
            · exact this
      · have b1 : decide (0 < more) = false := decide_eq_false hp
        by_cases hn : more < 0
        · have b2 : decide (more < 0) = true := decide_eq_true hn
          have e : sizedL R1 a0_5 more l1 = (wrap64 (R1 - (shr l1 (wrap64 (-more)) l1.length).2), (shr l1 (wrap64 (-more)) l1.length).1) := by unfold sizedL; rw [if_neg hp, if_pos hn]
          have HS5 := Aside0.mk S5
          have HQ5 := Aside0.mk Q5
          have Hl := Aside0.mk hl8
          have HE := Aside0.mk e
          by_cases hz : 0 < l1.length
          · obtain ⟨g, o, c2, hv, hg1, hg2, cells, hcells⟩ := Kd.Q_form Q5 hz
            injection hv with e1 _ e3
            subst e1
            subst e3
            have HG := Aside0.mk (shrink_some (w.heap.size + 1) g o c1 (wrap64 (-more)) R1 a1_2 a1_3 l1 w.heap.size w5 S5.hP Q5 (fun hk => Kd.Q_ne Q5 S5.hP (by decide) (by rw [← hk]; rfl)) hl8)
            clear S5 Q5 hp hl8 hz e hn hg1 hg2 hcells
            go_wp2_with (go_at_call 63; refine HG.out.mono ?_; rintro e_ w6 ⟨rfl, g1, g2, g3, g4⟩; have G1 := Aside0.mk g1; have G2 := Aside0.mk g2; have G3 := Aside0.mk g3; have G4 := Aside0.mk g4; clear g1 g2 g3 g4)
            go_meet
            rw [HE.out]
            exact ⟨_, PlS.kept ⟨HS5.out, HQ5.out⟩ (G3.out.mono (fun k hk => hk.imp_right (fun hk => by rw [hk]; rfl))) G4.out G1.out G2.out, by rw [shr_length]; exact Hl.out⟩
          · have hz0 : l1 = [] := List.eq_nil_of_length_eq_zero (by omega)
            subst hz0
            have HG := Aside0.mk (shrink_nil (w.heap.size + 1) c1 A1 (wrap64 (-more)) R1 a1_2 a1_3 w5 S5.hP)
            clear S5 Q5 hp hl8 hz e hn
            go_wp2_with (go_at_call 63; refine HG.out.mono ?_; rintro e_ w6 ⟨rfl, g1, g3, g4⟩; have G1 := Aside0.mk g1; have G3 := Aside0.mk g3; have G4 := Aside0.mk g4; clear g1 g3 g4)
            go_meet
            rw [HE.out]
            exact ⟨_, PlS.kept ⟨HS5.out, HQ5.out⟩ (G3.out.mono (fun k hk => .inl hk)) G4.out G1.out (Kd.Q_mono (Kd.Q_kept (Kd.Q_types HQ5.out HS5.out.hP (by decide)) G3.out (fun k hk e => hk.2 e)) (fun _ _ => trivial)), Hl.out⟩
        · have b2 : decide (more < 0) = false := decide_eq_false hn
          have e : sizedL R1 a0_5 more l1 = (R1, l1) := by unfold sizedL; rw [if_neg hp, if_neg hn]
          have HS5 := Aside0.mk S5
          have HQ5 := Aside0.mk Q5
          have Hl := Aside0.mk hl8
          have HE := Aside0.mk e
          clear S5 Q5 hp hl8 e hn
          go_wp2
          go_meet
          rw [HE.out]
          exact ⟨_, ⟨HS5.out, HQ5.out⟩, Hl.out⟩
    case rest =>
      obtain ⟨v6, ⟨S6, Q6⟩, hl6⟩ := hcut
      obtain ⟨s2, hs2⟩ : ∃ s2, sizedL R1 a0_5 more l1 = s2 := ⟨_, rfl⟩
      obtain ⟨R2, l2⟩ := s2
      rw [hs2] at S6 Q6 hl6
      have h := Hh.out
      rw [hs2] at h
      clear Hh hs2
      dsimp only at S6 Q6 hl6 h
      have Hh := Aside0.mk h
      clear h S5 Q5 hl8
      go_upto_block 1 with (fail)
      go_cut [] (fun wx => ∃ v', PlS w wx #[.int .i64 a0_0, .int .i64 a0_1, .int .i64 a0_2, .int .i64 a0_3, .int .i64 a0_4, .int .i64 a0_5, .int .i64 a0_6, .int .i64 a0_7, .int .i64 a0_8, .int .i64 a0_9, .int .i64 a0_10, .int .i64 a0_11] R2 a1_2 a1_3 v' (trimL l2))
      case first =>
        clear Hh
        go_wp2
        go_loopg [] l2.length (fun kq wr => ∃ (v : Value) (l : List Int), PlS w wr #[.int .i64 a0_0, .int .i64 a0_1, .int .i64 a0_2, .int .i64 a0_3, .int .i64 a0_4, .int .i64 a0_5, .int .i64 a0_6, .int .i64 a0_7, .int .i64 a0_8, .int .i64 a0_9, .int .i64 a0_10, .int .i64 a0_11] R2 a1_2 a1_3 v l ∧ l.length = kq ∧ Aside0 (trimL l = trimL l2) ∧ Aside0 (l.length ≤ 8))
        case atStart => exact ⟨v6, l2, ⟨S6, Q6⟩, rfl, ⟨rfl⟩, ⟨hl6⟩⟩
        case round =>
          clear S6 Q6 hl6
          obtain ⟨v, l, ⟨S, Q⟩, rfl, HT, HL⟩ := hrel
          obtain ⟨A, c, rfl, hc⟩ := Kd.Q_slice Q
          have p1 := (S.cell 1).1
          have f1 := (S.cell 1).2
          simp only [List.getElem?_toArray, List.getElem?_cons_zero, List.getElem?_cons_succ] at p1
          by_cases hl : 0 < l.length
          · have hl8 := HL.out
            have b1 : decide (0 < l.length) = true := decide_eq_true hl
            obtain ⟨g, o, c2, hv, hg1, hg2, _⟩ := Kd.Q_form Q hl
            injection hv with e1 _ e3
            subst e1
            subst e3
            obtain ⟨c1', _⟩ := Kd.Q_cell (0 : Int) Q ((l.length : Int) - 1) (by omega) (by omega)
            obtain ⟨x, hx⟩ : ∃ x, rd l ((l.length : Int) - 1) = x := ⟨_, rfl⟩
            have c1 : wr.cell? ⟨g, o + (l.length - 1), none⟩ = some (.int .i64 x) := by
              rw [← hx, show l.length - 1 = ((l.length : Int) - 1).toNat by omega]
              exact c1'
            have c2 : wr.cell? ⟨g, o + ((l.length : Int) - 1).toNat, none⟩ = some (.int .i64 x) := by
              rw [← hx]
              exact c1'
            have w1 : wrap64 ((l.length : Int) - 1) = (l.length : Int) - 1 := IntWalk.wrap64_in _ (by omega)
            have b3 : 0 ≤ (l.length : Int) - 1 := by omega
            have b4 : (l.length : Int) - 1 < (l.length : Int) := by omega
            clear c1' hc
            have HX := Aside0.mk hx
            have HP := Aside0.mk hl
            have HS := Aside0.mk S
            have HQ := Aside0.mk Q
            by_cases hz : x = 0
            · subst hz
              have hr := Kd.Q_take (m := l.length - 1) Q (by omega)
              obtain ⟨i0, hi0, _, hsz, _⟩ := info_parts info3
              have hcut := cut_to (P := Try.prog) 32 3 .i64 Try.underlying32 hi0 (some ⟨g, o, none⟩) l.length c ((l.length : Int) - 1) (by omega) (by omega) (Kd.Q_reads' Q).2.1
              rw [show ((l.length : Int) - 1).toNat = l.length - 1 by omega] at hcut
              have hr' := S.q_put 1 (.slice (some ⟨g, o, none⟩) (l.length - 1) c) hr
              have HR := Aside0.mk hr'
              clear hi0 hsz hr hr' hx S Q hl hl8 hg1 hg2
              go_wp2
              go_roundg (l.length - 1)
              case measure => have := HP.out; omega
              case rel => exact ⟨_, l.take (l.length - 1), ⟨HS.out.put 1 _ rfl, HR.out⟩, by rw [List.length_take]; omega, ⟨(trimL_end0 l HP.out HX.out).trans HT.out⟩, ⟨by have := HL.out; rw [List.length_take]; omega⟩⟩
            · have b5 : (x == 0) = false := by simp [hz]
              have HZ := Aside0.mk hz
              clear hx S Q hl hl8 hg1 hg2 hz
              go_wp2
              go_meet
              have e := trimL_end l HP.out (by rw [HX.out]; exact HZ.out)
              rw [← HT.out, e]
              exact ⟨_, HS.out, HQ.out⟩
          · have b1 : decide (0 < l.length) = false := decide_eq_false hl
            have hz : l = [] := List.eq_nil_of_length_eq_zero (by omega)
            have HS := Aside0.mk S
            have HQ := Aside0.mk Q
            have HZ := Aside0.mk hz
            clear S Q hl hz
            go_wp2
            go_meet
            rw [← HT.out]
            rw [HZ.out] at HQ
            have := HZ.out
            subst this
            exact ⟨_, HS.out, HQ.out⟩
      case rest =>
        obtain ⟨v7, S7, Q7⟩ := hcut
        obtain ⟨todo, ht, h1⟩ := Option.bind_eq_some_iff.1 Hh.out
        obtain ⟨can, hc, h2⟩ := Option.bind_eq_some_iff.1 h1
        obtain ⟨ut, hd, h⟩ := Option.bind_eq_some_iff.1 h2
        clear h1 h2
        simp only [Option.some.injEq, Prod.mk.injEq] at h
        obtain ⟨l3, hl3⟩ : ∃ l3, trimL l2 = l3 := ⟨_, rfl⟩
        rw [hl3] at Q7 h
        obtain ⟨e1, e2, e3, e4, e5, e6⟩ := h
        clear Hh
        have HT := Aside0.mk ht
        have HC := Aside0.mk hc
        have HD := Aside0.mk hd
        obtain ⟨A7, c7, rfl, hc7⟩ := Kd.Q_slice Q7
        obtain ⟨m2, hm2⟩ : ∃ m2, mn a3 1000000 = m2 := ⟨_, rfl⟩
        have hm2' : (if 1000000 < a3 then 1000000 else a3) = m2 := hm2
        obtain ⟨s2, hs2⟩ : ∃ s2, mx 0 m2 = s2 := ⟨_, rfl⟩
        have hs2' : (if 0 < m2 then m2 else 0) = s2 := hs2
        obtain ⟨wd, hwd⟩ : ∃ wd, wrap64 (todo - can) = wd := ⟨_, rfl⟩
        obtain ⟨wt, hwt⟩ : ∃ wt, mx 0 wd = wt := ⟨_, rfl⟩
        have hwt' : (if 0 < wd then wd else 0) = wt := hwt
        rw [hm2, hs2] at HT
        rw [hwd, hwt] at e3 e6
        have hlen : l3.length < 9000000000000000000 := by
          have := trimL_length l2
          rw [hl3] at this
          omega
        have HF3 := Aside0.mk (plant_All_fold R2 l3 hlen wt ut)
        rw [e5] at HF3
        subst e1
        subst e2
        subst e3
        subst e4
        subst e6
        have HS := Aside0.mk S7
        have HQ := Aside0.mk Q7
        have p0 := (S7.cell 0).1
        have p2 := (S7.cell 2).1
        have p3 := (S7.cell 3).1
        have f2 := (S7.cell 2).2
        have f3 := (S7.cell 3).2
        have d4 := blk_cell S7.hC 4
        simp only [List.getElem?_toArray, List.getElem?_cons_zero, List.getElem?_cons_succ] at p0 p2 p3 d4
        clear ht hc hd hm2 hs2 hwt e5 S7 Q7 hlen hl3 hc7 S6 Q6 hl6
        go_upto_region 15 with (first | (go_at_call 64; refine (fixed_Add.calls _ _ _ _ HT.out).mono ?_; rintro e_ w_ ⟨rfl, ⟨na, rfl⟩⟩) | (go_at_call 65; refine (fixed_Sat.calls _ _ _ HC.out).mono ?_; rintro e_ w_ ⟨rfl, ⟨nb, rfl⟩⟩) | (go_at_call 66; refine (fixed_Div.calls _ _ _ _ HD.out).mono ?_; rintro e_ w_ ⟨rfl, ⟨nd, rfl⟩⟩))
        have HW := pw_below_drewN (Below.refl wc.heap.size wc) (na + nb + nd)
        have S8 := ((HS.out.below HW).put 2 (.int .i64 wt) rfl).put 3 (.int .i64 ut) rfl
        have Q8 := PlB.q_put ((HS.out.below HW).put 2 (.int .i64 wt) rfl) 3 (.int .i64 ut) (PlB.q_put (HS.out.below HW) 2 (.int .i64 wt) (Kd.Q_below HQ.out HW))
        generalize ((wc.drewN _).setCell _ _).setCell _ _ = W8 at S8 Q8 ⊢
        clear HW HS HQ HT HC HD f2 f3 p0 p2 p3 d4 hm2' hs2' hwd hwt'
        refine start_ (n := 11) (S := fun w' => w'.heap[w.heap.size]? = some (.cells #[.int .i64 a0_0, .int .i64 a0_1, .int .i64 a0_2, .int .i64 a0_3, .int .i64 a0_4, .int .i64 a0_5, .int .i64 a0_6, .int .i64 a0_7, .int .i64 a0_8, .int .i64 a0_9, .int .i64 a0_10, .int .i64 a0_11] 23 (0, 0)) ∧ w'.heap[w.heap.size + 1]? = some (.cells #[.int .i64 R2, .slice A7 l3.length c7, .int .i64 wt, .int .i64 ut] 34 (0, 0))) (ds := []) #[false, false, false, false, false, false, false, false, false, false, false] (by kernel_rfl) rfl rfl ⟨S8.hC, S8.hP⟩ (fun hHeld => ?_)
        have S8 := S8.below (below_drew1 (Below.refl _ _))
        have Q8 := Kd.Q_below Q8 (below_drew1 (Below.refl _ _))
        generalize W8.drew = w9 at S8 Q8 hHeld ⊢
        refine pure_ (i := 3) (N := some 99) (v := ?_) (a' := ?_) #[false, false, false, true, false, false, false, false, false, false, false] rfl rfl (by kernel_rfl) (fun _ _ _ h => h) (Or.inl ⟨by rfl, ?_⟩) ?_ ?_
        rotate_left
        · intro w'
          go_simp
          with_reducible rfl
        rotate_left
        · simp only [Act.put, List.setIfInBounds_toArray, List.set_cons_zero, List.set_cons_succ, i64_w, i32_w]
          rfl
        refine pure_ (i := 5) (N := some 101) (v := ?_) (a' := ?_) #[false, false, false, true, false, true, false, false, false, false, false] rfl rfl (by kernel_rfl) (fun _ _ _ h => h) (Or.inl ⟨by rfl, ?_⟩) ?_ ?_
        rotate_left
        · intro w'
          go_simp
          with_reducible rfl
        rotate_left
        · simp only [Act.put, List.setIfInBounds_toArray, List.set_cons_zero, List.set_cons_succ, i64_w, i32_w]
          rfl
        refine take_ (i := 0) (N := some 96) (v := ?_) (a' := ?_) #[true, false, false, true, false, true, false, false, false, false, false] rfl rfl (by kernel_rfl) (fun _ _ _ h => h) (Or.inl ⟨by rfl, ?_⟩) hHeld ?_ ?_
        rotate_left
        · intro w' hS
          have s0 := blk_cell hS.2 0
          have s1 := blk_cell hS.2 1
          have s2 := blk_cell hS.2 2
          have s3 := blk_cell hS.2 3
          simp only [List.getElem?_toArray, List.getElem?_cons_zero, List.getElem?_cons_succ] at s0 s1 s2 s3
          clear hS
          go_simp
          with_reducible rfl
        rotate_left
        · simp only [Act.put, List.setIfInBounds_toArray, List.set_cons_zero, List.set_cons_succ, i64_w, i32_w]
          rfl
        refine take_ (i := 1) (N := some 97) (v := ?_) (a' := ?_) #[true, true, false, true, false, true, false, false, false, false, false] rfl rfl (by kernel_rfl) (fun _ _ _ h => h) (Or.inl ⟨by rfl, ?_⟩) hHeld ?_ ?_
        rotate_left
        · intro w' hS
          have s0 := blk_cell hS.2 0
          have s1 := blk_cell hS.2 1
          have s2 := blk_cell hS.2 2
          have s3 := blk_cell hS.2 3
          simp only [List.getElem?_toArray, List.getElem?_cons_zero, List.getElem?_cons_succ] at s0 s1 s2 s3
          clear hS
          go_simp
          with_reducible rfl
        rotate_left
        · simp only [Act.put, List.setIfInBounds_toArray, List.set_cons_zero, List.set_cons_succ, i64_w, i32_w]
          rfl
        refine take_ (i := 4) (N := some 100) (v := ?_) (a' := ?_) #[true, true, false, true, true, true, false, false, false, false, false] rfl rfl (by kernel_rfl) (fun _ _ _ h => h) (Or.inl ⟨by rfl, ?_⟩) hHeld ?_ ?_
        rotate_left
        · intro w' hS
          have s0 := blk_cell hS.2 0
          have s1 := blk_cell hS.2 1
          have s2 := blk_cell hS.2 2
          have s3 := blk_cell hS.2 3
          simp only [List.getElem?_toArray, List.getElem?_cons_zero, List.getElem?_cons_succ] at s0 s1 s2 s3
          clear hS
          go_simp
          with_reducible rfl
        rotate_left
        · simp only [Act.put, List.setIfInBounds_toArray, List.set_cons_zero, List.set_cons_succ, i64_w, i32_w]
          rfl
        refine take_ (i := 6) (N := some 102) (v := ?_) (a' := ?_) #[true, true, false, true, true, true, true, false, false, false, false] rfl rfl (by kernel_rfl) (fun _ _ _ h => h) (Or.inl ⟨by rfl, ?_⟩) hHeld ?_ ?_
        rotate_left
        · intro w' hS
          have s6 := blk_cell hS.1 6
          simp only [List.getElem?_toArray, List.getElem?_cons_zero, List.getElem?_cons_succ] at s6
          clear hS
          go_simp
          with_reducible rfl
        rotate_left
        · simp only [Act.put, List.setIfInBounds_toArray, List.set_cons_zero, List.set_cons_succ, i64_w, i32_w]
          rfl
        refine pure_ (i := 7) (N := some 103) (v := ?_) (a' := ?_) #[true, true, false, true, true, true, true, true, false, false, false] rfl rfl (by kernel_rfl) (fun _ _ _ h => h) (Or.inl ⟨by rfl, ?_⟩) ?_ ?_
        rotate_left
        · intro w'
          go_simp
          with_reducible rfl
        rotate_left
        · simp only [Act.put, List.setIfInBounds_toArray, List.set_cons_zero, List.set_cons_succ, i64_w, i32_w]
          rfl
        refine one_ (i := 2) (N := some 98) #[true, true, true, true, true, true, true, true, false, false, false] rfl rfl (by kernel_rfl) (by decide) (fun K hK => ?_)
        refine goes_ Try.func61 (by kernel_rfl) rfl #[.agg #[.int .i64 R2, .slice A7 l3.length c7, .int .i64 wt, .int .i64 ut]] (by rfl) rfl rfl (by simp only [List.map_toArray, List.map_cons, List.map_nil]; rfl) ?_
        refine (plant_All.calls (l3.length + 1) R2 A7 c7 l3 wt ut r5 _ (Kd.Q_reads' Q8).2.2 (Kd.Q_reads' Q8).2.1 HF3.out).mono ?_
        rintro e_ w_ ⟨rfl, hb⟩
        refine ⟨_, rfl, ?_⟩
        have S8 := S8.below hb
        have Q8 := Kd.Q_below Q8 hb
        clear hb
        refine hK.out _ _ ⟨S8.hC, S8.hP⟩ (fun hHeld => ?_)
        clear hK K
        refine norm_ (a' := ?_) ?_ ?_
        rotate_left
        · show Act.put _ (some 98) _ = _
          simp only [Act.put, List.setIfInBounds_toArray, List.set_cons_zero, List.set_cons_succ, i64_w, i32_w]
          rfl
        refine pure_ (i := 8) (N := some 104) (v := ?_) (a' := ?_) #[true, true, true, true, true, true, true, true, true, false, false] rfl rfl (by kernel_rfl) (fun _ _ _ h => h) (Or.inl ⟨by rfl, ?_⟩) ?_ ?_
        rotate_left
        · intro w'
          go_simp
          with_reducible rfl
        rotate_left
        · simp only [Act.put, List.setIfInBounds_toArray, List.set_cons_zero, List.set_cons_succ, i64_w, i32_w]
          rfl
        refine one_ (i := 9) (N := none) #[true, true, true, true, true, true, true, true, true, true, false] rfl rfl (by kernel_rfl) (by decide) (fun K hK => ?_)
        have z0 := blk_cell S8.hA 0
        have f0 := blk_frozen S8.hA 0
        have z1 := blk_cell S8.hA 1
        have f1 := blk_frozen S8.hA 1
        have z2 := blk_cell S8.hA 2
        have f2 := blk_frozen S8.hA 2
        have z3 := blk_cell S8.hA 3
        have f3 := blk_frozen S8.hA 3
        simp only [List.getElem?_toArray, List.getElem?_cons_zero, List.getElem?_cons_succ] at z0 z1 z2 z3
        refine skip_ (w1 := ?_) (by rfl) rfl ?_ ?_
        rotate_left
        · go_simp
          rfl
        clear z0 f0 z1 f1 z2 f2 z3 f3
        have C9 := blk_far (p := ⟨w.heap.size + 1 + 1, 3, none⟩) (blk_far (p := ⟨w.heap.size + 1 + 1, 2, none⟩) (blk_far (p := ⟨w.heap.size + 1 + 1, 1, none⟩) (blk_far (p := ⟨w.heap.size + 1 + 1, 0, none⟩) (S8.hC) (by show w.heap.size ≠ w.heap.size + 1 + 1; omega) (.int .i64 R2)) (by show w.heap.size ≠ w.heap.size + 1 + 1; omega) (.slice A7 l3.length c7)) (by show w.heap.size ≠ w.heap.size + 1 + 1; omega) (.int .i64 wt)) (by show w.heap.size ≠ w.heap.size + 1 + 1; omega) (.int .i64 ut)
        have P9 := blk_far (p := ⟨w.heap.size + 1 + 1, 3, none⟩) (blk_far (p := ⟨w.heap.size + 1 + 1, 2, none⟩) (blk_far (p := ⟨w.heap.size + 1 + 1, 1, none⟩) (blk_far (p := ⟨w.heap.size + 1 + 1, 0, none⟩) (S8.hP) (by show w.heap.size + 1 ≠ w.heap.size + 1 + 1; omega) (.int .i64 R2)) (by show w.heap.size + 1 ≠ w.heap.size + 1 + 1; omega) (.slice A7 l3.length c7)) (by show w.heap.size + 1 ≠ w.heap.size + 1 + 1; omega) (.int .i64 wt)) (by show w.heap.size + 1 ≠ w.heap.size + 1 + 1; omega) (.int .i64 ut)
        have A9 := blk_put (blk_put (blk_put (blk_put (S8.hA) 0 (.int .i64 R2) rfl) 1 (.slice A7 l3.length c7) rfl) 2 (.int .i64 wt) rfl) 3 (.int .i64 ut) rfl
        have M8 := blk_far (p := ⟨w.heap.size + 1 + 1, 3, none⟩) (blk_far (p := ⟨w.heap.size + 1 + 1, 2, none⟩) (blk_far (p := ⟨w.heap.size + 1 + 1, 1, none⟩) (blk_far (p := ⟨w.heap.size + 1 + 1, 0, none⟩) (S8.hM) (by show w.heap.size + 1 + 1 + 1 ≠ w.heap.size + 1 + 1; omega) (.int .i64 R2)) (by show w.heap.size + 1 + 1 + 1 ≠ w.heap.size + 1 + 1; omega) (.slice A7 l3.length c7)) (by show w.heap.size + 1 + 1 + 1 ≠ w.heap.size + 1 + 1; omega) (.int .i64 wt)) (by show w.heap.size + 1 + 1 + 1 ≠ w.heap.size + 1 + 1; omega) (.int .i64 ut)
        have B9 := below_set (g := w.heap.size + 1 + 1) (j := 3) (v := .int .i64 ut) (below_set (g := w.heap.size + 1 + 1) (j := 2) (v := .int .i64 wt) (below_set (g := w.heap.size + 1 + 1) (j := 1) (v := .slice A7 l3.length c7) (below_set (g := w.heap.size + 1 + 1) (j := 0) (v := .int .i64 R2) (S8.hB) (by omega)) (by omega)) (by omega)) (by omega)
        have Q9 := Kd.Q_far (p := ⟨w.heap.size + 1 + 1, 3, none⟩) (Kd.Q_far (p := ⟨w.heap.size + 1 + 1, 2, none⟩) (Kd.Q_far (p := ⟨w.heap.size + 1 + 1, 1, none⟩) (Kd.Q_far (p := ⟨w.heap.size + 1 + 1, 0, none⟩) (Kd.Q_types Q8 S8.hA (by decide)) (fun k hk => hk.2) (.int .i64 R2)) (fun k hk => hk.2) (.slice A7 l3.length c7)) (fun k hk => hk.2) (.int .i64 wt)) (fun k hk => hk.2) (.int .i64 ut)
        replace Q9 := Kd.Q_mono Q9 (ok' := fun _ => True) (fun _ _ => trivial)
        clear S8 Q8
        generalize ((((w_.setCell _ _).setCell _ _).setCell _ _).setCell _ _) = w10 at C9 P9 A9 M8 B9 Q9 ⊢
        refine hK.out _ _ ⟨C9, P9⟩ (fun hHeld => ?_)
        clear hK K
        refine one_ (i := 10) (N := none) #[true, true, true, true, true, true, true, true, true, true, true] rfl rfl (by kernel_rfl) (by decide) (fun K hK => ?_)
        have z0 := blk_cell M8 0
        have f0 := blk_frozen M8 0
        have z1 := blk_cell M8 1
        have f1 := blk_frozen M8 1
        simp only [List.getElem?_toArray, List.getElem?_cons_zero, List.getElem?_cons_succ] at z0 z1
        refine skip_ (w1 := ?_) (by rfl) rfl ?_ ?_
        rotate_left
        · go_simp
          rfl
        clear z0 f0 z1 f1
        have C10 := blk_far (p := ⟨w.heap.size + 1 + 1 + 1, 1, none⟩) (blk_far (p := ⟨w.heap.size + 1 + 1 + 1, 0, none⟩) (C9) (by show w.heap.size ≠ w.heap.size + 1 + 1 + 1; omega) (.int .i64 r5)) (by show w.heap.size ≠ w.heap.size + 1 + 1 + 1; omega) (.bool (decide (a0_6 < wt)))
        have P10 := blk_far (p := ⟨w.heap.size + 1 + 1 + 1, 1, none⟩) (blk_far (p := ⟨w.heap.size + 1 + 1 + 1, 0, none⟩) (P9) (by show w.heap.size + 1 ≠ w.heap.size + 1 + 1 + 1; omega) (.int .i64 r5)) (by show w.heap.size + 1 ≠ w.heap.size + 1 + 1 + 1; omega) (.bool (decide (a0_6 < wt)))
        have A10 := blk_far (p := ⟨w.heap.size + 1 + 1 + 1, 1, none⟩) (blk_far (p := ⟨w.heap.size + 1 + 1 + 1, 0, none⟩) (A9) (by show w.heap.size + 1 + 1 ≠ w.heap.size + 1 + 1 + 1; omega) (.int .i64 r5)) (by show w.heap.size + 1 + 1 ≠ w.heap.size + 1 + 1 + 1; omega) (.bool (decide (a0_6 < wt)))
        have M10 := blk_put (blk_put (M8) 0 (.int .i64 r5) rfl) 1 (.bool (decide (a0_6 < wt))) rfl
        have B10 := below_set (g := w.heap.size + 1 + 1 + 1) (j := 1) (v := .bool (decide (a0_6 < wt))) (below_set (g := w.heap.size + 1 + 1 + 1) (j := 0) (v := .int .i64 r5) (B9) (by omega)) (by omega)
        have Q10 := Kd.Q_far (p := ⟨w.heap.size + 1 + 1 + 1, 1, none⟩) (Kd.Q_far (p := ⟨w.heap.size + 1 + 1 + 1, 0, none⟩) (Kd.Q_types Q9 M8 (by decide)) (fun k hk => hk.2) (.int .i64 r5)) (fun k hk => hk.2) (.bool (decide (a0_6 < wt)))
        replace Q10 := Kd.Q_mono Q10 (ok' := fun _ => True) (fun _ _ => trivial)
        clear C9 P9 A9 M8 B9 Q9
        generalize ((w10.setCell _ _).setCell _ _) = w11 at C10 P10 A10 M10 B10 Q10 ⊢
        refine hK.out _ _ ⟨C10, P10⟩ (fun hHeld => ?_)
        clear hK K
        refine done_ (by kernel_rfl) ?_
        have HA := Aside0.mk A10
        have HM := Aside0.mk M10
        have HB := Aside0.mk B10
        have HQ := Aside0.mk Q10
        clear C10 P10 A10 M10 B10 Q10 hHeld
        go_wp2
        refine bodyPost_ret (results_cc rfl _ _ (w.heap.size + 1 + 1) (w.heap.size + 1 + 1 + 1) 34 52 _ _ (0, 0) (0, 0) _ _ rfl HA.out Try.underlying34 rfl (by kernel_rfl) rfl HM.out Try.underlying52 rfl (by kernel_rfl)) rfl ?_
        exact ⟨_, rfl, HQ.out, HB.out⟩

end Go.Proofs.Ytefgoffaidjiaaa.PAll
namespace Go.Proofs.Ytefgoffaidjiaaa.PAll
open Go.RowKit Go.Proofs.YtefgoffaidjiaaaW.PrintWords Go.Proofs.YtefgoffaidjiaaaW.PrintLast Go.Proofs.YtefgoffaidjiaaaW.PrintMore
attribute [local go_sem] max2_int min2_int max_two min_two max_three min_three max_four min_four   -- for this text's walks alone
set_option linter.unusedVariables false
set_option linter.unusedSimpArgs false

/-! ### governorref16_All: function 47 -/
/-- One block that a function reads. -/
structure One (w W : World) (a : Array Value) (t : Nat) : Prop where
  hA : W.heap[w.heap.size]? = some (.cells a t (0, 0))
  hW : Below w.heap.size w W
theorem One.drewN {w W : World} {a : Array Value} {t : Nat} (h : One w W a t) (n : Nat) : One w (W.drewN n) a t := ⟨blk_drewN h.hA n, pw_below_drewN h.hW n⟩
theorem One.below {w W W' : World} {a : Array Value} {t : Nat} (h : One w W a t) (hb : Below W.heap.size W W') : One w W' a t := ⟨blk_below h.hA hb, below_step h.hW hb⟩
theorem one_mk (w : World) (a : Array Value) (t : Nat) : One w (w.alloc (.cells a t)) a t := ⟨blk_new w _, below_alloc (Below.refl _ _) _⟩
theorem wr_len {n : Nat} {i : Int} (h : n < 140737488355328) (h0 : 0 ≤ i) (h1 : i < (n : Int)) : wrap64 (i + 1) = i + 1 := by unfold wrap64; omega
def governorref16_All.f (a0_0 : Int) (l0_1 : List (Int)) (a0_2 : Int) (a0_3 : Int) : Option Int := if l0_1.length < 140737488355328 then some (allL a0_0 l0_1) else none
set_option maxHeartbeats 8000000 in
set_option maxRecDepth 100000 in
theorem governorref16_All.calls (a0_0 : Int) (A0_1 : Option Addr) (c0_1 : Nat) (l0_1 : List (Int)) (a0_2 : Int) (a0_3 : Int) (r : Int) (w : World) (hr0_1 : Kd.C (Kd.int .i64) w A0_1 l0_1.length l0_1) (hc0_1 : l0_1.length ≤ c0_1) (h : governorref16_All.f a0_0 l0_1 a0_2 a0_3 = some r) :
    Calls Try.prog 47 #[.agg #[.int .i64 a0_0, .slice A0_1 l0_1.length c0_1, .int .i64 a0_2, .int .i64 a0_3]] w fun e w' => e = .returned (.int .i64 r) ∧ Below w.heap.size w w' := by
  have hu34 := Try.underlying34
  unfold governorref16_All.f at h
  by_cases hN : l0_1.length < 140737488355328
  rotate_left
  · rw [if_neg hN] at h; cases h
  rw [if_pos hN] at h
  have hr := Aside0.mk (Option.some.inj h)
  have HN := Aside0.mk hN
  have HR := Aside0.mk hr0_1
  clear h hN hr0_1 hc0_1
  go_enter Try.func47, Try.ntmps47
  go_upto_region 1 with (fail)
  have ht := one_mk w #[.int .i64 a0_0, .slice A0_1 l0_1.length c0_1, .int .i64 a0_2, .int .i64 a0_3] 34
  generalize w.alloc _ = W at ht ⊢
  have xa := blk_cell ht.hA
  have HT := Aside0.mk ht
  clear ht
  go_wp2
  go_loopw [3, 4] (fun va v wr => ∃ a i : Int, 0 ≤ i ∧ i ≤ (l0_1.length : Int) ∧ va = .int .i64 a ∧ v = .int .i64 i ∧ Aside0 (allL a (l0_1.drop i.toNat) = r) ∧ Aside0 (One w wr #[.int .i64 a0_0, .slice A0_1 l0_1.length c0_1, .int .i64 a0_2, .int .i64 a0_3] 34)) (fun _ v _ => ((l0_1.length : Int) - intOf v).toNat)
  case atStart => exact ⟨_, 0, Int.le_refl _, by omega, rfl, rfl, hr, HT⟩
  case round =>
    obtain ⟨a, i, h0, hi, rfl, rfl, hr, HT⟩ := hrel
    have xa := blk_cell HT.out.hA
    by_cases hlt : i < (l0_1.length : Int)
    · obtain ⟨ad0, e0, u0⟩ := Kd.at_int (Kd.C_below HR.out HT.out.hW) i h0 hlt
      cases e0
      have e1 : l0_1.drop i.toNat = rd l0_1 i :: l0_1.drop (i + 1).toNat := by
        rw [List.drop_eq_getElem_cons (show i.toNat < l0_1.length by omega), show (i + 1).toNat = i.toNat + 1 by omega]
        unfold rd; rw [List.getD_eq_getElem?_getD, List.getElem?_eq_getElem (by omega)]; rfl
      replace hr := Aside0.mk ((congrArg (allL a) e1).symm.trans hr.out)
      have hw := wr_len HN.out h0 hlt
      clear e1
      go_wp2
      repeat (go_quiet (fail); try go_wp2)
      go_roundw
      case measure => simp [intOf, hw]; omega
      case rel => exact ⟨_, i + 1, by omega, by omega, rfl, by first | rfl | simp [hw], hr, by first | exact HT | exact ⟨HT.out.drewN _⟩⟩
    · have e1 : l0_1.drop i.toNat = [] := List.drop_of_length_le (by omega)
      replace hr := Aside0.mk ((congrArg (allL a) e1).symm.trans hr.out)
      clear e1
      go_wp2
      go_ret
      exact ⟨by rw [← hr.out]; rfl, HT.out.hW⟩

end Go.Proofs.Ytefgoffaidjiaaa.PAll
namespace Go.Proofs.Ytefgoffaidjiaaa.PAll
open Go.RowKit Go.Proofs.YtefgoffaidjiaaaW.PrintWords Go.Proofs.YtefgoffaidjiaaaW.PrintLast Go.Proofs.YtefgoffaidjiaaaW.PrintMore
attribute [local go_sem] max2_int min2_int max_two min_two max_three min_three max_four min_four   -- for this text's walks alone
set_option linter.unusedVariables false
set_option linter.unusedSimpArgs false

/-! ### governorref09_Policy: function 24 -/
def governorref09_Policy.f (k : Nat) (a0_0 : Int) (a0_1 : Int) (l0_2 : List (S56)) (a0_3 : Int) (a0_4 : Int) (a0_5 : Int) (a0_6 : Int) (l0_7 : List (S58)) : Option Bool := (if a0_0 = 1 then ((governorref09_within.f a0_1 1 1000000000).bind fun t => (if t = true then (governorref09_none.f a0_0 a0_1 l0_2 a0_3 a0_4 a0_5 a0_6 l0_7 false true true true) else (some false))) else (if a0_0 = 2 then ((governorref09_bands.f k l0_2).bind fun t => (if t = true then (governorref09_none.f a0_0 a0_1 l0_2 a0_3 a0_4 a0_5 a0_6 l0_7 true false true true) else (some false))) else (if a0_0 = 3 then ((governorref09_within.f a0_3 (-1000000000) 1000000000).bind fun t => (if t = true then ((governorref09_within.f a0_4 (-1000000000) 1000000000).bind fun t => (if t = true then ((governorref09_within.f a0_5 (-1000000000) 1000000000).bind fun t => (if t = true then ((governorref09_within.f a0_1 1 1000000000).bind fun t => (if t = true then (governorref09_none.f a0_0 a0_1 l0_2 a0_3 a0_4 a0_5 a0_6 l0_7 false true false true) else (some false))) else (some false))) else (some false))) else (some false))) else (if a0_0 = 4 then ((governorref09_slots.f k l0_7 a0_6).bind fun t => (if t = true then (governorref09_none.f a0_0 a0_1 l0_2 a0_3 a0_4 a0_5 a0_6 l0_7 true true true false) else (some false))) else (some false)))))
theorem governorref09_Policy.mono : ∀ a0 a1 a2 a3 a4 a5 a6 a7 k, LeO (governorref09_Policy.f k a0 a1 a2 a3 a4 a5 a6 a7) (governorref09_Policy.f (k + 1) a0 a1 a2 a3 a4 a5 a6 a7) := by
  intro a0 a1 a2 a3 a4 a5 a6 a7 k
  unfold governorref09_Policy.f
  repeat' first
      | (with_reducible exact governorref09_bands.mono _ _)
      | (with_reducible exact governorref09_slots.mono _ _ _)
      | (with_reducible exact LeO.refl _)
      | (with_reducible refine LeO.ite ?_ ?_)
      | (with_reducible refine LeO.bind ?_ (fun _ => ?_))
set_option maxHeartbeats 8000000 in
set_option maxRecDepth 100000 in
theorem governorref09_Policy.calls (k : Nat) (a0_0 : Int) (a0_1 : Int) (A0_2 : Option Addr) (c0_2 : Nat) (l0_2 : List (S56)) (a0_3 : Int) (a0_4 : Int) (a0_5 : Int) (a0_6 : Int) (A0_7 : Option Addr) (c0_7 : Nat) (l0_7 : List (S58)) (r : Bool) (w : World) (hr0_2 : Kd.C k56 w A0_2 l0_2.length l0_2) (hc0_2 : l0_2.length ≤ c0_2) (hr0_7 : Kd.C k58 w A0_7 l0_7.length l0_7) (hc0_7 : l0_7.length ≤ c0_7) (h : governorref09_Policy.f k a0_0 a0_1 l0_2 a0_3 a0_4 a0_5 a0_6 l0_7 = some r) :
    Calls Try.prog 24 #[.agg #[.int .i64 a0_0, .int .i64 a0_1, .slice A0_2 l0_2.length c0_2, .int .i64 a0_3, .int .i64 a0_4, .int .i64 a0_5, .int .i64 a0_6, .slice A0_7 l0_7.length c0_7]] w fun e w' => e = .returned (.bool r) ∧ Below w.heap.size w w' := by
  have hu0 := Try.underlying27
  unfold governorref09_Policy.f at h
  have HR0_2 := Aside0.mk hr0_2
  have HC0_2 := Aside0.mk hc0_2
  clear hr0_2 hc0_2
  have HR0_7 := Aside0.mk hr0_7
  have HC0_7 := Aside0.mk hc0_7
  clear hr0_7 hc0_7
  go_enter Try.func24, Try.ntmps24
  go_upto_region 1 with (fail)
  have ht := one_mk w #[.int .i64 a0_0, .int .i64 a0_1, .slice A0_2 l0_2.length c0_2, .int .i64 a0_3, .int .i64 a0_4, .int .i64 a0_5, .int .i64 a0_6, .slice A0_7 l0_7.length c0_7] 27
  generalize w.alloc _ = W at ht ⊢
  have xa := blk_cell ht.hA
  have HT := Aside0.mk ht
  clear ht
  by_cases k1 : a0_0 = 1
  case' pos =>
    rw [if_pos k1] at h
    subst k1
    obtain ⟨b0, f0, h⟩ := Option.bind_eq_some_iff.1 h
    have F0 := Aside0.mk f0
    clear f0
    cases b0
    case' false =>
      rw [if_neg (by decide)] at h
      cases h
    case' true =>
      rw [if_pos rfl] at h
      have F1 := Aside0.mk h
      clear h
      cases r
  case' neg =>
    rw [if_neg k1] at h
    replace k1 : (a0_0 == 1) = false := by simpa using k1
    by_cases k2 : a0_0 = 2
    case' pos =>
      rw [if_pos k2] at h
      subst k2
      obtain ⟨b0, f0, h⟩ := Option.bind_eq_some_iff.1 h
      have F0 := Aside0.mk f0
      clear f0
      cases b0
      case' false =>
        rw [if_neg (by decide)] at h
        cases h
      case' true =>
        rw [if_pos rfl] at h
        have F1 := Aside0.mk h
        clear h
        cases r
    case' neg =>
      rw [if_neg k2] at h
      replace k2 : (a0_0 == 2) = false := by simpa using k2
      by_cases k3 : a0_0 = 3
      case' pos =>
        rw [if_pos k3] at h
        subst k3
        obtain ⟨b0, f0, h⟩ := Option.bind_eq_some_iff.1 h
        have F0 := Aside0.mk f0
        clear f0
        cases b0
        case' false =>
          rw [if_neg (by decide)] at h
          cases h
        case' true =>
          rw [if_pos rfl] at h
          obtain ⟨b1, f1, h⟩ := Option.bind_eq_some_iff.1 h
          have F1 := Aside0.mk f1
          clear f1
          cases b1
          case' false =>
            rw [if_neg (by decide)] at h
            cases h
          case' true =>
            rw [if_pos rfl] at h
            obtain ⟨b2, f2, h⟩ := Option.bind_eq_some_iff.1 h
            have F2 := Aside0.mk f2
            clear f2
            cases b2
            case' false =>
              rw [if_neg (by decide)] at h
              cases h
            case' true =>
              rw [if_pos rfl] at h
              obtain ⟨b3, f3, h⟩ := Option.bind_eq_some_iff.1 h
              have F3 := Aside0.mk f3
              clear f3
              cases b3
              case' false =>
                rw [if_neg (by decide)] at h
                cases h
              case' true =>
                rw [if_pos rfl] at h
                have F4 := Aside0.mk h
                clear h
                cases r
      case' neg =>
        rw [if_neg k3] at h
        replace k3 : (a0_0 == 3) = false := by simpa using k3
        by_cases k4 : a0_0 = 4
        case' pos =>
          rw [if_pos k4] at h
          subst k4
          obtain ⟨b0, f0, h⟩ := Option.bind_eq_some_iff.1 h
          have F0 := Aside0.mk f0
          clear f0
          cases b0
          case' false =>
            rw [if_neg (by decide)] at h
            cases h
          case' true =>
            rw [if_pos rfl] at h
            have F1 := Aside0.mk h
            clear h
            cases r
        case' neg =>
          rw [if_neg k4] at h
          replace k4 : (a0_0 == 4) = false := by simpa using k4
          cases h
  all_goals
    go_wp2_with (first
      | (go_at_call 23; refine (governorref09_within.calls _ _ _ _ _ (by first | exact F0.out | exact F1.out | exact F2.out | exact F3.out | exact F4.out)).mono ?_; rintro e_ w1 ⟨rfl, hb⟩; replace HT := Aside0.mk (HT.out.below hb.below); clear hb xa; have xa := blk_cell HT.out.hA)
      | (go_at_call 43; refine (governorref09_none.calls _ _ _ _ _ _ _ _ _ _ _ _ _ _ _ _ _ _ (Kd.C_below HR0_2.out HT.out.hW) HC0_2.out (Kd.C_below HR0_7.out HT.out.hW) HC0_7.out (by first | exact F0.out | exact F1.out | exact F2.out | exact F3.out | exact F4.out)).mono ?_; rintro e_ w1 ⟨rfl, hb⟩; replace HT := Aside0.mk (HT.out.below hb); clear hb xa; have xa := blk_cell HT.out.hA)
      | (go_at_call 45; refine (governorref09_bands.calls k _ _ _ _ _ (Kd.C_below HR0_2.out HT.out.hW) HC0_2.out (by first | exact F0.out | exact F1.out | exact F2.out | exact F3.out | exact F4.out)).mono ?_; rintro e_ w1 ⟨rfl, hb⟩; replace HT := Aside0.mk (HT.out.below hb); clear hb xa; have xa := blk_cell HT.out.hA)
      | (go_at_call 46; refine (governorref09_slots.calls k _ _ _ _ _ _ (Kd.C_below HR0_7.out HT.out.hW) HC0_7.out (by first | exact F0.out | exact F1.out | exact F2.out | exact F3.out | exact F4.out)).mono ?_; rintro e_ w1 ⟨rfl, hb⟩; replace HT := Aside0.mk (HT.out.below hb); clear hb xa; have xa := blk_cell HT.out.hA))
    go_ret
    exact ⟨rfl, HT.out.hW⟩

end Go.Proofs.Ytefgoffaidjiaaa.PAll
namespace Go.Proofs.Ytefgoffaidjiaaa.PAll
open Go.RowKit Go.Proofs.YtefgoffaidjiaaaW.PrintWords Go.Proofs.YtefgoffaidjiaaaW.PrintLast Go.Proofs.YtefgoffaidjiaaaW.PrintMore
set_option linter.unusedVariables false
set_option linter.unusedSimpArgs false
theorem wf64 {n : Int} (h : (Lit.int .i64 n).wf = true) : -9223372036854775808 ≤ n ∧ n ≤ 9223372036854775807 := by
  have h' := (Bool.and_eq_true _ _).mp h
  exact ⟨of_decide_eq_true h'.1, of_decide_eq_true h'.2⟩
theorem wf32 {n : Int} (h : (Lit.int .i32 n).wf = true) : -2147483648 ≤ n ∧ n ≤ 2147483647 := by
  have h' := (Bool.and_eq_true _ _).mp h
  exact ⟨of_decide_eq_true h'.1, of_decide_eq_true h'.2⟩
theorem wfu32 {n : Int} (h : (Lit.int .u32 n).wf = true) : 0 ≤ n ∧ n ≤ 4294967295 := by
  have h' := (Bool.and_eq_true _ _).mp h
  exact ⟨of_decide_eq_true h'.1, of_decide_eq_true h'.2⟩
theorem wf16 {n : Int} (h : (Lit.int .i16 n).wf = true) : -32768 ≤ n ∧ n ≤ 32767 := by
  have h' := (Bool.and_eq_true _ _).mp h
  exact ⟨of_decide_eq_true h'.1, of_decide_eq_true h'.2⟩
theorem wfu16 {n : Int} (h : (Lit.int .u16 n).wf = true) : 0 ≤ n ∧ n ≤ 65535 := by
  have h' := (Bool.and_eq_true _ _).mp h
  exact ⟨of_decide_eq_true h'.1, of_decide_eq_true h'.2⟩
theorem wfu8 {n : Int} (h : (Lit.int .u8 n).wf = true) : 0 ≤ n ∧ n ≤ 255 := by
  have h' := (Bool.and_eq_true _ _).mp h
  exact ⟨of_decide_eq_true h'.1, of_decide_eq_true h'.2⟩
theorem wr {n : Int} (h0 : -9223372036854775808 ≤ n) (h1 : n ≤ 9223372036854775807) : wrap64 n = n := IntWalk.wrap64_in n ⟨h0, h1⟩
theorem tmod_bounds (t p : Int) (hp : 0 < p) : -p < Int.tmod t p ∧ Int.tmod t p < p := by
  refine ⟨?_, Int.tmod_lt_of_pos t hp⟩
  have h := Int.tmod_lt_of_pos (-t) hp
  rw [Int.neg_tmod] at h
  omega
/-- Division towards 0, by a number of which omega knows what it is. -/
theorem tdiv_pos {a c : Int} (h : 0 ≤ a) : Int.tdiv a c = a / c := Int.tdiv_eq_ediv_of_nonneg h
theorem tdiv_ng {a c : Int} (h : a ≤ 0) : Int.tdiv a c = -((-a) / c) := by
  have e : Int.tdiv a c = -(Int.tdiv (-a) c) := by rw [Int.neg_tdiv, Int.neg_neg]
  rw [e, tdiv_pos (by omega)]
theorem tdiv_mono {a b c : Int} (hc : 0 < c) (h : a ≤ b) : Int.tdiv a c ≤ Int.tdiv b c := by
  by_cases ha : 0 ≤ a
  · rw [tdiv_pos ha, tdiv_pos (by omega)]; exact Int.ediv_le_ediv hc h
  · by_cases hb : 0 ≤ b
    · rw [tdiv_ng (by omega), tdiv_pos hb]
      have h1 : 0 ≤ (-a) / c := Int.ediv_nonneg (by omega) (by omega)
      have h2 : 0 ≤ b / c := Int.ediv_nonneg hb (by omega)
      omega
    · rw [tdiv_ng (by omega), tdiv_ng (by omega)]
      have := Int.ediv_le_ediv hc (show -b ≤ -a by omega)
      omega
theorem tdivB {x b N : Int} (h0 : -N ≤ x) (h1 : x ≤ N) : -N ≤ Int.tdiv x b ∧ Int.tdiv x b ≤ N := by
  have h := Int.natAbs_tdiv x b
  have h2 : (Int.tdiv x b).natAbs ≤ x.natAbs := by rw [h]; exact Nat.div_le_self _ _
  omega
theorem sat_eq (a : Int) : fixed_Sat.f a = some (satI a) := rfl
theorem satI_big {n : Int} (h : 1000000000 ≤ n) : satI n = 1000000000 := by unfold satI mx mn; omega
theorem satI_small {n : Int} (h : n ≤ -1000000000) : satI n = -1000000000 := by unfold satI mx mn; omega
def upI (x : Int) : Int := (x + 1000000999) / 1000 - 1000000
theorem up_eq (a : Int) : fixed_Up.f a = some (upI (satI a)) := by
  have h0 := satI_lo a
  have h1 := satI_hi a
  unfold fixed_Up.f upI
  rw [sat_eq]
  simp only [Option.bind_some]
  rw [wr (n := satI a + 1000000000) (by omega) (by omega), wr (n := satI a + 1000000000 + 1000) (by omega) (by omega), wr (n := satI a + 1000000000 + 1000 - 1) (by omega) (by omega), tdiv_pos (by omega), wr (n := (satI a + 1000000000 + 1000 - 1) / 1000) (by omega) (by omega), wr (by omega) (by omega)]
  congr 1
  omega
theorem nearI_lin {x : Int} (h0 : -1000000000 ≤ x) (h1 : x ≤ 1000000000) : nearI x = if x < 0 then -((-x + 500) / 1000) else (x + 500) / 1000 := by
  unfold nearI
  by_cases c : x < 0
  · rw [if_pos c, if_pos c, tdiv_pos (by omega)]
  · rw [if_neg c, if_neg c, tdiv_pos (by omega)]
/-- How many are wanted, of a load times replicas P and a target t. -/
def FT (t P : Int) : Int := mn (upI (mn (mn P 1000000000 * 1000 / t) 1000000000)) 1000
def cl (n lo hi : Int) : Int := mn (mx n lo) hi
theorem into_eq (n lo hi : Int) (h : lo ≤ hi) : track_into_int.f n lo hi = some (cl n lo hi) := by
  unfold track_into_int.f cl mx mn
  by_cases h1 : n < lo
  · rw [if_pos h1]; congr 1; omega
  · rw [if_neg h1]
    by_cases h2 : n > hi
    · rw [if_pos h2]; congr 1; omega
    · rw [if_neg h2]; congr 1; omega
theorem into64_eq (n lo hi : Int) (h : lo ≤ hi) : track_into_int64.f n lo hi = some (cl n lo hi) := by
  unfold track_into_int64.f cl mx mn
  by_cases h1 : n < lo
  · rw [if_pos h1]; congr 1; omega
  · rw [if_neg h1]
    by_cases h2 : n > hi
    · rw [if_pos h2]; congr 1; omega
    · rw [if_neg h2]; congr 1; omega
theorem cl_in (n lo hi : Int) (h : lo ≤ hi) : lo ≤ cl n lo hi ∧ cl n lo hi ≤ hi := by unfold cl mx mn; omega
theorem FT_in {t P : Int} (ht : 1 ≤ t) (hP : 0 ≤ P) : 0 ≤ FT t P ∧ FT t P ≤ 1000 := by
  have h : 0 ≤ mn P 1000000000 * 1000 / t := Int.ediv_nonneg (by unfold mn; omega) (by omega)
  unfold FT
  generalize mn P 1000000000 * 1000 / t = d at h
  unfold upI mn
  omega
theorem trackWant_eq (t c u : Int) : track_Want.f t c u = some (FT (cl t 1 1000000000) (cl c 0 1000 * cl u 0 1000000000)) := by
  have hc := cl_in c 0 1000 (by decide)
  have hu := cl_in u 0 1000000000 (by decide)
  have ht := cl_in t 1 1000000000 (by decide)
  unfold track_Want.f
  simp only [into_eq c 0 1000 (by decide), into64_eq u 0 1000000000 (by decide), into64_eq t 1 1000000000 (by decide), Option.bind_some]
  generalize cl c 0 1000 = x at hc ⊢
  generalize cl u 0 1000000000 = v at hu ⊢
  generalize cl t 1 1000000000 = s at ht ⊢
  have M : ∀ a b, fixed_Mul.f a b = some (satI (mulI (satI a) (satI b))) := fun _ _ => rfl
  have D : ∀ a b, fixed_Div.f a b = some (satI (divI (satI a) (satI b))) := fun _ _ => rfl
  have hP0 : 0 ≤ x * v := Int.mul_nonneg hc.1 hu.1
  have e1 : mulI (satI (1000 * x)) (satI v) = x * v := by
    rw [satI_in (by omega) (by omega), satI_in (by omega) (by omega)]
    unfold mulI
    rw [Int.mul_assoc, Int.mul_comm 1000 (x * v)]
    exact Int.mul_tdiv_cancel _ (by decide)
  rw [wr (n := 1000 * x) (by omega) (by omega)]
  simp only [M, D, Option.bind_some, e1, up_eq]
  generalize x * v = P at hP0 ⊢
  have e2 : satI P = mn P 1000000000 := by unfold satI mx mn; omega
  have e3 : 0 ≤ mn P 1000000000 ∧ mn P 1000000000 ≤ 1000000000 := by unfold mn; omega
  rw [e2, satI_in (n := mn P 1000000000) (by omega) (by omega), satI_in (n := s) (by omega) (by omega)]
  unfold divI
  rw [if_neg (by omega), tdiv_pos (by omega)]
  unfold FT
  have h : 0 ≤ mn P 1000000000 * 1000 / s := Int.ediv_nonneg (by omega) (by omega)
  generalize mn P 1000000000 * 1000 / s = d at h
  have e4 : satI d = mn d 1000000000 := by unfold satI mx mn; omega
  have e5 : satI (mn d 1000000000) = mn d 1000000000 := by unfold satI mx mn; omega
  rw [e4, e5, into_eq _ _ _ (by decide)]
  simp only [Option.bind_some]
  congr 1
  unfold cl upI mx mn
  omega
theorem FT_mono {t P Q : Int} (ht : 1 ≤ t) (h : P ≤ Q) : FT t P ≤ FT t Q := by
  have h1 : mn P 1000000000 * 1000 / t ≤ mn Q 1000000000 * 1000 / t := Int.ediv_le_ediv (by omega) (by unfold mn; omega)
  unfold FT
  generalize mn P 1000000000 * 1000 / t = d at h1 ⊢
  generalize mn Q 1000000000 * 1000 / t = e at h1 ⊢
  unfold upI mn
  omega
theorem FT_anti {s t P : Int} (hs : 1 ≤ s) (h : s ≤ t) (hP : 0 ≤ P) : FT t P ≤ FT s P := by
  have hp : 0 ≤ mn P 1000000000 * 1000 := by unfold mn; omega
  have h1 : mn P 1000000000 * 1000 / t ≤ mn P 1000000000 * 1000 / s := by
    refine (Int.le_ediv_iff_mul_le (by omega)).2 ?_
    have h2 := Int.mul_ediv_self_le (x := mn P 1000000000 * 1000) (k := t) (by omega)
    have h3 : 0 ≤ mn P 1000000000 * 1000 / t := Int.ediv_nonneg hp (by omega)
    have h4 : mn P 1000000000 * 1000 / t * s ≤ mn P 1000000000 * 1000 / t * t := Int.mul_le_mul_of_nonneg_left h h3
    rw [Int.mul_comm t] at h2
    omega
  unfold FT
  generalize mn P 1000000000 * 1000 / t = d at h1 ⊢
  generalize mn P 1000000000 * 1000 / s = e at h1 ⊢
  unfold upI mn
  omega
theorem tmod_emod (t p : Int) : Int.tmod t p % p = t % p := by
  have h : Int.tmod t p = t - p * Int.tdiv t p := by have := Int.tmod_add_mul_tdiv t p; omega
  rw [h, Int.sub_mul_emod_self_left]
theorem at_eq {p t : Int} (hp1 : 1 ≤ p) (hp2 : p ≤ 1099511627776) : sched_At.f p t = some (t % p) := by
  unfold sched_At.f
  rw [if_neg (by omega)]
  have hb := tmod_bounds t p (by omega)
  rw [wr (by omega) (by omega), Int.tmod_eq_emod_of_nonneg (by omega), Int.add_emod_right, tmod_emod]
theorem emod_in (t p : Int) (hp : 1 ≤ p) : 0 ≤ t % p ∧ t % p < p := ⟨Int.emod_nonneg t (by omega), Int.emod_lt_of_pos t (by omega)⟩
theorem schedWant_eq {p : Int} {l : List S58} {t : Int} (hp1 : 1 ≤ p) (hp2 : p ≤ 1099511627776) : sched_Want.f p l t = some (backS l (t % p)) := by
  unfold sched_Want.f
  rw [at_eq hp1 hp2]
  rfl
theorem backS_nil (a : Int) : backS [] a = 0 := rfl
theorem backS_snoc (l : List S58) (s : S58) (a : Int) : backS (l ++ [s]) a = if s.f0 ≤ a then s.f1 else backS l a := by
  unfold backS
  rw [List.reverse_append]
  by_cases h : s.f0 ≤ a <;> simp [h]
theorem rd_at (l : List S58) (i : Nat) (h : i < l.length) : rd_T58 l (i : Int) = l[i] := by
  simp [rd_T58, h]
theorem take_snoc {α : Type} (l : List α) (i : Nat) (h : i < l.length) : l.take (i + 1) = l.take i ++ [l[i]] := by
  rw [List.take_succ_eq_append_getElem h]
/-- WHAT THE GUARD SAYS. -/
structure RightP (p : Int) (l : List S58) : Prop where
  p1 : 1 ≤ p
  p2 : p ≤ 1099511627776
  n1 : 1 ≤ l.length
  n8 : l.length ≤ 8
  z : (rd_T58 l 0).f0 = 0
  lo : ∀ i : Int, 0 ≤ i → i < (l.length : Int) → 0 ≤ (rd_T58 l i).f0 ∧ (rd_T58 l i).f0 ≤ p - 1
  up : ∀ i : Int, 0 < i → i < (l.length : Int) → (rd_T58 l (i - 1)).f0 < (rd_T58 l i).f0
  nn : ∀ i : Int, 0 ≤ i → i < (l.length : Int) → 0 ≤ (rd_T58 l i).f1 ∧ (rd_T58 l i).f1 ≤ 1000
theorem withinP_eq (a b c : Int) : governorref09_within.f a b c = some (decide (b ≤ a) && decide (a ≤ c)) := by
  unfold governorref09_within.f
  by_cases h : b ≤ a <;> simp [h]
theorem slots_loop (l : List S58) (p : Int) (hp1 : 1 ≤ p) (hp2 : p ≤ 1099511627776) (hl : l.length ≤ 8) (d : Nat) : ∀ (k : Nat) (i : Int), 0 ≤ i → i + (d : Int) = (l.length : Int) → d < k →
    ∃ b, governorref09_slots.l0 k l p i = some b ∧ (b = true → ∀ j : Int, i ≤ j → j < (l.length : Int) → (0 ≤ (rd_T58 l j).f0 ∧ (rd_T58 l j).f0 ≤ p - 1) ∧ (0 < j → (rd_T58 l (j - 1)).f0 < (rd_T58 l j).f0) ∧ 0 ≤ (rd_T58 l j).f1 ∧ (rd_T58 l j).f1 ≤ 1000) := by
  induction d with
  | zero =>
    intro k i h0 hd hk
    obtain ⟨k, rfl⟩ : ∃ m, k = m + 1 := ⟨k - 1, by omega⟩
    simp only [governorref09_slots.l0]
    rw [if_neg (by omega)]
    exact ⟨true, rfl, fun _ j h1 h2 => by omega⟩
  | succ d ih =>
    intro k i h0 hd hk
    obtain ⟨k, rfl⟩ : ∃ m, k = m + 1 := ⟨k - 1, by omega⟩
    simp only [governorref09_slots.l0, withinP_eq, Option.bind_some]
    rw [if_pos (by omega), if_pos h0, wr (n := p - 1) (by omega) (by omega), wr (n := i + 1) (by omega) (by omega), wr (n := i - 1) (by omega) (by omega)]
    obtain ⟨b, hb, hP⟩ := ih k (i + 1) (by omega) (by omega) (by omega)
    by_cases c1 : (decide (0 ≤ (rd_T58 l i).f0) && decide ((rd_T58 l i).f0 ≤ p - 1)) = true
    · rw [if_pos c1]
      by_cases c2 : (decide (0 ≤ (rd_T58 l i).f1) && decide ((rd_T58 l i).f1 ≤ 1000)) = true
      · by_cases c3 : i > 0
        · rw [if_pos c3, if_pos (by omega), if_pos (by omega)]
          by_cases c4 : (rd_T58 l i).f0 ≤ (rd_T58 l (i - 1)).f0
          · rw [if_pos c4]; exact ⟨false, rfl, fun h => by cases h⟩
          · rw [if_neg c4, if_pos c2]
            refine ⟨b, hb, fun h j h1 h2 => ?_⟩
            by_cases e : j = i
            · subst e
              simp at c1 c2
              exact ⟨c1, fun _ => by omega, c2⟩
            · exact hP h j (by omega) h2
        · rw [if_neg c3, if_pos c2]
          refine ⟨b, hb, fun h j h1 h2 => ?_⟩
          by_cases e : j = i
          · subst e
            simp at c1 c2
            exact ⟨c1, fun _ => by omega, c2⟩
          · exact hP h j (by omega) h2
      · by_cases c3 : i > 0
        · rw [if_pos c3, if_pos (by omega), if_pos (by omega)]
          by_cases c4 : (rd_T58 l i).f0 ≤ (rd_T58 l (i - 1)).f0
          · rw [if_pos c4]; exact ⟨false, rfl, fun h => by cases h⟩
          · rw [if_neg c4, if_neg c2]; exact ⟨false, rfl, fun h => by cases h⟩
        · rw [if_neg c3, if_neg c2]; exact ⟨false, rfl, fun h => by cases h⟩
    · rw [if_neg c1]; exact ⟨false, rfl, fun h => by cases h⟩
theorem slots_tells (l : List S58) (p : Int) (k : Nat) (hk : 20 ≤ k) (hl : l.length ≤ 8) : ∃ b, governorref09_slots.f k l p = some b ∧ (b = true → RightP p l) := by
  obtain ⟨k, rfl⟩ : ∃ m, k = m + 1 := ⟨k - 1, by omega⟩
  unfold governorref09_slots.f
  simp only [governorref09_slots.j0, withinP_eq, Option.bind_some]
  by_cases c1 : (l.length : Int) < 1
  · rw [if_pos c1]; exact ⟨false, by simp, fun h => by cases h⟩
  · rw [if_neg c1, if_neg (by omega), if_pos (by omega)]
    by_cases c2 : (rd_T58 l 0).f0 = 0
    · rw [if_pos c2]
      by_cases c3 : 1 ≤ p ∧ p ≤ 1099511627776
      · obtain ⟨b, hb, hP⟩ := slots_loop l p c3.1 c3.2 hl l.length k 0 (by omega) (by omega) (by omega)
        refine ⟨b, by simp [c3.1, c3.2, hb], fun h => ⟨c3.1, c3.2, by omega, hl, c2, fun i h0 h1 => (hP h i h0 h1).1, fun i h0 h1 => (hP h i (by omega) h1).2.1 h0, fun i h0 h1 => (hP h i h0 h1).2.2⟩⟩
      · refine ⟨false, ?_, fun h => by cases h⟩
        have : (decide (1 ≤ p) && decide (p ≤ 1099511627776)) = false := by
          rw [Bool.eq_false_iff]; intro h; simp at h; exact c3 h
        simp [this]
    · rw [if_neg c2]; exact ⟨false, by simp, fun h => by cases h⟩
theorem withinS_eq (a b c : Int) : governorref09_within.f a b c = some (decide (b ≤ a) && decide (a ≤ c)) := by
  unfold governorref09_within.f
  by_cases h : b ≤ a <;> simp [h]
/-- WHAT THE GUARD SAYS. -/
structure BandsP (l : List S56) : Prop where
  n1 : 1 ≤ l.length
  n8 : l.length ≤ 8
  lo : ∀ i : Int, 0 ≤ i → i < (l.length : Int) → 0 ≤ (rd_T56 l i).f0 ∧ (rd_T56 l i).f0 ≤ 1000000000
  up : ∀ i : Int, 0 < i → i < (l.length : Int) → (rd_T56 l (i - 1)).f0 < (rd_T56 l i).f0
  dd : ∀ i : Int, 0 ≤ i → i < (l.length : Int) → -1000 ≤ (rd_T56 l i).f1 ∧ (rd_T56 l i).f1 ≤ 1000
theorem bands_loop (l : List S56) (hl : l.length ≤ 8) (d : Nat) : ∀ (k : Nat) (i : Int), 0 ≤ i → i + (d : Int) = (l.length : Int) → d < k →
    ∃ b, governorref09_bands.l0 k l i = some b ∧ (b = true → 1 ≤ l.length ∧ ∀ j : Int, i ≤ j → j < (l.length : Int) → (0 ≤ (rd_T56 l j).f0 ∧ (rd_T56 l j).f0 ≤ 1000000000) ∧ (0 < j → (rd_T56 l (j - 1)).f0 < (rd_T56 l j).f0) ∧ -1000 ≤ (rd_T56 l j).f1 ∧ (rd_T56 l j).f1 ≤ 1000) := by
  induction d with
  | zero =>
    intro k i h0 hd hk
    obtain ⟨k, rfl⟩ : ∃ m, k = m + 1 := ⟨k - 1, by omega⟩
    simp only [governorref09_bands.l0]
    rw [if_neg (by omega)]
    by_cases c : (l.length : Int) ≥ 1
    · rw [if_pos c]; exact ⟨_, rfl, fun _ => ⟨by omega, fun j h1 h2 => by omega⟩⟩
    · rw [if_neg c]; exact ⟨false, rfl, fun h => by cases h⟩
  | succ d ih =>
    intro k i h0 hd hk
    obtain ⟨k, rfl⟩ : ∃ m, k = m + 1 := ⟨k - 1, by omega⟩
    simp only [governorref09_bands.l0, withinS_eq, Option.bind_some]
    rw [if_pos (by omega), if_pos h0, wr (n := i + 1) (by omega) (by omega), wr (n := i - 1) (by omega) (by omega)]
    obtain ⟨b, hb, hP⟩ := ih k (i + 1) (by omega) (by omega) (by omega)
    by_cases c1 : (decide (0 ≤ (rd_T56 l i).f0) && decide ((rd_T56 l i).f0 ≤ 1000000000)) = true
    · rw [if_pos c1]
      by_cases c2 : (decide (-1000 ≤ (rd_T56 l i).f1) && decide ((rd_T56 l i).f1 ≤ 1000)) = true
      · by_cases c3 : i > 0
        · rw [if_pos c3, if_pos (by omega), if_pos (by omega)]
          by_cases c4 : (rd_T56 l i).f0 ≤ (rd_T56 l (i - 1)).f0
          · rw [if_pos c4]; exact ⟨false, rfl, fun h => by cases h⟩
          · rw [if_neg c4, if_pos c2]
            refine ⟨b, hb, fun h => ⟨by omega, fun j h1 h2 => ?_⟩⟩
            by_cases e : j = i
            · subst e
              simp at c1 c2
              exact ⟨c1, fun _ => by omega, c2⟩
            · exact (hP h).2 j (by omega) h2
        · rw [if_neg c3, if_pos c2]
          refine ⟨b, hb, fun h => ⟨by omega, fun j h1 h2 => ?_⟩⟩
          by_cases e : j = i
          · subst e
            simp at c1 c2
            exact ⟨c1, fun _ => by omega, c2⟩
          · exact (hP h).2 j (by omega) h2
      · by_cases c3 : i > 0
        · rw [if_pos c3, if_pos (by omega), if_pos (by omega)]
          by_cases c4 : (rd_T56 l i).f0 ≤ (rd_T56 l (i - 1)).f0
          · rw [if_pos c4]; exact ⟨false, rfl, fun h => by cases h⟩
          · rw [if_neg c4, if_neg c2]; exact ⟨false, rfl, fun h => by cases h⟩
        · rw [if_neg c3, if_neg c2]; exact ⟨false, rfl, fun h => by cases h⟩
    · rw [if_neg c1]; exact ⟨false, rfl, fun h => by cases h⟩
theorem bands_tells (l : List S56) (k : Nat) (hk : 20 ≤ k) (hl : l.length ≤ 8) : ∃ b, governorref09_bands.f k l = some b ∧ (b = true → BandsP l) := by
  obtain ⟨b, hb, hP⟩ := bands_loop l hl l.length k 0 (by omega) (by omega) (by omega)
  exact ⟨b, hb, fun h => ⟨(hP h).1, hl, fun i h0 h1 => ((hP h).2 i h0 h1).1, fun i h0 h1 => ((hP h).2 i (by omega) h1).2.1 h0, fun i h0 h1 => ((hP h).2 i h0 h1).2.2⟩⟩
theorem rdB_at (l : List S56) (i : Nat) (h : i < l.length) : rd_T56 l (i : Int) = l[i] := by
  simp [rd_T56, h]
theorem bands_mono {l : List S56} (R : BandsP l) (i : Nat) (d : Nat) : ∀ (h : i + 1 + d < l.length), l[i].f0 < l[i + 1 + d].f0 := by
  induction d with
  | zero =>
    intro h
    have h2 := R.up ((i + 1 : Nat) : Int) (by omega) (by omega)
    rw [show ((i + 1 : Nat) : Int) - 1 = ((i : Nat) : Int) by omega, rdB_at l i (by omega), rdB_at l (i + 1) (by omega)] at h2
    exact h2
  | succ d ih =>
    intro h
    have h1 := ih (by omega)
    have h2 := R.up ((i + 1 + d + 1 : Nat) : Int) (by omega) (by omega)
    rw [show ((i + 1 + d + 1 : Nat) : Int) - 1 = ((i + 1 + d : Nat) : Int) by omega, rdB_at l (i + 1 + d) (by omega), rdB_at l (i + 1 + d + 1) (by omega)] at h2
    have h3 : l[i + 1 + (d + 1)] = l[i + 1 + d + 1] := rfl
    rw [h3]
    omega
theorem bands_sorted {l : List S56} (R : BandsP l) : SortedS l := by
  refine ⟨by have := R.n8; omega, List.pairwise_iff_getElem.2 fun i j hi hj hij => ?_⟩
  obtain ⟨d, rfl⟩ : ∃ d, j = i + 1 + d := ⟨j - i - 1, by omega⟩
  exact bands_mono R i d hj
theorem cut_exists {l : List S56} (hs : SortedS l) (u : Int) (d : Nat) : ∀ i j : Int, j - i = (d : Int) → 0 ≤ i → j ≤ (l.length : Int) → cutS l u i j → ∃ c, cutS l u c c ∧ 0 ≤ c ∧ c ≤ (l.length : Int) := by
  induction d with
  | zero => intro i j hd h0 hj hc; obtain rfl : i = j := by omega
            exact ⟨i, hc, h0, hj⟩
  | succ d ih =>
    intro i j hd h0 hj hc
    by_cases h : (rd_T56 l i).f0 ≤ u
    · exact ih (i + 1) j (by omega) (by omega) hj (cutS_le hs hc h0 (by omega) h)
    · exact ⟨i, cutS_gt hs hc h0 (by omega) (by omega), h0, by omega⟩
/-- THE BAND THAT IS FOUND: the bands up to it, and no others, are not above. -/
theorem find_iff {l : List S56} (hs : SortedS l) (u : Int) (i : Int) (h0 : 0 ≤ i) (hi : i < (l.length : Int)) : (rd_T56 l i).f0 ≤ u ↔ i ≤ findS l u := by
  obtain ⟨c, hc, c0, c1⟩ := cut_exists hs u l.length 0 (l.length : Int) (by omega) (Int.le_refl _) (Int.le_refl _) (cutS_start l u)
  rw [cutS_end hc c0 c1, rdS_at l i h0 hi]
  constructor
  · intro h
    by_cases q : c ≤ i
    · have := hc.2 i.toNat (by omega) (by omega)
      omega
    · omega
  · intro h
    exact hc.1 i.toNat (by omega) (by omega)
theorem find_of {l : List S56} (hs : SortedS l) (u : Int) (c : Int) (c0 : -1 ≤ c) (c1 : c < (l.length : Int)) (h1 : 0 ≤ c → (rd_T56 l c).f0 ≤ u) (h2 : c + 1 < (l.length : Int) → u < (rd_T56 l (c + 1)).f0) : findS l u = c := by
  have hin := findS_in l u
  have a1 : c ≤ findS l u := by
    by_cases q : 0 ≤ c
    · exact (find_iff hs u c q c1).1 (h1 q)
    · omega
  by_cases q : c + 1 < (l.length : Int)
  · have := mt (find_iff hs u (c + 1) (by omega) q).2 (by have := h2 q; omega)
    omega
  · omega
theorem stepFind_eq {l : List S56} (hs : SortedS l) (u : Int) : step_Find.f l u = some (findS l u) := by
  unfold step_Find.f; rw [if_pos hs]
theorem stepWant_eq {l : List S56} (hs : SortedS l) (c u : Int) : step_Want.f l c u = some (if findS l u ≥ 0 then cl0 (wrap64 (cl0 c + (rd_T56 l (findS l u)).f1)) else cl0 c) := by
  unfold step_Want.f; rw [if_pos hs]
theorem cl0_in (n : Int) : 0 ≤ cl0 n ∧ cl0 n ≤ 1000 := by unfold cl0 mx mn; omega
theorem cl0_mono {m n : Int} (h : m ≤ n) : cl0 m ≤ cl0 n := by unfold cl0 mx mn; omega
theorem cl0_same {n : Int} (h0 : 0 ≤ n) (h1 : n ≤ 1000) : cl0 n = n := by unfold cl0 mx mn; omega
theorem satI_0 : satI 0 = 0 := satI_in (by omega) (by omega)
theorem satI_satI (n : Int) : satI (satI n) = satI n := satI_in (satI_lo n) (satI_hi n)
theorem satI_neg (n : Int) : satI (-n) = -satI n := by unfold satI mx mn; omega
theorem mulI_neg (a b : Int) : mulI a (-b) = -mulI a b := by
  unfold mulI
  rw [Int.mul_neg, Int.neg_tdiv]
theorem mulI_0 (a : Int) : mulI a 0 = 0 := by unfold mulI; simp
theorem mulI_0l (a : Int) : mulI 0 a = 0 := by unfold mulI; simp
theorem nearI_neg (n : Int) : nearI (-n) = -nearI n := by
  unfold nearI
  by_cases h : n < 0
  · rw [if_pos h, if_neg (by omega), Int.neg_neg]
  · by_cases q : n = 0
    · subst q; decide
    · rw [if_neg h, if_pos (by omega), Int.neg_neg]
theorem nearI_0 : nearI 0 = 0 := by decide
/-- What is off, what has changed, and the answer. -/
def errI (t u : Int) : Int := satI (satI u - satI t)
def sumI (s e : Int) : Int := satI (satI s + satI e)
def chgI (h : Bool) (p e : Int) : Int := if h = true then satI (satI e - satI p) else 0
def pidW (kp ki kd e s c : Int) : Int := satI (satI (satI (satI (satI (mulI (satI kp) (satI e))) + satI (satI (mulI (satI ki) (satI s))))) + satI (satI (mulI (satI kd) (satI c))))
def pidN (kp ki kd e s c : Int) : Int := mx (-1000) (mn 1000 (nearI (satI (pidW kp ki kd e s c))))
theorem errI_in (t u : Int) : -1000000000 ≤ errI t u ∧ errI t u ≤ 1000000000 := ⟨satI_lo _, satI_hi _⟩
theorem sumI_in (t u : Int) : -1000000000 ≤ sumI t u ∧ sumI t u ≤ 1000000000 := ⟨satI_lo _, satI_hi _⟩
theorem pidN_in (kp ki kd e s c : Int) : -1000 ≤ pidN kp ki kd e s c ∧ pidN kp ki kd e s c ≤ 1000 := by unfold pidN mx mn; omega
theorem weighed_eq (k : Nat) (a b c : S122) : pid_weighed.f (k + 4) [a, b, c] = some (satI (satI (satI (satI (satI (mulI (satI a.f0) (satI a.f1))) + satI (satI (mulI (satI b.f0) (satI b.f1))))) + satI (satI (mulI (satI c.f0) (satI c.f1))))) := by
  have hA : ∀ a b, fixed_Add.f a b = some (satI (satI a + satI b)) := fun _ _ => rfl
  have hM : ∀ a b, fixed_Mul.f a b = some (satI (mulI (satI a) (satI b))) := fun _ _ => rfl
  have w1 : wrap64 (0 + 1) = 1 := wr (by omega) (by omega)
  have w2 : wrap64 (1 + 1) = 2 := wr (by omega) (by omega)
  have w3 : wrap64 (2 + 1) = 3 := wr (by omega) (by omega)
  have l3 : ((([a, b, c] : List S122).length : Nat) : Int) = 3 := rfl
  have r0 : rd_T122 [a, b, c] 0 = a := rfl
  have r1 : rd_T122 [a, b, c] 1 = b := rfl
  have r2 : rd_T122 [a, b, c] 2 = c := rfl
  unfold pid_weighed.f
  rw [l3]
  simp only [pid_weighed.l0, l3, hA, hM, w1, w2, w3, r0, r1, r2, Option.bind_some]
  rw [if_pos (by omega), if_pos (by omega), if_pos (by omega), if_pos (by omega), if_pos (by omega), if_pos (by omega), if_pos (by omega), if_pos (by omega), if_pos (by omega), if_neg (by omega)]
  simp only [satI_satI, satI_0, Int.zero_add]
theorem pid_eq (k : Nat) (m t : Int) (lb : List S56) (kp ki kd x : Int) (lw : List S58) (s p : Int) (h : Bool) (u : Int) :
    pid_Next.f (k + 4) m t lb kp ki kd x lw s p h u = some (sumI s (errI t u), errI t u, true, pidN kp ki kd (errI t u) (sumI s (errI t u)) (chgI h p (errI t u))) := by
  have hA : ∀ a b, fixed_Add.f a b = some (satI (satI a + satI b)) := fun _ _ => rfl
  have hS : ∀ a b, fixed_Sub.f a b = some (satI (satI a - satI b)) := fun _ _ => rfl
  have hN : ∀ a, fixed_Near.f a = some (nearI (satI a)) := fun _ => rfl
  unfold pid_Next.f
  cases h <;> simp only [hA, hS, hN, weighed_eq, Option.bind_some, reduceIte, Bool.false_eq_true] <;> simp [sumI, errI, pidN, pidW, chgI]
theorem pid_eqk {k : Nat} (hk : 4 ≤ k) (m t : Int) (lb : List S56) (kp ki kd x : Int) (lw : List S58) (s p : Int) (h : Bool) (u : Int) :
    pid_Next.f k m t lb kp ki kd x lw s p h u = some (sumI s (errI t u), errI t u, true, pidN kp ki kd (errI t u) (sumI s (errI t u)) (chgI h p (errI t u))) := by
  obtain ⟨k, rfl⟩ : ∃ m, k = m + 4 := ⟨k - 4, by omega⟩
  exact pid_eq k m t lb kp ki kd x lw s p h u
theorem none_some (a : Int) (b : Int) (c : List S56) (d e f g : Int) (h : List S58) (x1 x2 x3 x4 : Bool) : ∃ r, governorref09_none.f a b c d e f g h x1 x2 x3 x4 = some r := by
  unfold governorref09_none.f
  repeat' split
  all_goals exact ⟨_, rfl⟩
/-- WHAT THE GUARD SAYS. -/
structure PolP (kind : Int) (lb : List S56) (period : Int) (ls : List S58) : Prop where
  b8 : lb.length ≤ 8
  s8 : ls.length ≤ 8
  bands : kind = 2 → BandsP lb
  slots : kind = 4 → RightP period ls
theorem policyR_tells (kd tg : Int) (lb : List S56) (kp ki kdd pe : Int) (ls : List S58) (k : Nat) (hk : 20 ≤ k) (h8 : lb.length ≤ 8) (h9 : ls.length ≤ 8) :
    ∃ b, governorref09_Policy.f k kd tg lb kp ki kdd pe ls = some b ∧ (b = true → (kd = 2 → BandsP lb) ∧ (kd = 4 → RightP pe ls)) := by
  unfold governorref09_Policy.f
  simp only [withinS_eq, Option.bind_some]
  by_cases h1 : kd = 1
  · rw [if_pos h1]
    obtain ⟨r, hr⟩ := none_some kd tg lb kp ki kdd pe ls false true true true
    rw [hr]
    split
    · exact ⟨r, rfl, fun _ => ⟨fun h => by omega, fun h => by omega⟩⟩
    · exact ⟨false, rfl, fun h => by cases h⟩
  · rw [if_neg h1]
    by_cases h2 : kd = 2
    · rw [if_pos h2]
      obtain ⟨b, hb, hP⟩ := bands_tells lb k hk h8
      obtain ⟨r, hr⟩ := none_some kd tg lb kp ki kdd pe ls true false true true
      rw [hb, hr]
      cases b
      · exact ⟨false, by simp, fun h => by cases h⟩
      · exact ⟨r, by simp, fun _ => ⟨fun _ => hP rfl, fun h => by omega⟩⟩
    · rw [if_neg h2]
      by_cases h3 : kd = 3
      · rw [if_pos h3]
        obtain ⟨r, hr⟩ := none_some kd tg lb kp ki kdd pe ls false true false true
        rw [hr]
        repeat' split
        all_goals first | exact ⟨r, rfl, fun _ => ⟨fun h => by omega, fun h => by omega⟩⟩ | exact ⟨false, rfl, fun h => by cases h⟩
      · rw [if_neg h3]
        by_cases h4 : kd = 4
        · rw [if_pos h4]
          obtain ⟨b, hb, hP⟩ := slots_tells ls pe k hk h9
          obtain ⟨r, hr⟩ := none_some kd tg lb kp ki kdd pe ls true true true false
          rw [hb, hr]
          cases b
          · exact ⟨false, by simp, fun h => by cases h⟩
          · exact ⟨r, by simp, fun _ => ⟨fun h => by omega, fun _ => hP rfl⟩⟩
        · rw [if_neg h4]
          exact ⟨false, rfl, fun h => by cases h⟩
theorem backS_in01 {p : Int} {l : List S58} (R : RightP p l) (a : Int) (n : Nat) : n ≤ l.length → 0 ≤ backS (l.take n) a ∧ backS (l.take n) a ≤ 1000 := by
  induction n with
  | zero => intro _; rw [List.take_zero, backS_nil]; omega
  | succ n ih =>
    intro h
    have i := ih (by omega)
    have q := R.nn (n : Int) (by omega) (by omega)
    rw [rd_at l n (by omega)] at q
    rw [take_snoc l n (by omega), backS_snoc]
    by_cases c : l[n].f0 ≤ a
    · rw [if_pos c]; exact q
    · rw [if_neg c]; exact i
theorem backS_ok {p : Int} {l : List S58} (R : RightP p l) (a : Int) : 0 ≤ backS l a ∧ backS l a ≤ 1000 := by
  have h := backS_in01 R a l.length (Nat.le_refl _)
  rw [List.take_length] at h
  exact h
/-- WHAT A POLICY CARRIES ON, AND WANTS, of so many (c of them, within bounds). -/
def polR (kd tg : Int) (lb : List S56) (kp ki kdd pe : Int) (ls : List S58) (s p : Int) (h : Bool) (c u t : Int) : Int × Int × Bool × Int :=
  if kd = 1 then (s, p, h, FT (cl tg 1 1000000000) (c * cl u 0 1000000000))
  else if kd = 2 then (s, p, h, if findS lb u ≥ 0 then cl0 (wrap64 (c + (rd_T56 lb (findS lb u)).f1)) else c)
  else if kd = 3 then (sumI s (errI tg u), errI tg u, true, cl0 (wrap64 (c + pidN kp ki kdd (errI tg u) (sumI s (errI tg u)) (chgI h p (errI tg u)))))
  else if kd = 4 then (s, p, h, backS ls (t % pe))
  else (s, p, h, c)
theorem cl_cl0 (n : Int) : mn (mx n 0) 1000 = cl0 n := by unfold cl0 mx mn; omega
theorem clT_cl0 (n : Int) : cl n 0 1000 = cl0 n := by unfold cl cl0 mx mn; omega
theorem cl0_cl0 (n : Int) : cl0 (cl0 n) = cl0 n := cl0_same (cl0_in n).1 (cl0_in n).2
theorem trackF_in (tg c u : Int) (hc : 0 ≤ c) : 0 ≤ FT (cl tg 1 1000000000) (c * cl u 0 1000000000) ∧ FT (cl tg 1 1000000000) (c * cl u 0 1000000000) ≤ 1000 :=
  FT_in (cl_in tg 1 1000000000 (by decide)).1 (Int.mul_nonneg hc (cl_in u 0 1000000000 (by decide)).1)
theorem polR_in {kd : Int} {lb : List S56} {pe : Int} {ls : List S58} (R : PolP kd lb pe ls) (tg kp ki kdd s p : Int) (h : Bool) (c u t : Int) (c0 : 0 ≤ c) (c1 : c ≤ 1000) :
    0 ≤ (polR kd tg lb kp ki kdd pe ls s p h c u t).2.2.2 ∧ (polR kd tg lb kp ki kdd pe ls s p h c u t).2.2.2 ≤ 1000 := by
  unfold polR
  by_cases h1 : kd = 1
  · rw [if_pos h1]; exact trackF_in tg c u c0
  · rw [if_neg h1]
    by_cases h2 : kd = 2
    · rw [if_pos h2]
      show 0 ≤ (if findS lb u ≥ 0 then _ else _) ∧ (if findS lb u ≥ 0 then _ else _) ≤ 1000
      by_cases q : findS lb u ≥ 0
      · rw [if_pos q]; exact cl0_in _
      · rw [if_neg q]; exact ⟨c0, c1⟩
    · rw [if_neg h2]
      by_cases h3 : kd = 3
      · rw [if_pos h3]; exact cl0_in _
      · rw [if_neg h3]
        by_cases h4 : kd = 4
        · rw [if_pos h4]; exact backS_ok (R.slots h4) _
        · rw [if_neg h4]; exact ⟨c0, c1⟩
theorem polNext_eq {kd : Int} {lb : List S56} {pe : Int} {ls : List S58} (R : PolP kd lb pe ls) (tg kp ki kdd s p : Int) (h : Bool) (c u t : Int) (k : Nat) (hk : 20 ≤ k) :
    policy_Next.f k kd tg lb kp ki kdd pe ls s p h c u t = some (polR kd tg lb kp ki kdd pe ls s p h (cl0 c) u t) := by
  have c0 := cl0_in c
  unfold policy_Next.f polR
  by_cases h1 : kd = 1
  · rw [if_pos h1, if_pos h1]
    unfold policy_kinds_1.f
    have b := trackF_in tg (cl0 c) u c0.1
    simp only [trackWant_eq, clT_cl0, cl0_cl0, Option.bind_some]
    rw [cl0_same b.1 b.2]
  · rw [if_neg h1, if_neg h1]
    by_cases h2 : kd = 2
    · rw [if_pos h2, if_pos h2]
      unfold policy_kinds_2.f
      simp only [stepWant_eq (bands_sorted (R.bands h2)), cl0_cl0, Option.bind_some]
      by_cases q : findS lb u ≥ 0
      · simp only [if_pos q, cl0_cl0]
      · simp only [if_neg q, cl0_cl0]
    · rw [if_neg h2, if_neg h2]
      by_cases h3 : kd = 3
      · rw [if_pos h3, if_pos h3]
        unfold policy_kinds_3.f
        simp only [@pid_eqk k (by omega), Option.bind_some]
      · rw [if_neg h3, if_neg h3]
        by_cases h4 : kd = 4
        · have S := R.slots h4
          have b := backS_ok S (t % pe)
          rw [if_pos h4, if_pos h4]
          unfold policy_kinds_4.f
          simp only [schedWant_eq S.p1 S.p2, Option.bind_some]
          rw [cl0_same b.1 b.2]
        · rw [if_neg h4, if_neg h4, cl0_cl0]
end Go.Proofs.Ytefgoffaidjiaaa.PAll
namespace Go.Proofs.Ytefgoffaidjiaaa.PAll
open Go.RowKit Go.Proofs.YtefgoffaidjiaaaW.PrintWords Go.Proofs.YtefgoffaidjiaaaW.PrintLast Go.Proofs.YtefgoffaidjiaaaW.PrintMore
set_option linter.unusedVariables false
set_option linter.unusedSimpArgs false
/-! ### rows of small numbers -/
def Small (l : List Int) : Prop := ∀ x ∈ l, 0 ≤ x ∧ x ≤ 1000
theorem small_nil : Small [] := fun x h => by cases h
theorem small_cons {x : Int} {l : List Int} : Small (x :: l) ↔ (0 ≤ x ∧ x ≤ 1000) ∧ Small l := by simp [Small]
theorem small_append {a b : List Int} : Small (a ++ b) ↔ Small a ∧ Small b := by
  constructor
  · intro h; exact ⟨fun x hx => h x (by simp [hx]), fun x hx => h x (by simp [hx])⟩
  · rintro ⟨h1, h2⟩ x hx
    rcases List.mem_append.1 hx with hx | hx
    · exact h1 x hx
    · exact h2 x hx
theorem small_drop {l : List Int} (h : Small l) (n : Nat) : Small (l.drop n) := fun x hx => h x (List.mem_of_mem_drop hx)
theorem small_take {l : List Int} (h : Small l) (n : Nat) : Small (l.take n) := fun x hx => h x (List.mem_of_mem_take hx)
theorem small_zeros (n : Nat) : Small (List.replicate n 0) := fun x hx => by rw [List.eq_of_mem_replicate hx]; omega
theorem sum_nonneg {l : List Int} (h : Small l) : 0 ≤ l.sum := by
  induction l with
  | nil => simp
  | cons x l ih => rw [List.sum_cons]; have := ih (small_cons.1 h).2; have := (small_cons.1 h).1; omega
theorem sum_le {l : List Int} (h : Small l) : l.sum ≤ 1000 * (l.length : Int) := by
  induction l with
  | nil => simp
  | cons x l ih => rw [List.sum_cons, List.length_cons]; have := ih (small_cons.1 h).2; have := (small_cons.1 h).1; omega
theorem sum_app (a b : List Int) : (a ++ b).sum = a.sum + b.sum := by
  induction a with
  | nil => simp
  | cons x a ih => rw [List.cons_append, List.sum_cons, List.sum_cons, ih]; omega
theorem sum_zeros (n : Nat) : (List.replicate n (0 : Int)).sum = 0 := by
  induction n with
  | zero => rfl
  | succ n ih => rw [List.replicate_succ, List.sum_cons, ih]; rfl
theorem rd_nat (l : List Int) (i : Nat) : rd l (i : Int) = l.getD i 0 := by unfold rd; rw [Int.toNat_natCast]
theorem rd_get {l : List Int} {i : Nat} (h : i < l.length) : rd l (i : Int) = l[i] := by
  rw [rd_nat, List.getD_eq_getElem?_getD, List.getElem?_eq_getElem h]; rfl
theorem small_rd {l : List Int} (h : Small l) {i : Int} (h0 : 0 ≤ i) (h1 : i < (l.length : Int)) : 0 ≤ rd l i ∧ rd l i ≤ 1000 := by
  obtain ⟨n, rfl⟩ := Int.eq_ofNat_of_zero_le h0
  rw [rd_get (by omega)]
  exact h _ (List.getElem_mem _)
theorem rd_le_sum {l : List Int} (h : Small l) {i : Int} (h0 : 0 ≤ i) (h1 : i < (l.length : Int)) : rd l i ≤ l.sum := by
  obtain ⟨n, rfl⟩ := Int.eq_ofNat_of_zero_le h0
  rw [rd_get (by omega)]
  clear h0
  induction l generalizing n with
  | nil => simp at h1; omega
  | cons x l ih =>
    rw [List.sum_cons]
    have h2 := small_cons.1 h
    cases n with
    | zero => have := sum_nonneg h2.2; simp only [List.getElem_cons_zero]; omega
    | succ n =>
      simp only [List.getElem_cons_succ]
      have := ih h2.2 n (by simp only [List.length_cons] at h1; omega)
      omega
theorem sum_set (l : List Int) (n : Nat) (x : Int) (h : n < l.length) : (l.set n x).sum = l.sum - rd l (n : Int) + x := by
  rw [rd_get h]
  induction l generalizing n with
  | nil => simp at h
  | cons y l ih =>
    cases n with
    | zero => simp only [List.set_cons_zero, List.sum_cons, List.getElem_cons_zero]; omega
    | succ n =>
      simp only [List.set_cons_succ, List.sum_cons, List.getElem_cons_succ]
      rw [ih n (by simp only [List.length_cons] at h; omega)]
      omega
theorem small_set {l : List Int} (h : Small l) (n : Nat) {x : Int} (hx : 0 ≤ x ∧ x ≤ 1000) : Small (l.set n x) := by
  intro y hy
  rcases List.mem_or_eq_of_mem_set hy with hy | rfl
  · exact h y hy
  · exact hx
theorem rd_set_ne {l : List Int} {n : Nat} {i : Int} (x : Int) (h0 : 0 ≤ i) (h : i ≠ (n : Int)) : rd (l.set n x) i = rd l i := by
  obtain ⟨m, rfl⟩ := Int.eq_ofNat_of_zero_le h0
  rw [rd_nat, rd_nat, List.getD_eq_getElem?_getD, List.getD_eq_getElem?_getD, List.getElem?_set_ne (by omega)]
theorem rd_set_eq {l : List Int} {n : Nat} (x : Int) (h : n < l.length) : rd (l.set n x) (n : Int) = x := by
  rw [rd_nat, List.getD_eq_getElem?_getD, List.getElem?_set_self h]; rfl
/-- How many there are. -/
theorem allL_eq {l : List Int} (h : Small l) : ∀ {R : Int}, 0 ≤ R → R ≤ 1000000 → l.length ≤ 100 → allL R l = R + l.sum := by
  have key : ∀ (l : List Int) (R : Int), Small l → 0 ≤ R → R + 1000 * (l.length : Int) ≤ 9000000 → allL R l = R + l.sum := by
    intro l
    induction l with
    | nil => intro R _ _ _; simp [allL]
    | cons x l ih =>
      intro R hs h0 h1
      have h2 := small_cons.1 hs
      have e : allL R (x :: l) = allL (wrap64 (R + x)) l := rfl
      simp only [List.length_cons] at h1
      rw [e, wr (by omega) (by omega), ih (R + x) h2.2 (by omega) (by omega), List.sum_cons]
      omega
  intro R h0 h1 h2
  exact key l R h h0 (by omega)
/-- May a plant be so? -/
structure PR (R : Int) (l : List Int) (wt ut : Int) : Prop where
  r0 : 0 ≤ R
  r1 : R ≤ 1000
  len : l.length ≤ 8
  sm : Small l
  w0 : 0 ≤ wt
  w1 : wt ≤ 1000000000
  u0 : 0 ≤ ut
  u1 : ut ≤ 1000000000
  all : R + l.sum ≤ 1000
end Go.Proofs.Ytefgoffaidjiaaa.PAll
namespace Go.Proofs.Ytefgoffaidjiaaa.PAll
open Go.RowKit Go.Proofs.YtefgoffaidjiaaaW.PrintWords Go.Proofs.YtefgoffaidjiaaaW.PrintLast Go.Proofs.YtefgoffaidjiaaaW.PrintMore
set_option linter.unusedVariables false
set_option linter.unusedSimpArgs false
/-! ### shrink -/
structure ShP (l : List Int) (many : Int) (k : Nat) (s : List Int × Int) : Prop where
  m0 : 0 ≤ s.2
  m1 : s.2 ≤ many
  len : s.1.length = l.length
  sm : Small s.1
  sum : s.1.sum = l.sum - (many - s.2)
  le : ∀ i : Nat, i < l.length → rd s.1 (i : Int) ≤ rd l (i : Int)
  rest : ∀ i : Nat, i + k < l.length → rd s.1 (i : Int) = rd l (i : Int)
  zero : 0 < s.2 → ∀ i : Nat, l.length ≤ i + k → i < l.length → rd s.1 (i : Int) = 0
  last : ∀ i j : Nat, i < j → j < l.length → rd s.1 (i : Int) < rd l (i : Int) → rd s.1 (j : Int) = 0
theorem shr_spec {l : List Int} {many : Int} (hs : Small l) (h0 : 0 ≤ many) (h1 : many ≤ 1000000) : ∀ k : Nat, k ≤ l.length → ShP l many k (shr l many k) := by
  intro k
  induction k with
  | zero =>
    intro _
    exact ⟨h0, Int.le_refl _, rfl, hs, by show l.sum = l.sum - (many - many); omega, fun _ _ => Int.le_refl _, fun _ _ => rfl, fun _ i h1 h2 => by omega, fun i j _ _ h => by have : rd l (i : Int) < rd l (i : Int) := h; omega⟩
  | succ k ih =>
    intro hk
    have P := ih (by omega)
    obtain ⟨s, hsd⟩ : ∃ s, shr l many k = s := ⟨_, rfl⟩
    rw [hsd] at P
    obtain ⟨n, hn⟩ : ∃ n, rd l ((l.length : Int) - 1 - (k : Int)) = n := ⟨_, rfl⟩
    have eidx : ((l.length : Int) - 1 - (k : Int)) = ((l.length - 1 - k : Nat) : Int) := by omega
    have hnb := small_rd hs (i := (l.length : Int) - 1 - (k : Int)) (by omega) (by omega)
    rw [hn] at hnb
    have hm0 := P.m0
    have hm1 := P.m1
    obtain ⟨g, hg⟩ : ∃ g, mn n s.2 = g := ⟨_, rfl⟩
    have hg1 : g ≤ n ∧ g ≤ s.2 ∧ 0 ≤ g ∧ (g = n ∨ g = s.2) := by rw [← hg]; unfold mn; split <;> omega
    have e : shr l many (k + 1) = (s.1.set (l.length - 1 - k) (n - g), s.2 - g) := by
      show (_, _) = (_, _)
      rw [hsd, hn, hg, wr (n := n - g) (by omega) (by omega), wr (n := s.2 - g) (by omega) (by omega)]
    rw [e]
    have hidx : l.length - 1 - k < s.1.length := by rw [P.len]; omega
    have hcur : rd s.1 ((l.length - 1 - k : Nat) : Int) = n := by rw [P.rest _ (by omega), ← eidx, hn]
    have hne : ∀ i : Nat, i ≠ l.length - 1 - k → rd (s.1.set (l.length - 1 - k) (n - g)) (i : Int) = rd s.1 (i : Int) := fun i hi => rd_set_ne _ (by omega) (by omega)
    have heq : rd (s.1.set (l.length - 1 - k) (n - g)) ((l.length - 1 - k : Nat) : Int) = n - g := rd_set_eq _ hidx
    refine ⟨by show 0 ≤ s.2 - g; omega, by show s.2 - g ≤ many; omega, by show (s.1.set _ _).length = _; rw [List.length_set, P.len], small_set P.sm _ (by omega), ?_, ?_, ?_, ?_, ?_⟩
    · show (s.1.set _ _).sum = l.sum - (many - (s.2 - g))
      rw [sum_set _ _ _ hidx, hcur, P.sum]
      omega
    · intro i hi
      show rd (s.1.set _ _) _ ≤ _
      by_cases c : i = l.length - 1 - k
      · subst c
        rw [heq, ← eidx, hn]
        omega
      · rw [hne i c]; exact P.le i hi
    · intro i hi
      show rd (s.1.set _ _) _ = _
      rw [hne i (by omega)]
      exact P.rest i (by omega)
    · intro hp i h3 h4
      have hp' : 0 < s.2 - g := hp
      show rd (s.1.set _ _) _ = 0
      by_cases c : i = l.length - 1 - k
      · subst c
        rw [heq]
        omega
      · rw [hne i c]
        exact P.zero (by omega) i (by omega) h4
    · intro i j hij hj hlt
      show rd (s.1.set _ _) _ = 0
      have hlt' : rd (s.1.set (l.length - 1 - k) (n - g)) (i : Int) < rd l (i : Int) := hlt
      by_cases c : i = l.length - 1 - k
      · subst c
        rw [heq, ← eidx, hn] at hlt'
        rw [hne j (by omega)]
        exact P.zero (by omega) j (by omega) hj
      · rw [hne i c] at hlt'
        by_cases c2 : i < l.length - 1 - k
        · rw [P.rest i (by omega)] at hlt'
          omega
        · rw [hne j (by omega)]
          exact P.last i j hij hj hlt'
theorem sum_zero_of {l : List Int} (h : ∀ i : Nat, i < l.length → rd l (i : Int) = 0) : l.sum = 0 := by
  induction l with
  | nil => rfl
  | cons x l ih =>
    have h0 := h 0 (by simp)
    rw [rd_get (by simp)] at h0
    simp only [List.getElem_cons_zero] at h0
    rw [List.sum_cons, h0, ih (fun i hi => ?_)]
    · rfl
    · have := h (i + 1) (by simp; omega)
      rw [rd_get (by simp; omega)] at this
      simp only [List.getElem_cons_succ] at this
      rw [rd_get hi]
      exact this
/-! ### trim -/
theorem trimL_split : ∀ (n : Nat) (l : List Int), l.length = n → ∃ m, l = trimL l ++ List.replicate m 0 := by
  intro n
  induction n with
  | zero => intro l h; have := List.eq_nil_of_length_eq_zero h; subst this; exact ⟨0, rfl⟩
  | succ n ih =>
    intro l h
    have hs := snoc_at l (by omega)
    obtain ⟨m, hm⟩ := ih (l.take (l.length - 1)) (by rw [List.length_take]; omega)
    by_cases hx : rd l ((l.length : Int) - 1) = 0
    · refine ⟨m + 1, ?_⟩
      rw [← trimL_end0 l (by omega) hx, List.replicate_succ', ← List.append_assoc, ← hm, ← hx]
      exact hs
    · exact ⟨0, by rw [trimL_end l (by omega) hx]; simp⟩
theorem trimL_sum (l : List Int) : (trimL l).sum = l.sum := by
  obtain ⟨m, hm⟩ := trimL_split _ l rfl
  have h := congrArg List.sum hm
  rw [sum_app, sum_zeros] at h
  omega
theorem trimL_small {l : List Int} (h : Small l) : Small (trimL l) := by
  obtain ⟨m, hm⟩ := trimL_split _ l rfl
  rw [hm] at h
  exact (small_append.1 h).1
theorem trimL_zeros (l : List Int) (m : Nat) : trimL (l ++ List.replicate m 0) = trimL l := by
  induction m with
  | zero => simp
  | succ m ih => rw [List.replicate_succ', ← List.append_assoc, trimL_snoc0, ih]
theorem trimL_rd (l : List Int) {i : Nat} (h : i < (trimL l).length) : rd (trimL l) (i : Int) = rd l (i : Int) := by
  obtain ⟨m, hm⟩ := trimL_split _ l rfl
  have hl : l.length = (trimL l).length + m := by
    have := congrArg List.length hm
    rw [List.length_append, List.length_replicate] at this
    exact this
  rw [rd_get h, rd_get (by omega)]
  have h2 : (trimL l ++ List.replicate m 0)[i]'(by rw [List.length_append]; omega) = (trimL l)[i] := List.getElem_append_left h
  rw [← h2]
  congr 1
  exact hm.symm
theorem trimL_last : ∀ (n : Nat) (l : List Int), l.length = n → ∀ i : Nat, i + 1 = (trimL l).length → rd l (i : Int) ≠ 0 := by
  intro n
  induction n with
  | zero => intro l h i hi; have := List.eq_nil_of_length_eq_zero h; subst this; simp [trimL] at hi
  | succ n ih =>
    intro l h i hi
    by_cases hx : rd l ((l.length : Int) - 1) = 0
    · have e := trimL_end0 l (by omega) hx
      rw [← e] at hi
      have h2 := ih (l.take (l.length - 1)) (by rw [List.length_take]; omega) i hi
      have h3 := trimL_length (l.take (l.length - 1))
      rw [List.length_take] at h3
      rw [rd_get (by rw [List.length_take]; omega)] at h2
      rw [rd_get (by omega)]
      rw [List.getElem_take] at h2
      exact h2
    · rw [trimL_end l (by omega) hx] at hi
      rw [show ((i : Nat) : Int) = (l.length : Int) - 1 by omega]
      exact hx
/-- Behind the row that is left there is nothing. -/
theorem trimL_rest (l : List Int) {i : Nat} (h0 : (trimL l).length ≤ i) (h : i < l.length) : rd l (i : Int) = 0 := by
  obtain ⟨m, hm⟩ := trimL_split _ l rfl
  have h2 : (trimL l ++ List.replicate m 0)[i]'(by rw [← hm]; exact h) = 0 := by
    rw [List.getElem_append_right h0]
    exact List.getElem_replicate _
  rw [rd_get h, ← h2]
  congr 1
/-! ### grow -/
structure GrP (l : List Int) (d more : Int) (r : List Int) : Prop where
  sm : Small r
  sum : r.sum = l.sum + more
  len : r.length ≤ 8
theorem grow_spec {l : List Int} {d more : Int} (hs : Small l) (hl : l.length ≤ 8) (hd : 1 ≤ d) (hd8 : d ≤ 8) (hm : 0 ≤ more) (hsum : l.sum + more ≤ 1000) : GrP l d more (growL d more l) := by
  obtain ⟨l2, hl2⟩ : ∃ l2, (if d - (l.length : Int) > 0 then l ++ List.replicate (d - (l.length : Int)).toNat 0 else l) = l2 := ⟨_, rfl⟩
  have h2 : Small l2 ∧ l2.sum = l.sum ∧ l2.length ≤ 8 ∧ d ≤ (l2.length : Int) := by
    rw [← hl2]
    by_cases c : d - (l.length : Int) > 0
    · rw [if_pos c]
      exact ⟨small_append.2 ⟨hs, small_zeros _⟩, by rw [sum_app, sum_zeros]; omega, by rw [List.length_append, List.length_replicate]; omega, by rw [List.length_append, List.length_replicate]; omega⟩
    · rw [if_neg c]
      exact ⟨hs, rfl, hl, by omega⟩
  obtain ⟨a1, a2, a3, a4⟩ := h2
  have hb := small_rd a1 (i := d - 1) (by omega) (by omega)
  have hc := rd_le_sum a1 (i := d - 1) (by omega) (by omega)
  have e : growL d more l = l2.set (d - 1).toNat (rd l2 (d - 1) + more) := by
    unfold growL
    simp only
    rw [hl2, wr (by omega) (by omega)]
  rw [e]
  refine ⟨small_set a1 _ (by omega), ?_, by rw [List.length_set]; exact a3⟩
  rw [sum_set _ _ _ (by omega), show (((d - 1).toNat : Nat) : Int) = d - 1 by omega]
  omega
/-! ### what is left behind both -/
structure SzP (n : Int) (r : Int × List Int) : Prop where
  r0 : 0 ≤ r.1
  r1 : r.1 ≤ 1000
  len : r.2.length ≤ 8
  sm : Small r.2
  all : r.1 + r.2.sum = n
theorem sized_spec {R d n : Int} {l : List Int} (h0 : 0 ≤ R) (hs : Small l) (hl : l.length ≤ 8) (hd0 : 0 ≤ d) (hd8 : d ≤ 8) (ha : R + l.sum ≤ 1000) (hn0 : 0 ≤ n) (hn : n ≤ 1000) : SzP n (sizedL R d (n - (R + l.sum)) l) := by
  have hsn := sum_nonneg hs
  unfold sizedL
  by_cases c1 : 0 < n - (R + l.sum)
  · rw [if_pos c1]
    by_cases c2 : d = 0
    · rw [if_pos c2, wr (by omega) (by omega)]
      exact ⟨by show 0 ≤ R + (n - (R + l.sum)); omega, by show R + (n - (R + l.sum)) ≤ 1000; omega, hl, hs, by show R + (n - (R + l.sum)) + l.sum = n; omega⟩
    · rw [if_neg c2]
      have G := grow_spec (d := d) hs hl (by omega) hd8 (more := n - (R + l.sum)) (by omega) (by omega)
      exact ⟨h0, by show R ≤ 1000; omega, G.len, G.sm, by show R + (growL _ _ _).sum = n; rw [G.sum]; omega⟩
  · rw [if_neg c1]
    by_cases c2 : n - (R + l.sum) < 0
    · rw [if_pos c2, wr (n := -(n - (R + l.sum))) (by omega) (by omega)]
      have P := shr_spec hs (many := -(n - (R + l.sum))) (by omega) (by omega) l.length (Nat.le_refl _)
      generalize shr l (-(n - (R + l.sum))) l.length = s at P ⊢
      have hm0 := P.m0
      have hm1 := P.m1
      have hsum := P.sum
      have hsn2 := sum_nonneg P.sm
      have hz : 0 < s.2 → s.1.sum = 0 := fun hp => sum_zero_of (fun i hi => P.zero hp i (by omega) (by rw [← P.len]; exact hi))
      rw [wr (by omega) (by omega)]
      refine ⟨?_, by show R - s.2 ≤ 1000; omega, by show s.1.length ≤ 8; rw [P.len]; exact hl, P.sm, by show R - s.2 + s.1.sum = n; omega⟩
      show 0 ≤ R - s.2
      by_cases hp : 0 < s.2
      · have := hz hp; omega
      · omega
    · rw [if_neg c2]
      exact ⟨h0, by show R ≤ 1000; omega, hl, hs, by show R + l.sum = n; omega⟩
end Go.Proofs.Ytefgoffaidjiaaa.PAll
namespace Go.Proofs.Ytefgoffaidjiaaa.PAll
open Go.RowKit Go.Proofs.YtefgoffaidjiaaaW.PrintWords Go.Proofs.YtefgoffaidjiaaaW.PrintLast Go.Proofs.YtefgoffaidjiaaaW.PrintMore
attribute [local go_sem] max2_int min2_int max_two min_two max_three min_three max_four min_four   -- for this text's walks alone
set_option linter.unusedVariables false
set_option linter.unusedSimpArgs false

/-! ### limit_Into: function 52 -/
def limit_Into.f (a0_0 : Int) (a0_1 : Int) (a0_2 : Int) (a0_3 : Int) (a0_4 : Int) (a0_5 : Int) (a0_6 : Int) (a0_7 : Int) (a0_8 : Int) (a0_9 : Int) (a0_10 : Int) (a0_11 : Int) (a1_0 : Int) (a1_1 : Int) (a1_2 : Bool) : Option (Int × Int × Bool) := some (mx a0_0 (mn a1_0 a0_1), a1_1, a1_2)
set_option maxHeartbeats 8000000 in
set_option maxRecDepth 100000 in
theorem limit_Into.calls (a0_0 : Int) (a0_1 : Int) (a0_2 : Int) (a0_3 : Int) (a0_4 : Int) (a0_5 : Int) (a0_6 : Int) (a0_7 : Int) (a0_8 : Int) (a0_9 : Int) (a0_10 : Int) (a0_11 : Int) (a1_0 : Int) (a1_1 : Int) (a1_2 : Bool) (r1 : Int) (r2 : Int) (r3 : Bool) (w : World) (h : limit_Into.f a0_0 a0_1 a0_2 a0_3 a0_4 a0_5 a0_6 a0_7 a0_8 a0_9 a0_10 a0_11 a1_0 a1_1 a1_2 = some (r1, r2, r3)) :
    Calls Try.prog 52 #[.agg #[.int .i64 a0_0, .int .i64 a0_1, .int .i64 a0_2, .int .i64 a0_3, .int .i64 a0_4, .int .i64 a0_5, .int .i64 a0_6, .int .i64 a0_7, .int .i64 a0_8, .int .i64 a0_9, .int .i64 a0_10, .int .i64 a0_11], .agg #[.int .i64 a1_0, .int .i64 a1_1, .bool a1_2]] w fun e w' => e = .returned (.agg #[.int .i64 r1, .int .i64 r2, .bool r3]) ∧ Below w.heap.size w w' := by
  have hu23 := Try.underlying23
  have hu31 := Try.underlying31
  have HB := Aside0.mk (Below.refl w.heap.size w)
  have H : (some (mx a0_0 (mn a1_0 a0_1), a1_1, a1_2)) = some (r1, r2, r3) := h
  clear h
  obtain ⟨ji3, hji3⟩ : ∃ j_ : Int, (mn a1_0 a0_1) = j_ := ⟨_, rfl⟩
  replace H : (some (mx a0_0 (ji3), a1_1, a1_2)) = some (r1, r2, r3) := by first | (rw [hji3] at H; exact H) | (simp only [hji3] at H ⊢; exact H)
  have hji3_ : (if a0_1 < a1_0 then a0_1 else a1_0) = ji3 := hji3
  obtain ⟨ji4, hji4⟩ : ∃ j_ : Int, (mx a0_0 (ji3)) = j_ := ⟨_, rfl⟩
  replace H : (some (ji4, a1_1, a1_2)) = some (r1, r2, r3) := by first | (rw [hji4] at H; exact H) | (simp only [hji4] at H ⊢; exact H)
  have hji4_ : (if a0_0 < (ji3) then (ji3) else a0_0) = ji4 := hji4
  simp only [Option.some.injEq, Prod.mk.injEq] at H
  obtain ⟨rfl, rfl, rfl⟩ := H
  go_enter Try.func52, Try.ntmps52
  go_wp2_with (first | ((with_reducible refine gate_dst (N := 2) rfl ?_); refine box_event ?hg (N := 2) ?hd (cs := #[.int .i64 a0_0, .int .i64 a0_1, .int .i64 a0_2, .int .i64 a0_3, .int .i64 a0_4, .int .i64 a0_5, .int .i64 a0_6, .int .i64 a0_7, .int .i64 a0_8, .int .i64 a0_9, .int .i64 a0_10, .int .i64 a0_11]) (t := 23) ?hr ?_; (case hd => rfl); (case hg => rfl); (case hr => first | (go_simp; done) | (go_simp; rfl)); intro gb102 hg w5 hbox hb; have n0_ := Aside0.mk (below_step (by repeat (first | (with_reducible first | exact HB.out | apply below_alloc | apply pw_below_drewN | apply below_drew1) | exact HB.out)) hb); have n1_ := Aside0.mk (hbox); have n2_ := Aside0.mk ((by rw [hg]; exact (below_size (by repeat (first | (with_reducible first | exact HB.out | apply below_alloc | apply pw_below_drewN | apply below_drew1) | exact HB.out))) : w.heap.size ≤ gb102)); have n3_ := Aside0.mk ((by rw [hg]; exact (below_size (by repeat (first | (with_reducible first | exact HB.out | apply below_alloc | apply pw_below_drewN | apply below_drew1) | exact HB.out))) : w.heap.size ≤ gb102)); clear HB; have HB := n0_; have BK102 := n1_; have GW102 := n2_; have GE102 := n3_; clear n0_ n1_ n2_ n3_; clear hb hbox hg) | ((with_reducible refine gate_dst (N := 3) rfl ?_); refine box_event ?hg (N := 3) ?hd (cs := #[.int .i64 a1_0, .int .i64 a1_1, .bool a1_2]) (t := 31) ?hr ?_; (case hd => rfl); (case hg => rfl); (case hr => first | (go_simp; done) | (go_simp; rfl)); intro gb103 hg w6 hbox hb; have n0_ := Aside0.mk (blk_below (g := gb102) (o := .cells #[.int .i64 a0_0, .int .i64 a0_1, .int .i64 a0_2, .int .i64 a0_3, .int .i64 a0_4, .int .i64 a0_5, .int .i64 a0_6, .int .i64 a0_7, .int .i64 a0_8, .int .i64 a0_9, .int .i64 a0_10, .int .i64 a0_11] 23 (0, 0)) (by (with_reducible repeat (first | refine blk_drewN ?_ _ | refine blk_drew ?_ | refine blk_alloc ?_ _)); exact BK102.out) hb); have n1_ := Aside0.mk (below_step (by repeat (first | (with_reducible first | exact HB.out | apply below_alloc | apply pw_below_drewN | apply below_drew1 | refine below_set ?_ GE102.out) | exact HB.out)) hb); have n2_ := Aside0.mk (hbox); have n3_ := Aside0.mk ((by rw [hg]; exact (below_size (by repeat (first | (with_reducible first | exact HB.out | apply below_alloc | apply pw_below_drewN | apply below_drew1 | refine below_set ?_ GE102.out) | exact HB.out))) : w.heap.size ≤ gb103)); have n4_ := Aside0.mk ((by rw [hg]; exact (below_size (by repeat (first | (with_reducible first | exact HB.out | apply below_alloc | apply pw_below_drewN | apply below_drew1 | refine below_set ?_ GE102.out) | exact HB.out))) : w.heap.size ≤ gb103)); have n5_ := Aside0.mk ((by rw [hg]; exact Nat.ne_of_lt (blk_lt (g := gb102) (o := .cells #[.int .i64 a0_0, .int .i64 a0_1, .int .i64 a0_2, .int .i64 a0_3, .int .i64 a0_4, .int .i64 a0_5, .int .i64 a0_6, .int .i64 a0_7, .int .i64 a0_8, .int .i64 a0_9, .int .i64 a0_10, .int .i64 a0_11] 23 (0, 0)) (by (with_reducible repeat (first | refine blk_drewN ?_ _ | refine blk_drew ?_ | refine blk_alloc ?_ _)); exact BK102.out)) : gb102 ≠ gb103)); have n6_ := Aside0.mk ((by rw [hg]; exact Nat.ne_of_gt (blk_lt (g := gb102) (o := .cells #[.int .i64 a0_0, .int .i64 a0_1, .int .i64 a0_2, .int .i64 a0_3, .int .i64 a0_4, .int .i64 a0_5, .int .i64 a0_6, .int .i64 a0_7, .int .i64 a0_8, .int .i64 a0_9, .int .i64 a0_10, .int .i64 a0_11] 23 (0, 0)) (by (with_reducible repeat (first | refine blk_drewN ?_ _ | refine blk_drew ?_ | refine blk_alloc ?_ _)); exact BK102.out)) : gb103 ≠ gb102)); clear BK102; clear HB; have BK102 := n0_; have HB := n1_; have BK103 := n2_; have GW103 := n3_; have GE103 := n4_; have NB102_103 := n5_; have NB103_102 := n6_; clear n0_ n1_ n2_ n3_ n4_ n5_ n6_; clear hb hbox hg) | ((with_reducible refine gate_dst (N := 4) rfl ?_); refine box_event ?hg (N := 4) ?hd (cs := #[.int .i64 0, .int .i64 0, .bool false]) (t := 31) ?hr ?_; (case hd => rfl); (case hg => rfl); (case hr => first | (go_simp; done) | (go_simp; rfl)); intro gb104 hg w7 hbox hb; have n0_ := Aside0.mk (blk_below (g := gb102) (o := .cells #[.int .i64 a0_0, .int .i64 a0_1, .int .i64 a0_2, .int .i64 a0_3, .int .i64 a0_4, .int .i64 a0_5, .int .i64 a0_6, .int .i64 a0_7, .int .i64 a0_8, .int .i64 a0_9, .int .i64 a0_10, .int .i64 a0_11] 23 (0, 0)) (by (with_reducible repeat (first | refine blk_drewN ?_ _ | refine blk_drew ?_ | refine blk_alloc ?_ _)); exact BK102.out) hb); have n1_ := Aside0.mk (blk_below (g := gb103) (o := .cells #[.int .i64 a1_0, .int .i64 a1_1, .bool a1_2] 31 (0, 0)) (by (with_reducible repeat (first | refine blk_drewN ?_ _ | refine blk_drew ?_ | refine blk_alloc ?_ _)); exact BK103.out) hb); have n2_ := Aside0.mk (below_step (by repeat (first | (with_reducible first | exact HB.out | apply below_alloc | apply pw_below_drewN | apply below_drew1 | refine below_set ?_ GE102.out | refine below_set ?_ GE103.out) | exact HB.out)) hb); have n3_ := Aside0.mk (hbox); have n4_ := Aside0.mk ((by rw [hg]; exact (below_size (by repeat (first | (with_reducible first | exact HB.out | apply below_alloc | apply pw_below_drewN | apply below_drew1 | refine below_set ?_ GE102.out | refine below_set ?_ GE103.out) | exact HB.out))) : w.heap.size ≤ gb104)); have n5_ := Aside0.mk ((by rw [hg]; exact (below_size (by repeat (first | (with_reducible first | exact HB.out | apply below_alloc | apply pw_below_drewN | apply below_drew1 | refine below_set ?_ GE102.out | refine below_set ?_ GE103.out) | exact HB.out))) : w.heap.size ≤ gb104)); have n6_ := Aside0.mk ((by rw [hg]; exact Nat.ne_of_lt (blk_lt (g := gb102) (o := .cells #[.int .i64 a0_0, .int .i64 a0_1, .int .i64 a0_2, .int .i64 a0_3, .int .i64 a0_4, .int .i64 a0_5, .int .i64 a0_6, .int .i64 a0_7, .int .i64 a0_8, .int .i64 a0_9, .int .i64 a0_10, .int .i64 a0_11] 23 (0, 0)) (by (with_reducible repeat (first | refine blk_drewN ?_ _ | refine blk_drew ?_ | refine blk_alloc ?_ _)); exact BK102.out)) : gb102 ≠ gb104)); have n7_ := Aside0.mk ((by rw [hg]; exact Nat.ne_of_gt (blk_lt (g := gb102) (o := .cells #[.int .i64 a0_0, .int .i64 a0_1, .int .i64 a0_2, .int .i64 a0_3, .int .i64 a0_4, .int .i64 a0_5, .int .i64 a0_6, .int .i64 a0_7, .int .i64 a0_8, .int .i64 a0_9, .int .i64 a0_10, .int .i64 a0_11] 23 (0, 0)) (by (with_reducible repeat (first | refine blk_drewN ?_ _ | refine blk_drew ?_ | refine blk_alloc ?_ _)); exact BK102.out)) : gb104 ≠ gb102)); have n8_ := Aside0.mk ((by rw [hg]; exact Nat.ne_of_lt (blk_lt (g := gb103) (o := .cells #[.int .i64 a1_0, .int .i64 a1_1, .bool a1_2] 31 (0, 0)) (by (with_reducible repeat (first | refine blk_drewN ?_ _ | refine blk_drew ?_ | refine blk_alloc ?_ _)); exact BK103.out)) : gb103 ≠ gb104)); have n9_ := Aside0.mk ((by rw [hg]; exact Nat.ne_of_gt (blk_lt (g := gb103) (o := .cells #[.int .i64 a1_0, .int .i64 a1_1, .bool a1_2] 31 (0, 0)) (by (with_reducible repeat (first | refine blk_drewN ?_ _ | refine blk_drew ?_ | refine blk_alloc ?_ _)); exact BK103.out)) : gb104 ≠ gb103)); clear BK102; clear BK103; clear HB; have BK102 := n0_; have BK103 := n1_; have HB := n2_; have BK104 := n3_; have GW104 := n4_; have GE104 := n5_; have NB102_104 := n6_; have NB104_102 := n7_; have NB103_104 := n8_; have NB104_103 := n9_; clear n0_ n1_ n2_ n3_ n4_ n5_ n6_ n7_ n8_ n9_; clear hb hbox hg; have hnb8 := NB102_103.out; have hnc8 := NB103_102.out; have hnb9 := NB102_104.out; have hnc9 := NB104_102.out; have hcz10_0 : w7.cell? ⟨gb102, 0, none⟩ = some (.int .i64 a0_0) := (blk_cell BK102.out 0).trans rfl; have hcz10_1 : w7.cell? ⟨gb102, 1, none⟩ = some (.int .i64 a0_1) := (blk_cell BK102.out 1).trans rfl; have hcz10_2 : w7.cell? ⟨gb102, 2, none⟩ = some (.int .i64 a0_2) := (blk_cell BK102.out 2).trans rfl; have hcz10_3 : w7.cell? ⟨gb102, 3, none⟩ = some (.int .i64 a0_3) := (blk_cell BK102.out 3).trans rfl; have hcz10_4 : w7.cell? ⟨gb102, 4, none⟩ = some (.int .i64 a0_4) := (blk_cell BK102.out 4).trans rfl; have hcz10_5 : w7.cell? ⟨gb102, 5, none⟩ = some (.int .i64 a0_5) := (blk_cell BK102.out 5).trans rfl; have hcz10_6 : w7.cell? ⟨gb102, 6, none⟩ = some (.int .i64 a0_6) := (blk_cell BK102.out 6).trans rfl; have hcz10_7 : w7.cell? ⟨gb102, 7, none⟩ = some (.int .i64 a0_7) := (blk_cell BK102.out 7).trans rfl; have hcz10_8 : w7.cell? ⟨gb102, 8, none⟩ = some (.int .i64 a0_8) := (blk_cell BK102.out 8).trans rfl; have hcz10_9 : w7.cell? ⟨gb102, 9, none⟩ = some (.int .i64 a0_9) := (blk_cell BK102.out 9).trans rfl; have hcz10_10 : w7.cell? ⟨gb102, 10, none⟩ = some (.int .i64 a0_10) := (blk_cell BK102.out 10).trans rfl; have hcz10_11 : w7.cell? ⟨gb102, 11, none⟩ = some (.int .i64 a0_11) := (blk_cell BK102.out 11).trans rfl; have hfz10_0 := blk_frozen BK102.out 0; have hfz10_1 := blk_frozen BK102.out 1; have hfz10_2 := blk_frozen BK102.out 2; have hfz10_3 := blk_frozen BK102.out 3; have hfz10_4 := blk_frozen BK102.out 4; have hfz10_5 := blk_frozen BK102.out 5; have hfz10_6 := blk_frozen BK102.out 6; have hfz10_7 := blk_frozen BK102.out 7; have hfz10_8 := blk_frozen BK102.out 8; have hfz10_9 := blk_frozen BK102.out 9; have hfz10_10 := blk_frozen BK102.out 10; have hfz10_11 := blk_frozen BK102.out 11; have hnb11 := NB103_104.out; have hnc11 := NB104_103.out; have hcz12_0 : w7.cell? ⟨gb103, 0, none⟩ = some (.int .i64 a1_0) := (blk_cell BK103.out 0).trans rfl; have hcz12_1 : w7.cell? ⟨gb103, 1, none⟩ = some (.int .i64 a1_1) := (blk_cell BK103.out 1).trans rfl; have hcz12_2 : w7.cell? ⟨gb103, 2, none⟩ = some (.bool a1_2) := (blk_cell BK103.out 2).trans rfl; have hfz12_0 := blk_frozen BK103.out 0; have hfz12_1 := blk_frozen BK103.out 1; have hfz12_2 := blk_frozen BK103.out 2; have hcz13_0 : w7.cell? ⟨gb104, 0, none⟩ = some (.int .i64 0) := (blk_cell BK104.out 0).trans rfl; have hcz13_1 : w7.cell? ⟨gb104, 1, none⟩ = some (.int .i64 0) := (blk_cell BK104.out 1).trans rfl; have hcz13_2 : w7.cell? ⟨gb104, 2, none⟩ = some (.bool false) := (blk_cell BK104.out 2).trans rfl; have hfz13_0 := blk_frozen BK104.out 0; have hfz13_1 := blk_frozen BK104.out 1; have hfz13_2 := blk_frozen BK104.out 2))
  refine bodyPost_ret (results_cell_row rfl _ _ gb104 31 #[.int .i64 ji4, .int .i64 a1_1, .bool a1_2] (0, 0) _ rfl (by (with_reducible repeat (first | refine blk_drewN ?_ _ | refine blk_drew ?_ | refine blk_alloc ?_ _)); refine blk_put (cs := #[.int .i64 ji4, .int .i64 a1_1, .bool false]) ?_ 2 _ rfl; (with_reducible repeat (first | refine blk_drewN ?_ _ | refine blk_drew ?_ | refine blk_alloc ?_ _)); refine blk_put (cs := #[.int .i64 ji4, .int .i64 0, .bool false]) ?_ 1 _ rfl; (with_reducible repeat (first | refine blk_drewN ?_ _ | refine blk_drew ?_ | refine blk_alloc ?_ _)); refine blk_put (cs := #[.int .i64 0, .int .i64 0, .bool false]) ?_ 0 _ rfl; (with_reducible repeat (first | refine blk_drewN ?_ _ | refine blk_drew ?_ | refine blk_alloc ?_ _)); refine blk_far ?_ NB104_103.out _; (with_reducible repeat (first | refine blk_drewN ?_ _ | refine blk_drew ?_ | refine blk_alloc ?_ _)); exact BK104.out) Try.underlying31 rfl (by kernel_rfl)) rfl ?_
  exact ⟨by first | rfl | (simp [errW_none, errW_some] <;> rfl) | (simp only [← hji3, ← hji4]; first | rfl | (simp [errW_none, errW_some] <;> rfl)) | (simp [*, errW_none, errW_some] <;> rfl) | (have e_ : ji3 = ji4 := (by omega); subst e_; rfl), by repeat (first | (with_reducible first | exact HB.out | apply below_alloc | apply pw_below_drewN | apply below_drew1 | refine below_set ?_ GE102.out | refine below_set ?_ GE103.out | refine below_set ?_ GE104.out) | exact HB.out)⟩

end Go.Proofs.Ytefgoffaidjiaaa.PAll
namespace Go.Proofs.Ytefgoffaidjiaaa.PAll
open Go.RowKit Go.Proofs.YtefgoffaidjiaaaW.PrintWords Go.Proofs.YtefgoffaidjiaaaW.PrintLast Go.Proofs.YtefgoffaidjiaaaW.PrintMore
attribute [local go_sem] max2_int min2_int max_two min_two max_three min_three max_four min_four   -- for this text's walks alone
set_option linter.unusedVariables false
set_option linter.unusedSimpArgs false

/-! ### limit_within: function 60 -/
def limit_within.f (a0 : Int) (a1_0 : Int) (a1_1 : Int) (a1_2 : Int) (a1_3 : Int) : Option (Int) := some (mx a1_2 (mn (mx a1_0 (mn a0 a1_1)) a1_3))
def limStep (n a b c d : Int) (k : Int) : Int := if k = 0 then n else if k = 1 then mx a (mn n b) else mx c (mn (mx a (mn n b)) d)
set_option maxHeartbeats 2000000 in
set_option maxRecDepth 100000 in
theorem limit_within.calls (a0 : Int) (a1_0 : Int) (a1_1 : Int) (a1_2 : Int) (a1_3 : Int) (r : Int) (w : World) (h : limit_within.f a0 a1_0 a1_1 a1_2 a1_3 = some r) :
    Calls Try.prog 60 #[.int .i64 a0, .agg #[.int .i64 a1_0, .int .i64 a1_1, .int .i64 a1_2, .int .i64 a1_3]] w fun e w' => e = .returned (.int .i64 r) ∧ Below w.heap.size w w' := by
  have hu64 := Try.underlying98
  have hu63 := Try.underlying97
  have hx0 : ∀ W, (Instr.index 98 (.agg #[.int .i64 a1_0, .int .i64 a1_1, .int .i64 a1_2, .int .i64 a1_3]) (.int .i64 0)).run Try.prog W = .ok (.agg #[.int .i64 a1_0, .int .i64 a1_1]) W := fun W => by rfl
  have hx1 : ∀ W, (Instr.index 98 (.agg #[.int .i64 a1_0, .int .i64 a1_1, .int .i64 a1_2, .int .i64 a1_3]) (.int .i64 1)).run Try.prog W = .ok (.agg #[.int .i64 a1_2, .int .i64 a1_3]) W := fun W => by rfl
  obtain rfl := Option.some.inj h
  clear h
  go_enter Try.func60, Try.ntmps60
  go_wp2
  go_loopw [0, 8] (fun v i wr => ∃ (k x : Int), 0 ≤ k ∧ k ≤ 2 ∧ i = .int .i64 k ∧ v = .int .i64 x ∧ Aside0 (x = limStep a0 a1_0 a1_1 a1_2 a1_3 k) ∧ Below w.heap.size w wr) (fun _ i _ => (2 - intOf i).toNat)
  case atStart => exact ⟨0, a0, by omega, by omega, rfl, rfl, ⟨rfl⟩, (Below.refl _ w).alloc (Nat.le_refl _) _⟩
  case round =>
    obtain ⟨k, x, hk0, hk2, rfl, rfl, hx, hb⟩ := hrel
    have hbs := hb.size
    rcases (by omega : k = 0 ∨ k = 1 ∨ k = 2) with rfl | rfl | rfl
    · go_wp2
      go_roundw
      case rel => exact ⟨1, mx a1_0 (mn a0 a1_1), by omega, by omega, by first | rfl | simp, by first | rfl | (rw [hx.out]; rfl), ⟨rfl⟩, hb.alloc hbs _⟩
      case measure => simp [intOf]
    · go_wp2
      go_roundw
      case rel => exact ⟨2, mx a1_2 (mn (mx a1_0 (mn a0 a1_1)) a1_3), by omega, by omega, by first | rfl | simp, by first | rfl | (rw [hx.out]; rfl), ⟨rfl⟩, hb.alloc hbs _⟩
      case measure => simp [intOf]
    · go_wp2
      go_ret
      exact ⟨by rw [hx.out]; rfl, hb⟩

end Go.Proofs.Ytefgoffaidjiaaa.PAll
namespace Go.Proofs.Ytefgoffaidjiaaa.PAll
open Go.RowKit Go.Proofs.YtefgoffaidjiaaaW.PrintWords Go.Proofs.YtefgoffaidjiaaaW.PrintLast Go.Proofs.YtefgoffaidjiaaaW.PrintMore
attribute [local go_sem] max2_int min2_int max_two min_two max_three min_three max_four min_four   -- for this text's walks alone
set_option linter.unusedVariables false
set_option linter.unusedSimpArgs false

/-! ### limit_Next: function 48 -/
def limit_Next.f (a0_0 : Int) (a0_1 : Int) (a0_2 : Int) (a0_3 : Int) (a0_4 : Int) (a0_5 : Int) (a0_6 : Int) (a0_7 : Int) (a0_8 : Int) (a0_9 : Int) (a0_10 : Int) (a0_11 : Int) (a1_0 : Int) (a1_1 : Int) (a1_2 : Bool) (a2 : Int) (a3 : Int) : Option (Int × Int × Bool) := (limit_Into.f a0_0 a0_1 a0_2 a0_3 a0_4 a0_5 a0_6 a0_7 a0_8 a0_9 a0_10 a0_11 a1_0 a1_1 a1_2).bind fun bt125 => ((limit_within.f a2 (wrap64 (bt125.1 - a0_2)) (wrap64 (bt125.1 + a0_2)) a0_0 a0_1).bind fun t129 => (if t129 > bt125.1 then (some (t129, a3, true)) else (if bt125.2.2 = true then (if (wrap64 (a3 - bt125.2.1)) < a0_3 then (some (bt125.1, bt125.2.1, bt125.2.2)) else (some (t129, bt125.2.1, bt125.2.2))) else (some (t129, bt125.2.1, bt125.2.2)))))
/-- Three blocks ahead of another one. -/
structure Lim (w W : World) (G : Nat) (cc cg cz : Array Value) : Prop where
  hC : W.heap[w.heap.size]? = some (.cells cc 23 (0, 0))
  hZ : W.heap[w.heap.size + 1 + 1]? = some (.cells cz 31 (0, 0))
  hG : W.heap[G]? = some (.cells cg 31 (0, 0))
  lt : w.heap.size + 1 + 1 < G
  hB : Below w.heap.size w W
theorem Lim.below {w W W' : World} {G : Nat} {cc cg cz : Array Value} (h : Lim w W G cc cg cz) (hb : Below W.heap.size W W') : Lim w W' G cc cg cz := ⟨blk_below h.hC hb, blk_below h.hZ hb, blk_below h.hG hb, h.lt, below_step h.hB hb⟩
theorem Lim.putG {w W : World} {G : Nat} {cc cg cg' cz : Array Value} (h : Lim w W G cc cg cz) (j : Nat) (u : Value) (e : cg.setIfInBounds j u = cg') : Lim w (W.setCell ⟨G, j, none⟩ u) G cc cg' cz :=
  have hl := h.lt
  ⟨blk_far h.hC (by show w.heap.size ≠ G; omega) u, blk_far h.hZ (by show w.heap.size + 1 + 1 ≠ G; omega) u, blk_put h.hG j u e, h.lt, below_set h.hB (by show w.heap.size ≤ G; omega)⟩
theorem Lim.putZ {w W : World} {G : Nat} {cc cg cz cz' : Array Value} (h : Lim w W G cc cg cz) (j : Nat) (u : Value) (e : cz.setIfInBounds j u = cz') : Lim w (W.setCell ⟨w.heap.size + 1 + 1, j, none⟩ u) G cc cg cz' :=
  have hl := h.lt
  ⟨blk_far h.hC (by show w.heap.size ≠ w.heap.size + 1 + 1; omega) u, blk_put h.hZ j u e, blk_far h.hG (by show G ≠ w.heap.size + 1 + 1; omega) u, h.lt, below_set h.hB (by show w.heap.size ≤ w.heap.size + 1 + 1; omega)⟩
theorem lim_mk {w w1 : World} {cc ch cz cg : Array Value} (hb : Below (((w.alloc (.cells cc 23)).alloc (.cells ch 31)).alloc (.cells cz 31)).heap.size (((w.alloc (.cells cc 23)).alloc (.cells ch 31)).alloc (.cells cz 31)) w1) : Lim w (w1.alloc (.cells cg 31)) w1.heap.size cc cg cz := by
  have z := blk_new ((w.alloc (.cells cc 23)).alloc (.cells ch 31)) (.cells cz 31)
  rw [World.size_alloc, World.size_alloc] at z
  have hs := hb.size
  rw [World.size_alloc, World.size_alloc, World.size_alloc] at hs
  exact ⟨blk_alloc (blk_below (blk_alloc (blk_alloc (blk_new w _) _) _) hb) _, blk_alloc (blk_below z hb) _, blk_new w1 _, by omega, below_alloc (below_step (below_alloc (below_alloc (below_alloc (Below.refl _ _) _) _) _) hb) _⟩
set_option maxHeartbeats 8000000 in
set_option maxRecDepth 100000 in
theorem limit_Next.calls (a0_0 : Int) (a0_1 : Int) (a0_2 : Int) (a0_3 : Int) (a0_4 : Int) (a0_5 : Int) (a0_6 : Int) (a0_7 : Int) (a0_8 : Int) (a0_9 : Int) (a0_10 : Int) (a0_11 : Int) (a1_0 : Int) (a1_1 : Int) (a1_2 : Bool) (a2 : Int) (a3 : Int) (r1 : Int) (r2 : Int) (r3 : Bool) (w : World) (h : limit_Next.f a0_0 a0_1 a0_2 a0_3 a0_4 a0_5 a0_6 a0_7 a0_8 a0_9 a0_10 a0_11 a1_0 a1_1 a1_2 a2 a3 = some (r1, r2, r3)) :
    Calls Try.prog 48 #[.agg #[.int .i64 a0_0, .int .i64 a0_1, .int .i64 a0_2, .int .i64 a0_3, .int .i64 a0_4, .int .i64 a0_5, .int .i64 a0_6, .int .i64 a0_7, .int .i64 a0_8, .int .i64 a0_9, .int .i64 a0_10, .int .i64 a0_11], .agg #[.int .i64 a1_0, .int .i64 a1_1, .bool a1_2], .int .i64 a2, .int .i64 a3] w fun e w' => e = .returned (.agg #[.int .i64 r1, .int .i64 r2, .bool r3]) ∧ Below w.heap.size w w' := by
  have hu0 := Try.underlying23
  have hu1 := Try.underlying31
  unfold limit_Next.f at h
  obtain ⟨⟨g, la, gr⟩, hI, h⟩ := Option.bind_eq_some_iff.1 h
  obtain ⟨n, hN, h⟩ := Option.bind_eq_some_iff.1 h
  dsimp only at hN h
  have FI := Aside0.mk hI
  have FN := Aside0.mk hN
  have HH := Aside0.mk h
  clear h hI hN
  go_enter Try.func48, Try.ntmps48
  go_upto_region 1 with (fail)
  go_cut [9] (fun s wx => ∃ G : Nat, s = .pointer (some ⟨G, 0, none⟩) ∧ Lim w wx G #[.int .i64 a0_0, .int .i64 a0_1, .int .i64 a0_2, .int .i64 a0_3, .int .i64 a0_4, .int .i64 a0_5, .int .i64 a0_6, .int .i64 a0_7, .int .i64 a0_8, .int .i64 a0_9, .int .i64 a0_10, .int .i64 a0_11] #[.int .i64 g, .int .i64 la, .bool gr] #[.int .i64 0, .int .i64 0, .bool false])
  case first =>
    go_wp2_with (go_at_call 52; refine (limit_Into.calls _ _ _ _ _ _ _ _ _ _ _ _ _ _ _ _ _ _ _ FI.out).mono ?_; rintro e_ w1 ⟨rfl, hb⟩)
    go_meet
    exact ⟨w1.heap.size, rfl, lim_mk hb⟩
  case rest =>
    obtain ⟨G, rfl, hL⟩ := hcut
    have xc := blk_cell hL.hC
    have xg := blk_cell hL.hG
    have HL := Aside0.mk hL
    clear hL
    go_upto_region 3 with (go_at_call 60; refine (limit_within.calls _ _ _ _ _ _ _ FN.out).mono ?_; rintro e_ w2 ⟨rfl, hb⟩; replace HL := Aside0.mk (HL.out.below hb); clear hb xc xg)
    have xc := blk_cell HL.out.hC
    have xg := blk_cell HL.out.hG
    have xz := blk_cell HL.out.hZ
    have fg := blk_frozen HL.out.hG
    have fz := blk_frozen HL.out.hZ
    have hne : G ≠ w.heap.size + 1 + 1 := by have := HL.out.lt; omega
    have hne' : w.heap.size + 1 + 1 ≠ G := Ne.symm hne
    have h := HH.out
    clear HH FI FN
    try dsimp only at h
    by_cases c1 : n > g
    · rw [if_pos c1] at h
      simp only [Option.some.injEq, Prod.mk.injEq] at h
      obtain ⟨rfl, rfl, rfl⟩ := h
      have d1 := decide_eq_true c1
      clear c1
      (go_wp2; refine bodyPost_ret (results_cell_row rfl _ _ (w.heap.size + 1 + 1) 31 _ (0, 0) _ rfl (((HL.out.putZ (cz' := #[.int .i64 n, .int .i64 0, .bool false]) 0 _ rfl).putZ (cz' := #[.int .i64 n, .int .i64 a3, .bool false]) 1 _ rfl).putZ (cz' := #[.int .i64 n, .int .i64 a3, .bool true]) 2 _ rfl).hZ hu1 rfl (by kernel_rfl)) rfl ?_; exact ⟨rfl, (((HL.out.putZ (cz' := #[.int .i64 n, .int .i64 0, .bool false]) 0 _ rfl).putZ (cz' := #[.int .i64 n, .int .i64 a3, .bool false]) 1 _ rfl).putZ (cz' := #[.int .i64 n, .int .i64 a3, .bool true]) 2 _ rfl).hB⟩)
    · rw [if_neg c1] at h
      have d1 := decide_eq_false c1
      clear c1
      cases gr with
      | false =>
        rw [if_neg (by decide)] at h
        simp only [Option.some.injEq, Prod.mk.injEq] at h
        obtain ⟨rfl, rfl, rfl⟩ := h
        (go_wp2; refine bodyPost_ret (results_cell_row rfl _ _ (w.heap.size + 1 + 1) 31 _ (0, 0) _ rfl ((((HL.out.putG (cg' := #[.int .i64 n, .int .i64 la, .bool false]) 0 _ rfl).putZ (cz' := #[.int .i64 n, .int .i64 0, .bool false]) 0 _ rfl).putZ (cz' := #[.int .i64 n, .int .i64 la, .bool false]) 1 _ rfl).putZ (cz' := #[.int .i64 n, .int .i64 la, .bool false]) 2 _ rfl).hZ hu1 rfl (by kernel_rfl)) rfl ?_; exact ⟨rfl, ((((HL.out.putG (cg' := #[.int .i64 n, .int .i64 la, .bool false]) 0 _ rfl).putZ (cz' := #[.int .i64 n, .int .i64 0, .bool false]) 0 _ rfl).putZ (cz' := #[.int .i64 n, .int .i64 la, .bool false]) 1 _ rfl).putZ (cz' := #[.int .i64 n, .int .i64 la, .bool false]) 2 _ rfl).hB⟩)
      | true =>
        rw [if_pos rfl] at h
        by_cases c2 : wrap64 (a3 - la) < a0_3
        · rw [if_pos c2] at h
          simp only [Option.some.injEq, Prod.mk.injEq] at h
          obtain ⟨rfl, rfl, rfl⟩ := h
          (go_wp2; refine bodyPost_ret (results_cell_row rfl _ _ (w.heap.size + 1 + 1) 31 _ (0, 0) _ rfl (((HL.out.putZ (cz' := #[.int .i64 g, .int .i64 0, .bool false]) 0 _ rfl).putZ (cz' := #[.int .i64 g, .int .i64 la, .bool false]) 1 _ rfl).putZ (cz' := #[.int .i64 g, .int .i64 la, .bool true]) 2 _ rfl).hZ hu1 rfl (by kernel_rfl)) rfl ?_; exact ⟨rfl, (((HL.out.putZ (cz' := #[.int .i64 g, .int .i64 0, .bool false]) 0 _ rfl).putZ (cz' := #[.int .i64 g, .int .i64 la, .bool false]) 1 _ rfl).putZ (cz' := #[.int .i64 g, .int .i64 la, .bool true]) 2 _ rfl).hB⟩)
        · rw [if_neg c2] at h
          simp only [Option.some.injEq, Prod.mk.injEq] at h
          obtain ⟨rfl, rfl, rfl⟩ := h
          (go_wp2; refine bodyPost_ret (results_cell_row rfl _ _ (w.heap.size + 1 + 1) 31 _ (0, 0) _ rfl ((((HL.out.putG (cg' := #[.int .i64 n, .int .i64 la, .bool true]) 0 _ rfl).putZ (cz' := #[.int .i64 n, .int .i64 0, .bool false]) 0 _ rfl).putZ (cz' := #[.int .i64 n, .int .i64 la, .bool false]) 1 _ rfl).putZ (cz' := #[.int .i64 n, .int .i64 la, .bool true]) 2 _ rfl).hZ hu1 rfl (by kernel_rfl)) rfl ?_; exact ⟨rfl, ((((HL.out.putG (cg' := #[.int .i64 n, .int .i64 la, .bool true]) 0 _ rfl).putZ (cz' := #[.int .i64 n, .int .i64 0, .bool false]) 0 _ rfl).putZ (cz' := #[.int .i64 n, .int .i64 la, .bool false]) 1 _ rfl).putZ (cz' := #[.int .i64 n, .int .i64 la, .bool true]) 2 _ rfl).hB⟩)

end Go.Proofs.Ytefgoffaidjiaaa.PAll
namespace Go.Proofs.Ytefgoffaidjiaaa.PAll
open Go.RowKit Go.Proofs.YtefgoffaidjiaaaW.PrintWords Go.Proofs.YtefgoffaidjiaaaW.PrintLast Go.Proofs.YtefgoffaidjiaaaW.PrintMore
attribute [local go_sem] max2_int min2_int max_two min_two max_three min_three max_four min_four   -- for this text's walks alone
set_option linter.unusedVariables false
set_option linter.unusedSimpArgs false

/-! ### governorref15_Into: function 32 -/
def governorref15_Into.f (a0_0 : Int) (a0_1 : Int) (a0_2 : Int) (a0_3 : Int) (a0_4 : Int) (a0_5 : Int) (a0_6 : Int) (a0_7 : Int) (a0_8 : Int) (a0_9 : Int) (a0_10 : Int) (a0_11 : Int) (a1_0 : Int) (a1_1 : Int) (a1_2 : Bool) : Option (Int × Int × Bool) := some (mn (mx a1_0 a0_0) a0_1, a1_1, a1_2)
set_option maxHeartbeats 8000000 in
set_option maxRecDepth 100000 in
theorem governorref15_Into.calls (a0_0 : Int) (a0_1 : Int) (a0_2 : Int) (a0_3 : Int) (a0_4 : Int) (a0_5 : Int) (a0_6 : Int) (a0_7 : Int) (a0_8 : Int) (a0_9 : Int) (a0_10 : Int) (a0_11 : Int) (a1_0 : Int) (a1_1 : Int) (a1_2 : Bool) (r1 : Int) (r2 : Int) (r3 : Bool) (w : World) (h : governorref15_Into.f a0_0 a0_1 a0_2 a0_3 a0_4 a0_5 a0_6 a0_7 a0_8 a0_9 a0_10 a0_11 a1_0 a1_1 a1_2 = some (r1, r2, r3)) :
    Calls Try.prog 32 #[.agg #[.int .i64 a0_0, .int .i64 a0_1, .int .i64 a0_2, .int .i64 a0_3, .int .i64 a0_4, .int .i64 a0_5, .int .i64 a0_6, .int .i64 a0_7, .int .i64 a0_8, .int .i64 a0_9, .int .i64 a0_10, .int .i64 a0_11], .agg #[.int .i64 a1_0, .int .i64 a1_1, .bool a1_2]] w fun e w' => e = .returned (.agg #[.int .i64 r1, .int .i64 r2, .bool r3]) ∧ Below w.heap.size w w' := by
  have hu23 := Try.underlying23
  have hu31 := Try.underlying31
  have HB := Aside0.mk (Below.refl w.heap.size w)
  have H : (some (mn (mx a1_0 a0_0) a0_1, a1_1, a1_2)) = some (r1, r2, r3) := h
  clear h
  obtain ⟨ji3, hji3⟩ : ∃ j_ : Int, (mx a1_0 a0_0) = j_ := ⟨_, rfl⟩
  replace H : (some (mn (ji3) a0_1, a1_1, a1_2)) = some (r1, r2, r3) := by first | (rw [hji3] at H; exact H) | (simp only [hji3] at H ⊢; exact H)
  have hji3_ : (if a1_0 < a0_0 then a0_0 else a1_0) = ji3 := hji3
  obtain ⟨ji4, hji4⟩ : ∃ j_ : Int, (mn (ji3) a0_1) = j_ := ⟨_, rfl⟩
  replace H : (some (ji4, a1_1, a1_2)) = some (r1, r2, r3) := by first | (rw [hji4] at H; exact H) | (simp only [hji4] at H ⊢; exact H)
  have hji4_ : (if a0_1 < (ji3) then a0_1 else (ji3)) = ji4 := hji4
  simp only [Option.some.injEq, Prod.mk.injEq] at H
  obtain ⟨rfl, rfl, rfl⟩ := H
  go_enter Try.func32, Try.ntmps32
  go_wp2_with (first | ((with_reducible refine gate_dst (N := 2) rfl ?_); refine box_event ?hg (N := 2) ?hd (cs := #[.int .i64 a0_0, .int .i64 a0_1, .int .i64 a0_2, .int .i64 a0_3, .int .i64 a0_4, .int .i64 a0_5, .int .i64 a0_6, .int .i64 a0_7, .int .i64 a0_8, .int .i64 a0_9, .int .i64 a0_10, .int .i64 a0_11]) (t := 23) ?hr ?_; (case hd => rfl); (case hg => rfl); (case hr => first | (go_simp; done) | (go_simp; rfl)); intro gb184 hg w5 hbox hb; have n0_ := Aside0.mk (below_step (by repeat (first | (with_reducible first | exact HB.out | apply below_alloc | apply pw_below_drewN | apply below_drew1) | exact HB.out)) hb); have n1_ := Aside0.mk (hbox); have n2_ := Aside0.mk ((by rw [hg]; exact (below_size (by repeat (first | (with_reducible first | exact HB.out | apply below_alloc | apply pw_below_drewN | apply below_drew1) | exact HB.out))) : w.heap.size ≤ gb184)); have n3_ := Aside0.mk ((by rw [hg]; exact (below_size (by repeat (first | (with_reducible first | exact HB.out | apply below_alloc | apply pw_below_drewN | apply below_drew1) | exact HB.out))) : w.heap.size ≤ gb184)); clear HB; have HB := n0_; have BK184 := n1_; have GW184 := n2_; have GE184 := n3_; clear n0_ n1_ n2_ n3_; clear hb hbox hg) | ((with_reducible refine gate_dst (N := 3) rfl ?_); refine box_event ?hg (N := 3) ?hd (cs := #[.int .i64 a1_0, .int .i64 a1_1, .bool a1_2]) (t := 31) ?hr ?_; (case hd => rfl); (case hg => rfl); (case hr => first | (go_simp; done) | (go_simp; rfl)); intro gb185 hg w6 hbox hb; have n0_ := Aside0.mk (blk_below (g := gb184) (o := .cells #[.int .i64 a0_0, .int .i64 a0_1, .int .i64 a0_2, .int .i64 a0_3, .int .i64 a0_4, .int .i64 a0_5, .int .i64 a0_6, .int .i64 a0_7, .int .i64 a0_8, .int .i64 a0_9, .int .i64 a0_10, .int .i64 a0_11] 23 (0, 0)) (by (with_reducible repeat (first | refine blk_drewN ?_ _ | refine blk_drew ?_ | refine blk_alloc ?_ _)); exact BK184.out) hb); have n1_ := Aside0.mk (below_step (by repeat (first | (with_reducible first | exact HB.out | apply below_alloc | apply pw_below_drewN | apply below_drew1 | refine below_set ?_ GE184.out) | exact HB.out)) hb); have n2_ := Aside0.mk (hbox); have n3_ := Aside0.mk ((by rw [hg]; exact (below_size (by repeat (first | (with_reducible first | exact HB.out | apply below_alloc | apply pw_below_drewN | apply below_drew1 | refine below_set ?_ GE184.out) | exact HB.out))) : w.heap.size ≤ gb185)); have n4_ := Aside0.mk ((by rw [hg]; exact (below_size (by repeat (first | (with_reducible first | exact HB.out | apply below_alloc | apply pw_below_drewN | apply below_drew1 | refine below_set ?_ GE184.out) | exact HB.out))) : w.heap.size ≤ gb185)); have n5_ := Aside0.mk ((by rw [hg]; exact Nat.ne_of_lt (blk_lt (g := gb184) (o := .cells #[.int .i64 a0_0, .int .i64 a0_1, .int .i64 a0_2, .int .i64 a0_3, .int .i64 a0_4, .int .i64 a0_5, .int .i64 a0_6, .int .i64 a0_7, .int .i64 a0_8, .int .i64 a0_9, .int .i64 a0_10, .int .i64 a0_11] 23 (0, 0)) (by (with_reducible repeat (first | refine blk_drewN ?_ _ | refine blk_drew ?_ | refine blk_alloc ?_ _)); exact BK184.out)) : gb184 ≠ gb185)); have n6_ := Aside0.mk ((by rw [hg]; exact Nat.ne_of_gt (blk_lt (g := gb184) (o := .cells #[.int .i64 a0_0, .int .i64 a0_1, .int .i64 a0_2, .int .i64 a0_3, .int .i64 a0_4, .int .i64 a0_5, .int .i64 a0_6, .int .i64 a0_7, .int .i64 a0_8, .int .i64 a0_9, .int .i64 a0_10, .int .i64 a0_11] 23 (0, 0)) (by (with_reducible repeat (first | refine blk_drewN ?_ _ | refine blk_drew ?_ | refine blk_alloc ?_ _)); exact BK184.out)) : gb185 ≠ gb184)); clear BK184; clear HB; have BK184 := n0_; have HB := n1_; have BK185 := n2_; have GW185 := n3_; have GE185 := n4_; have NB184_185 := n5_; have NB185_184 := n6_; clear n0_ n1_ n2_ n3_ n4_ n5_ n6_; clear hb hbox hg) | ((with_reducible refine gate_dst (N := 4) rfl ?_); refine box_event ?hg (N := 4) ?hd (cs := #[.int .i64 0, .int .i64 0, .bool false]) (t := 31) ?hr ?_; (case hd => rfl); (case hg => rfl); (case hr => first | (go_simp; done) | (go_simp; rfl)); intro gb186 hg w7 hbox hb; have n0_ := Aside0.mk (blk_below (g := gb184) (o := .cells #[.int .i64 a0_0, .int .i64 a0_1, .int .i64 a0_2, .int .i64 a0_3, .int .i64 a0_4, .int .i64 a0_5, .int .i64 a0_6, .int .i64 a0_7, .int .i64 a0_8, .int .i64 a0_9, .int .i64 a0_10, .int .i64 a0_11] 23 (0, 0)) (by (with_reducible repeat (first | refine blk_drewN ?_ _ | refine blk_drew ?_ | refine blk_alloc ?_ _)); exact BK184.out) hb); have n1_ := Aside0.mk (blk_below (g := gb185) (o := .cells #[.int .i64 a1_0, .int .i64 a1_1, .bool a1_2] 31 (0, 0)) (by (with_reducible repeat (first | refine blk_drewN ?_ _ | refine blk_drew ?_ | refine blk_alloc ?_ _)); exact BK185.out) hb); have n2_ := Aside0.mk (below_step (by repeat (first | (with_reducible first | exact HB.out | apply below_alloc | apply pw_below_drewN | apply below_drew1 | refine below_set ?_ GE184.out | refine below_set ?_ GE185.out) | exact HB.out)) hb); have n3_ := Aside0.mk (hbox); have n4_ := Aside0.mk ((by rw [hg]; exact (below_size (by repeat (first | (with_reducible first | exact HB.out | apply below_alloc | apply pw_below_drewN | apply below_drew1 | refine below_set ?_ GE184.out | refine below_set ?_ GE185.out) | exact HB.out))) : w.heap.size ≤ gb186)); have n5_ := Aside0.mk ((by rw [hg]; exact (below_size (by repeat (first | (with_reducible first | exact HB.out | apply below_alloc | apply pw_below_drewN | apply below_drew1 | refine below_set ?_ GE184.out | refine below_set ?_ GE185.out) | exact HB.out))) : w.heap.size ≤ gb186)); have n6_ := Aside0.mk ((by rw [hg]; exact Nat.ne_of_lt (blk_lt (g := gb184) (o := .cells #[.int .i64 a0_0, .int .i64 a0_1, .int .i64 a0_2, .int .i64 a0_3, .int .i64 a0_4, .int .i64 a0_5, .int .i64 a0_6, .int .i64 a0_7, .int .i64 a0_8, .int .i64 a0_9, .int .i64 a0_10, .int .i64 a0_11] 23 (0, 0)) (by (with_reducible repeat (first | refine blk_drewN ?_ _ | refine blk_drew ?_ | refine blk_alloc ?_ _)); exact BK184.out)) : gb184 ≠ gb186)); have n7_ := Aside0.mk ((by rw [hg]; exact Nat.ne_of_gt (blk_lt (g := gb184) (o := .cells #[.int .i64 a0_0, .int .i64 a0_1, .int .i64 a0_2, .int .i64 a0_3, .int .i64 a0_4, .int .i64 a0_5, .int .i64 a0_6, .int .i64 a0_7, .int .i64 a0_8, .int .i64 a0_9, .int .i64 a0_10, .int .i64 a0_11] 23 (0, 0)) (by (with_reducible repeat (first | refine blk_drewN ?_ _ | refine blk_drew ?_ | refine blk_alloc ?_ _)); exact BK184.out)) : gb186 ≠ gb184)); have n8_ := Aside0.mk ((by rw [hg]; exact Nat.ne_of_lt (blk_lt (g := gb185) (o := .cells #[.int .i64 a1_0, .int .i64 a1_1, .bool a1_2] 31 (0, 0)) (by (with_reducible repeat (first | refine blk_drewN ?_ _ | refine blk_drew ?_ | refine blk_alloc ?_ _)); exact BK185.out)) : gb185 ≠ gb186)); have n9_ := Aside0.mk ((by rw [hg]; exact Nat.ne_of_gt (blk_lt (g := gb185) (o := .cells #[.int .i64 a1_0, .int .i64 a1_1, .bool a1_2] 31 (0, 0)) (by (with_reducible repeat (first | refine blk_drewN ?_ _ | refine blk_drew ?_ | refine blk_alloc ?_ _)); exact BK185.out)) : gb186 ≠ gb185)); clear BK184; clear BK185; clear HB; have BK184 := n0_; have BK185 := n1_; have HB := n2_; have BK186 := n3_; have GW186 := n4_; have GE186 := n5_; have NB184_186 := n6_; have NB186_184 := n7_; have NB185_186 := n8_; have NB186_185 := n9_; clear n0_ n1_ n2_ n3_ n4_ n5_ n6_ n7_ n8_ n9_; clear hb hbox hg; have hnb8 := NB185_184.out; have hnc8 := NB184_185.out; have hnb9 := NB185_186.out; have hnc9 := NB186_185.out; have hcz10_0 : w7.cell? ⟨gb185, 0, none⟩ = some (.int .i64 a1_0) := (blk_cell BK185.out 0).trans rfl; have hcz10_1 : w7.cell? ⟨gb185, 1, none⟩ = some (.int .i64 a1_1) := (blk_cell BK185.out 1).trans rfl; have hcz10_2 : w7.cell? ⟨gb185, 2, none⟩ = some (.bool a1_2) := (blk_cell BK185.out 2).trans rfl; have hfz10_0 := blk_frozen BK185.out 0; have hfz10_1 := blk_frozen BK185.out 1; have hfz10_2 := blk_frozen BK185.out 2; have hnb11 := NB184_186.out; have hnc11 := NB186_184.out; have hcz12_0 : w7.cell? ⟨gb184, 0, none⟩ = some (.int .i64 a0_0) := (blk_cell BK184.out 0).trans rfl; have hcz12_1 : w7.cell? ⟨gb184, 1, none⟩ = some (.int .i64 a0_1) := (blk_cell BK184.out 1).trans rfl; have hcz12_2 : w7.cell? ⟨gb184, 2, none⟩ = some (.int .i64 a0_2) := (blk_cell BK184.out 2).trans rfl; have hcz12_3 : w7.cell? ⟨gb184, 3, none⟩ = some (.int .i64 a0_3) := (blk_cell BK184.out 3).trans rfl; have hcz12_4 : w7.cell? ⟨gb184, 4, none⟩ = some (.int .i64 a0_4) := (blk_cell BK184.out 4).trans rfl; have hcz12_5 : w7.cell? ⟨gb184, 5, none⟩ = some (.int .i64 a0_5) := (blk_cell BK184.out 5).trans rfl; have hcz12_6 : w7.cell? ⟨gb184, 6, none⟩ = some (.int .i64 a0_6) := (blk_cell BK184.out 6).trans rfl; have hcz12_7 : w7.cell? ⟨gb184, 7, none⟩ = some (.int .i64 a0_7) := (blk_cell BK184.out 7).trans rfl; have hcz12_8 : w7.cell? ⟨gb184, 8, none⟩ = some (.int .i64 a0_8) := (blk_cell BK184.out 8).trans rfl; have hcz12_9 : w7.cell? ⟨gb184, 9, none⟩ = some (.int .i64 a0_9) := (blk_cell BK184.out 9).trans rfl; have hcz12_10 : w7.cell? ⟨gb184, 10, none⟩ = some (.int .i64 a0_10) := (blk_cell BK184.out 10).trans rfl; have hcz12_11 : w7.cell? ⟨gb184, 11, none⟩ = some (.int .i64 a0_11) := (blk_cell BK184.out 11).trans rfl; have hfz12_0 := blk_frozen BK184.out 0; have hfz12_1 := blk_frozen BK184.out 1; have hfz12_2 := blk_frozen BK184.out 2; have hfz12_3 := blk_frozen BK184.out 3; have hfz12_4 := blk_frozen BK184.out 4; have hfz12_5 := blk_frozen BK184.out 5; have hfz12_6 := blk_frozen BK184.out 6; have hfz12_7 := blk_frozen BK184.out 7; have hfz12_8 := blk_frozen BK184.out 8; have hfz12_9 := blk_frozen BK184.out 9; have hfz12_10 := blk_frozen BK184.out 10; have hfz12_11 := blk_frozen BK184.out 11; have hcz13_0 : w7.cell? ⟨gb186, 0, none⟩ = some (.int .i64 0) := (blk_cell BK186.out 0).trans rfl; have hcz13_1 : w7.cell? ⟨gb186, 1, none⟩ = some (.int .i64 0) := (blk_cell BK186.out 1).trans rfl; have hcz13_2 : w7.cell? ⟨gb186, 2, none⟩ = some (.bool false) := (blk_cell BK186.out 2).trans rfl; have hfz13_0 := blk_frozen BK186.out 0; have hfz13_1 := blk_frozen BK186.out 1; have hfz13_2 := blk_frozen BK186.out 2))
  refine bodyPost_ret (results_cell_row rfl _ _ gb186 31 #[.int .i64 ji4, .int .i64 a1_1, .bool a1_2] (0, 0) _ rfl (by (with_reducible repeat (first | refine blk_drewN ?_ _ | refine blk_drew ?_ | refine blk_alloc ?_ _)); refine blk_put (cs := #[.int .i64 ji4, .int .i64 a1_1, .bool false]) ?_ 2 _ rfl; (with_reducible repeat (first | refine blk_drewN ?_ _ | refine blk_drew ?_ | refine blk_alloc ?_ _)); refine blk_put (cs := #[.int .i64 ji4, .int .i64 0, .bool false]) ?_ 1 _ rfl; (with_reducible repeat (first | refine blk_drewN ?_ _ | refine blk_drew ?_ | refine blk_alloc ?_ _)); refine blk_put (cs := #[.int .i64 0, .int .i64 0, .bool false]) ?_ 0 _ rfl; (with_reducible repeat (first | refine blk_drewN ?_ _ | refine blk_drew ?_ | refine blk_alloc ?_ _)); refine blk_far ?_ NB186_185.out _; (with_reducible repeat (first | refine blk_drewN ?_ _ | refine blk_drew ?_ | refine blk_alloc ?_ _)); exact BK186.out) Try.underlying31 rfl (by kernel_rfl)) rfl ?_
  exact ⟨by first | rfl | (simp [errW_none, errW_some] <;> rfl) | (simp only [← hji3, ← hji4]; first | rfl | (simp [errW_none, errW_some] <;> rfl)) | (simp [*, errW_none, errW_some] <;> rfl) | (have e_ : ji3 = ji4 := (by omega); subst e_; rfl), by repeat (first | (with_reducible first | exact HB.out | apply below_alloc | apply pw_below_drewN | apply below_drew1 | refine below_set ?_ GE184.out | refine below_set ?_ GE185.out | refine below_set ?_ GE186.out) | exact HB.out)⟩

end Go.Proofs.Ytefgoffaidjiaaa.PAll
namespace Go.Proofs.Ytefgoffaidjiaaa.PAll
open Go.RowKit Go.Proofs.YtefgoffaidjiaaaW.PrintWords Go.Proofs.YtefgoffaidjiaaaW.PrintLast Go.Proofs.YtefgoffaidjiaaaW.PrintMore
attribute [local go_sem] max2_int min2_int max_two min_two max_three min_three max_four min_four   -- for this text's walks alone
set_option linter.unusedVariables false
set_option linter.unusedSimpArgs false

/-! ### governorref15_Next: function 34 -/
def r15 (g lo hi rate st last want now : Int) (grew : Bool) : Int × Int × Bool :=
  let n1 := if want < wrap64 (g - rate) then wrap64 (g - rate) else want
  let n2 := if n1 > wrap64 (g + rate) then wrap64 (g + rate) else n1
  let n3 := mn (mx n2 lo) hi
  let n4 := if n3 < g ∧ grew = true ∧ wrap64 (now - last) < st then g else n3
  if n4 > g then (n4, now, true) else (n4, last, grew)
def governorref15_Next.f (a0_0 : Int) (a0_1 : Int) (a0_2 : Int) (a0_3 : Int) (a0_4 : Int) (a0_5 : Int) (a0_6 : Int) (a0_7 : Int) (a0_8 : Int) (a0_9 : Int) (a0_10 : Int) (a0_11 : Int) (a1_0 : Int) (a1_1 : Int) (a1_2 : Bool) (a2 : Int) (a3 : Int) : Option (Int × Int × Bool) :=
  some (r15 (mn (mx a1_0 a0_0) a0_1) a0_0 a0_1 a0_2 a0_3 a1_1 a2 a3 a1_2)
theorem bcell {W w1 : World} (hb : Below W.heap.size W w1) : (∀ b o, b < W.heap.size → w1.cell? ⟨b, o, none⟩ = W.cell? ⟨b, o, none⟩) ∧ (∀ b o, b < W.heap.size → w1.frozen? ⟨b, o, none⟩ = W.frozen? ⟨b, o, none⟩) :=
  ⟨fun b o h => hb.cell (p := ⟨b, o, none⟩) h, fun b o h => hb.frozen (p := ⟨b, o, none⟩) h⟩
theorem put3_39 {W : World} {R : Nat} {u v x : Value} {T : Nat} (k : W.heap[R]? = some (.cells #[u, v, x] T (0, 0))) (a b c : Value) : (((W.setCell ⟨R, 0, none⟩ a).setCell ⟨R, 1, none⟩ b).setCell ⟨R, 2, none⟩ c).heap[R]? = some (.cells #[a, b, c] T (0, 0)) :=
  blk_put (blk_put (blk_put k 0 a rfl) 1 b rfl) 2 c rfl
set_option maxHeartbeats 40000000 in
set_option maxRecDepth 100000 in
theorem r15_walk (a0_0 : Int) (a0_1 : Int) (a0_2 : Int) (a0_3 : Int) (a0_4 : Int) (a0_5 : Int) (a0_6 : Int) (a0_7 : Int) (a0_8 : Int) (a0_9 : Int) (a0_10 : Int) (a0_11 : Int) (a1_0 : Int) (a1_1 : Int) (a1_2 : Bool) (a2 : Int) (a3 : Int) (g n1 n2 m n3 : Int) (r : Int × Int × Bool) (w : World) (hg : Aside0 (mn (mx a1_0 a0_0) a0_1 = g))
    (h1 : (a2 < wrap64 (g - a0_2) ∧ n1 = wrap64 (g - a0_2)) ∨ (¬ a2 < wrap64 (g - a0_2) ∧ n1 = a2)) (h2 : (n1 > wrap64 (g + a0_2) ∧ n2 = wrap64 (g + a0_2)) ∨ (¬ n1 > wrap64 (g + a0_2) ∧ n2 = n1)) (h3 : (if n2 < a0_0 then a0_0 else n2) = m) (h3' : (if a0_1 < m then a0_1 else m) = n3)
    (h4 : (n3 < g ∧ a1_2 = true ∧ wrap64 (a3 - a1_1) < a0_3 ∧ r = (g, a1_1, true)) ∨ (n3 < g ∧ a1_2 = true ∧ ¬ wrap64 (a3 - a1_1) < a0_3 ∧ r = (n3, a1_1, true)) ∨ (n3 < g ∧ a1_2 = false ∧ r = (n3, a1_1, false)) ∨ (¬ n3 < g ∧ n3 > g ∧ r = (n3, a3, true)) ∨ (¬ n3 < g ∧ ¬ n3 > g ∧ r = (n3, a1_1, a1_2))) :
    Calls Try.prog 34 #[.agg #[.int .i64 a0_0, .int .i64 a0_1, .int .i64 a0_2, .int .i64 a0_3, .int .i64 a0_4, .int .i64 a0_5, .int .i64 a0_6, .int .i64 a0_7, .int .i64 a0_8, .int .i64 a0_9, .int .i64 a0_10, .int .i64 a0_11], .agg #[.int .i64 a1_0, .int .i64 a1_1, .bool a1_2], .int .i64 a2, .int .i64 a3] w fun e w' => e = .returned (.agg #[.int .i64 r.1, .int .i64 r.2.1, .bool r.2.2]) ∧ Below w.heap.size w w' := by
  have hu37 := Try.underlying23
  have hu39 := Try.underlying31
  go_enter Try.func34, Try.ntmps34
  go_upto_region 1 with (fail)
  go_cut [9] (fun s wx => ∃ G : Nat, s = .pointer (some ⟨G, 0, none⟩) ∧ wx.heap[G]? = some (.cells #[.int .i64 g, .int .i64 a1_1, .bool a1_2] 31 (0, 0)) ∧ wx.heap[w.heap.size]? = some (.cells #[.int .i64 a0_0, .int .i64 a0_1, .int .i64 a0_2, .int .i64 a0_3, .int .i64 a0_4, .int .i64 a0_5, .int .i64 a0_6, .int .i64 a0_7, .int .i64 a0_8, .int .i64 a0_9, .int .i64 a0_10, .int .i64 a0_11] 23 (0, 0)) ∧ wx.heap[w.heap.size + 1 + 1]? = some (.cells #[.int .i64 0, .int .i64 0, .bool false] 31 (0, 0)) ∧ Below w.heap.size w wx ∧ w.heap.size + 1 + 1 < G)
  case first =>
    have hs3 : ∀ o1 o2 o3, (((w.alloc o1).alloc o2).alloc o3).heap.size = w.heap.size + 3 := fun _ _ _ => by simp
    go_wp2_with (go_at_call 32; refine (governorref15_Into.calls a0_0 a0_1 a0_2 a0_3 a0_4 a0_5 a0_6 a0_7 a0_8 a0_9 a0_10 a0_11 a1_0 a1_1 _ g a1_1 _ _ (by rw [← hg.out]; rfl)).mono ?_; rintro e w1 ⟨rfl, hb⟩)
    go_meet
    have hz : w.heap.size + 1 + 1 < w1.heap.size := by have := hb.size; rw [hs3] at this; omega
    have hb0 : Below w.heap.size w w1 := Below.trans ((((Below.refl _ w).alloc (Nat.le_refl _) _).alloc (by simp) _).alloc (by simp; omega) _) (hb.mono (by rw [hs3]; omega))
    refine ⟨w1.heap.size, rfl, blk_new w1 _, blk_alloc (blk_below (blk_alloc (blk_alloc (blk_new w _) _) _) hb) _, blk_alloc (blk_below ?_ hb) _, hb0.alloc hb0.size _, hz⟩
    have z := blk_new ((w.alloc (.cells #[.int .i64 a0_0, .int .i64 a0_1, .int .i64 a0_2, .int .i64 a0_3, .int .i64 a0_4, .int .i64 a0_5, .int .i64 a0_6, .int .i64 a0_7, .int .i64 a0_8, .int .i64 a0_9, .int .i64 a0_10, .int .i64 a0_11] 23)).alloc (.cells #[.int .i64 a1_0, .int .i64 a1_1, .bool a1_2] 31)) (.cells #[.int .i64 0, .int .i64 0, .bool false] 31)
    rw [World.size_alloc, World.size_alloc] at z
    exact z
  case rest =>
    obtain ⟨G, rfl, kG, kC, kR, hB, hGR⟩ := hcut
    have x0 := blk_cell kC 0
    have x1 := blk_cell kC 1
    have x2 := blk_cell kC 2
    have x3 := blk_cell kC 3
    have g0 := blk_cell kG 0
    have g1 := blk_cell kG 1
    have g2 := blk_cell kG 2
    have gf := blk_frozen kG 0
    have r0 := blk_cell kR 0
    have r1 := blk_cell kR 1
    have r2 := blk_cell kR 2
    have rf0 := blk_frozen kR 0
    have rf1 := blk_frozen kR 1
    have rf2 := blk_frozen kR 2
    simp only [List.getElem?_toArray, List.getElem?_cons_zero, List.getElem?_cons_succ] at x0 x1 x2 x3 g0 g1 g2 r0 r1 r2
    have HG := Aside0.mk kG
    have HR := Aside0.mk kR
    have HB := Aside0.mk hB
    have HGR := Aside0.mk hGR
    clear kG kC kR hB hGR hg
    have hne : w.heap.size + 1 + 1 ≠ G := by have := HGR.out; omega
    have hne' : G ≠ w.heap.size + 1 + 1 := Ne.symm hne
    rcases h1 with ⟨c1, e1⟩ | ⟨c1, e1⟩ <;> rcases h2 with ⟨c2, e2⟩ | ⟨c2, e2⟩ <;> subst n2 <;> subst n1
    all_goals
      rcases h4 with ⟨c3, rfl, c4, rfl⟩ | ⟨c3, rfl, c4, rfl⟩ | ⟨c3, rfl, rfl⟩ | ⟨c3, c4, rfl⟩ | ⟨c3, c4, rfl⟩
    all_goals
      go_wp2
      refine bodyPost_ret (results_cell_row rfl _ _ (w.heap.size + 1 + 1) 31 _ (0, 0) _ rfl (by first | (with_reducible exact put3_39 HR.out _ _ _) | (with_reducible exact put3_39 (blk_far HR.out hne _) _ _ _) | exact put3_39 (blk_far HR.out hne _) _ _ _) Try.underlying31 rfl (by kernel_rfl)) rfl ?_
      exact ⟨rfl, by repeat (first | exact HB.out | refine below_set ?_ (by have h_ := HGR.out; show w.heap.size ≤ w.heap.size + 1 + 1; omega) | refine below_set ?_ (by have h_ := HGR.out; show w.heap.size ≤ G; omega))⟩
theorem governorref15_Next.calls (a0_0 : Int) (a0_1 : Int) (a0_2 : Int) (a0_3 : Int) (a0_4 : Int) (a0_5 : Int) (a0_6 : Int) (a0_7 : Int) (a0_8 : Int) (a0_9 : Int) (a0_10 : Int) (a0_11 : Int) (a1_0 : Int) (a1_1 : Int) (a1_2 : Bool) (a2 : Int) (a3 : Int) (r1 : Int) (r2 : Int) (r3 : Bool) (w : World) (h : governorref15_Next.f a0_0 a0_1 a0_2 a0_3 a0_4 a0_5 a0_6 a0_7 a0_8 a0_9 a0_10 a0_11 a1_0 a1_1 a1_2 a2 a3 = some (r1, r2, r3)) :
    Calls Try.prog 34 #[.agg #[.int .i64 a0_0, .int .i64 a0_1, .int .i64 a0_2, .int .i64 a0_3, .int .i64 a0_4, .int .i64 a0_5, .int .i64 a0_6, .int .i64 a0_7, .int .i64 a0_8, .int .i64 a0_9, .int .i64 a0_10, .int .i64 a0_11], .agg #[.int .i64 a1_0, .int .i64 a1_1, .bool a1_2], .int .i64 a2, .int .i64 a3] w fun e w' => e = .returned (.agg #[.int .i64 r1, .int .i64 r2, .bool r3]) ∧ Below w.heap.size w w' := by
  have hr : r15 (mn (mx a1_0 a0_0) a0_1) a0_0 a0_1 a0_2 a0_3 a1_1 a2 a3 a1_2 = (r1, r2, r3) := Option.some.inj h
  clear h
  unfold r15 at hr
  generalize hg : mn (mx a1_0 a0_0) a0_1 = g at hr
  dsimp only at hr
  generalize e1 : (if a2 < wrap64 (g - a0_2) then wrap64 (g - a0_2) else a2) = n1 at hr
  generalize e2 : (if n1 > wrap64 (g + a0_2) then wrap64 (g + a0_2) else n1) = n2 at hr
  generalize e3 : mn (mx n2 a0_0) a0_1 = n3 at hr
  generalize e4 : (if n3 < g ∧ a1_2 = true ∧ wrap64 (a3 - a1_1) < a0_3 then g else n3) = n4 at hr
  refine r15_walk a0_0 a0_1 a0_2 a0_3 a0_4 a0_5 a0_6 a0_7 a0_8 a0_9 a0_10 a0_11 a1_0 a1_1 a1_2 a2 a3 g n1 n2 _ n3 (r1, r2, r3) w ⟨hg⟩ ?_ ?_ rfl e3 ?_
  · by_cases c : a2 < wrap64 (g - a0_2)
    · rw [if_pos c] at e1; exact .inl ⟨c, e1.symm⟩
    · rw [if_neg c] at e1; exact .inr ⟨c, e1.symm⟩
  · by_cases c : n1 > wrap64 (g + a0_2)
    · rw [if_pos c] at e2; exact .inl ⟨c, e2.symm⟩
    · rw [if_neg c] at e2; exact .inr ⟨c, e2.symm⟩
  · by_cases c1 : n3 < g
    · cases a1_2 with
      | false =>
        rw [if_neg (by simp)] at e4
        rw [if_neg (by omega)] at hr
        exact .inr (.inr (.inl ⟨c1, rfl, by rw [← hr, e4]⟩))
      | true =>
        by_cases c2 : wrap64 (a3 - a1_1) < a0_3
        · rw [if_pos ⟨c1, rfl, c2⟩] at e4
          rw [if_neg (by omega)] at hr
          exact .inl ⟨c1, rfl, c2, by rw [← hr, e4]⟩
        · rw [if_neg (fun h => c2 h.2.2)] at e4
          rw [if_neg (by omega)] at hr
          exact .inr (.inl ⟨c1, rfl, c2, by rw [← hr, e4]⟩)
    · rw [if_neg (fun h => c1 h.1)] at e4
      by_cases c2 : n3 > g
      · rw [if_pos (by omega)] at hr
        exact .inr (.inr (.inr (.inl ⟨c1, c2, by rw [← hr, e4]⟩)))
      · rw [if_neg (by omega)] at hr
        exact .inr (.inr (.inr (.inr ⟨c1, c2, by rw [← hr, e4]⟩)))

end Go.Proofs.Ytefgoffaidjiaaa.PAll
namespace Go.Proofs.Ytefgoffaidjiaaa.PAll
open Go.RowKit Go.Proofs.YtefgoffaidjiaaaW.PrintWords Go.Proofs.YtefgoffaidjiaaaW.PrintLast Go.Proofs.YtefgoffaidjiaaaW.PrintMore
set_option linter.unusedVariables false
set_option linter.unusedSimpArgs false
/-- What the guard says of the four numbers that matter here. -/
structure ConfP (lo hi rate st : Int) : Prop where
  l1 : 1 ≤ lo
  lh : lo ≤ hi
  h1 : hi ≤ 1000
  r1 : 1 ≤ rate
  r2 : rate ≤ 1000
  s0 : 0 ≤ st
  s1 : st ≤ 1099511627776
theorem conf_in {a0 a1 a2 a3 a4 a5 a6 a7 a8 a9 a10 a11 : Int} (h : (cfSize a0 a1 a2 && (cfPlant a3 a4 a5 a6 && cfJudge a7 a8 a9 a10 a11)) = true) : ConfP a0 a1 a2 a3 := by
  simp only [cfSize, cfPlant, wB, Bool.and_eq_true, decide_eq_true_eq] at h
  exact ⟨by omega, by omega, by omega, by omega, by omega, by omega, by omega⟩
/-- WHAT A TICK LEAVES. -/
def NextP (lo hi rate st cur last : Int) (grew : Bool) (want now : Int) (c l : Int) (gr : Bool) : Prop :=
  ∃ g n : Int, g = mx lo (mn cur hi) ∧ n = mx lo (mn (mx (g - rate) (mn want (g + rate))) hi) ∧
    ((n > g ∧ c = n ∧ l = now ∧ gr = true) ∨ (n ≤ g ∧ grew = true ∧ now - last < st ∧ c = g ∧ l = last ∧ gr = grew) ∨ (n ≤ g ∧ (grew = true → ¬ now - last < st) ∧ c = n ∧ l = last ∧ gr = grew))
theorem limit_next {a0 a1 a2 a3 a4 a5 a6 a7 a8 a9 a10 a11 cur last want now : Int} {grew : Bool} (C : ConfP a0 a1 a2 a3) (n0 : 0 ≤ now) (n1 : now ≤ 2199023255552) (l0 : 0 ≤ last) (l1 : last ≤ 2199023255552) :
    ∃ c l gr, limit_Next.f a0 a1 a2 a3 a4 a5 a6 a7 a8 a9 a10 a11 cur last grew want now = some (c, l, gr) ∧ NextP a0 a1 a2 a3 cur last grew want now c l gr := by
  obtain ⟨c1, c2, c3, c4, c5, c6, c7⟩ := C
  unfold limit_Next.f limit_Into.f limit_within.f
  simp only [Option.bind_some]
  obtain ⟨g, hg⟩ : ∃ g, mx a0 (mn cur a1) = g := ⟨_, rfl⟩
  have g0 : 1 ≤ g ∧ g ≤ 1000 := by rw [← hg]; unfold mx mn; omega
  rw [hg, wr (n := g - a2) (by omega) (by omega), wr (n := g + a2) (by omega) (by omega), wr (n := now - last) (by omega) (by omega)]
  obtain ⟨n, hn⟩ : ∃ n, mx a0 (mn (mx (g - a2) (mn want (g + a2))) a1) = n := ⟨_, rfl⟩
  rw [hn]
  by_cases h1 : n > g
  · exact ⟨n, now, true, by rw [if_pos h1], g, n, hg.symm, hn.symm, .inl ⟨h1, rfl, rfl, rfl⟩⟩
  · rw [if_neg h1]
    by_cases h2 : grew = true
    · rw [if_pos h2]
      by_cases h3 : now - last < a3
      · rw [if_pos h3]
        exact ⟨g, last, grew, rfl, g, n, hg.symm, hn.symm, .inr (.inl ⟨by omega, h2, h3, rfl, rfl, rfl⟩)⟩
      · rw [if_neg h3]
        exact ⟨n, last, grew, rfl, g, n, hg.symm, hn.symm, .inr (.inr ⟨by omega, fun _ => h3, rfl, rfl, rfl⟩)⟩
    · rw [if_neg h2]
      exact ⟨n, last, grew, rfl, g, n, hg.symm, hn.symm, .inr (.inr ⟨by omega, fun h => absurd h h2, rfl, rfl, rfl⟩)⟩
theorem ref_next {a0 a1 a2 a3 cur last want now c l : Int} {grew gr : Bool} (C : ConfP a0 a1 a2 a3) (n0 : 0 ≤ now) (n1 : now ≤ 2199023255552) (l0 : 0 ≤ last) (l1 : last ≤ 2199023255552) (h : NextP a0 a1 a2 a3 cur last grew want now c l gr) :
    r15 (mn (mx cur a0) a1) a0 a1 a2 a3 last want now grew = (c, l, gr) := by
  obtain ⟨c1, c2, c3, c4, c5, c6, c7⟩ := C
  obtain ⟨g, n, hg, hn, h⟩ := h
  have g0 : 1 ≤ g ∧ g ≤ 1000 := by rw [hg]; unfold mx mn; omega
  have e : mn (mx cur a0) a1 = g := by rw [hg]; unfold mx mn; omega
  unfold r15
  rw [e, wr (n := g - a2) (by omega) (by omega), wr (n := g + a2) (by omega) (by omega), wr (n := now - last) (by omega) (by omega)]
  dsimp only
  obtain ⟨m1, hm1⟩ : ∃ m1, (if want < g - a2 then g - a2 else want) = m1 := ⟨_, rfl⟩
  rw [hm1]
  obtain ⟨m2, hm2⟩ : ∃ m2, (if m1 > g + a2 then g + a2 else m1) = m2 := ⟨_, rfl⟩
  rw [hm2]
  have e2 : mn (mx m2 a0) a1 = n := by rw [hn, ← hm2, ← hm1]; unfold mx mn; omega
  rw [e2]
  clear hm1 hm2 e2 hg hn e
  obtain ⟨n4, hn4⟩ : ∃ n4, (if n < g ∧ grew = true ∧ now - last < a3 then g else n) = n4 := ⟨_, rfl⟩
  rw [hn4]
  rcases h with ⟨k1, rfl, rfl, rfl⟩ | ⟨k1, k2, k3, rfl, rfl, rfl⟩ | ⟨k1, k2, rfl, rfl, rfl⟩
  · rw [if_neg (fun h => by omega)] at hn4
    rw [if_pos (by omega), hn4]
  · by_cases k : n < c
    · rw [if_pos ⟨k, k2, k3⟩] at hn4
      rw [if_neg (by omega), hn4]
    · rw [if_neg (fun h => k h.1)] at hn4
      rw [if_neg (by omega), show n4 = c by omega]
  · rw [if_neg (fun h => k2 h.2.1 h.2.2)] at hn4
    rw [if_neg (by omega), hn4]
end Go.Proofs.Ytefgoffaidjiaaa.PAll
namespace Go.Proofs.Ytefgoffaidjiaaa.PAll
open Go.RowKit Go.Proofs.YtefgoffaidjiaaaW.PrintWords Go.Proofs.YtefgoffaidjiaaaW.PrintLast Go.Proofs.YtefgoffaidjiaaaW.PrintMore
set_option linter.unusedVariables false
set_option linter.unusedSimpArgs false
/-! ### a step of a plant that may be -/
structure CfP (delay cap slack : Int) : Prop where
  d0 : 0 ≤ delay
  d8 : delay ≤ 8
  c1 : 1 ≤ cap
  c6 : cap ≤ 1000000
  s0 : 0 ≤ slack
  s9 : slack ≤ 1000000000
theorem conf_pl {a0 a1 a2 a3 a4 a5 a6 a7 a8 a9 a10 a11 : Int} (h : (cfSize a0 a1 a2 && (cfPlant a3 a4 a5 a6 && cfJudge a7 a8 a9 a10 a11)) = true) : CfP a5 a4 a6 := by
  simp only [cfSize, cfPlant, wB, Bool.and_eq_true, decide_eq_true_eq] at h
  obtain ⟨_, ⟨_, ⟨h1, h2⟩, h3, h4, h5, h6⟩, _⟩ := h
  exact ⟨h3, h4, h1, h2, h5, h6⟩
theorem tick_spec {R wt ut : Int} {l : List Int} (P : PR R l wt ut) : 0 ≤ readyL R l ∧ Small (l.drop 1) ∧ (l.drop 1).length ≤ 8 ∧ readyL R l + (l.drop 1).sum = R + l.sum ∧ readyL R l = (match l with | [] => R | x :: _ => R + x) := by
  have h0 := P.r0
  have h1 := P.r1
  have hl := P.len
  refine ⟨?_, small_drop P.sm 1, by rw [List.length_drop]; omega, ?_, ?_⟩
  all_goals
    cases l with
    | nil =>
      have e : readyL R [] = R := by simp [readyL]
      rw [e]
      all_goals first | exact h0 | rfl
    | cons x l =>
      have hx := (small_cons.1 P.sm).1
      have e : readyL R (x :: l) = R + x := by
        unfold readyL
        rw [if_pos (by simp), show rd (x :: l) 0 = x from rfl, wr (by omega) (by omega)]
      rw [e]
      all_goals first | omega | (rw [List.sum_cons]; simp only [List.drop_succ_cons, List.drop_zero]; omega) | rfl
def nW (want : Int) : Int := mx 0 (mn want 1000)
theorem nW_in (want : Int) : 0 ≤ nW want ∧ nW want ≤ 1000 := by unfold nW mx mn; omega
def demI (x : Int) : Int := mx 0 (mn x 1000000)
theorem demI_in (x : Int) : 0 ≤ demI x ∧ demI x ≤ 1000000 := by unfold demI mx mn; omega
def todoI (wt dem : Int) : Int := mn (wt + demI dem) 1000000000
theorem todo_eq {wt : Int} (h0 : 0 ≤ wt) (h1 : wt ≤ 1000000000) (dem : Int) : satI (satI wt + satI (demI dem)) = todoI wt dem := by
  have := demI_in dem
  rw [satI_in (n := wt) (by omega) (by omega), satI_in (n := demI dem) (by omega) (by omega)]
  unfold satI todoI mx mn
  (repeat' split) <;> omega
theorem todo_in {wt : Int} (h0 : 0 ≤ wt) (dem : Int) : 0 ≤ todoI wt dem ∧ todoI wt dem ≤ 1000000000 := by
  have := demI_in dem
  unfold todoI mn
  split <;> omega
/-- What a step leaves: ready and begun (s), what waits, how full it was. -/
def stS (R : Int) (l : List Int) (delay want : Int) : Int × List Int := sizedL (readyL R l) delay (nW want - (R + l.sum)) (l.drop 1)
def canI (R : Int) (l : List Int) (delay want cap : Int) : Int := (stS R l delay want).1 * cap
def waitI (R : Int) (l : List Int) (delay want cap wt dem : Int) : Int := mx 0 (todoI wt dem - canI R l delay want cap)
def utilI (R : Int) (l : List Int) (delay want cap wt dem : Int) : Int := satI (divI (todoI wt dem) (canI R l delay want cap))
theorem stS_spec {R wt ut delay cap slack : Int} {l : List Int} (P : PR R l wt ut) (C : CfP delay cap slack) (want : Int) : SzP (nW want) (stS R l delay want) := by
  obtain ⟨a1, a2, a3, a4, _⟩ := tick_spec P
  have hn := nW_in want
  have h := P.all
  have hs := sized_spec (n := nW want) a1 a2 a3 C.d0 C.d8 (by omega) hn.1 hn.2
  unfold stS
  rw [a4] at hs
  exact hs
theorem can_in {R wt ut delay cap slack : Int} {l : List Int} (P : PR R l wt ut) (C : CfP delay cap slack) (want : Int) : 0 ≤ canI R l delay want cap ∧ canI R l delay want cap ≤ 1000000000 := by
  have S := stS_spec P C want
  have h1 := S.r0
  have h2 := S.r1
  have c1 := C.c1
  have c2 := C.c6
  unfold canI
  refine ⟨Int.mul_nonneg h1 (by omega), ?_⟩
  have a := Int.mul_le_mul h2 c2 (by omega) (by omega : (0 : Int) ≤ 1000)
  omega
theorem step_eq {R wt ut delay cap slack : Int} {l : List Int} (P : PR R l wt ut) (C : CfP delay cap slack) (want dem c0 c1 c2 c3 c7 c8 c9 c10 c11 : Int) :
    plant_Step.f c0 c1 c2 c3 cap delay slack c7 c8 c9 c10 c11 R l wt ut want dem = some ((stS R l delay want).1, trimL (stS R l delay want).2, waitI R l delay want cap wt dem, utilI R l delay want cap wt dem, nW want, decide (slack < waitI R l delay want cap wt dem)) := by
  obtain ⟨a1, a2, a3, a4, _⟩ := tick_spec P
  have hn := nW_in want
  have hall := P.all
  have hlen := P.len
  have S := stS_spec P C want
  have K := can_in P C want
  have T := todo_in P.w0 dem
  have hsn := sum_nonneg a2
  unfold plant_Step.f
  rw [if_pos ⟨P.len, C.d0, C.d8⟩]
  have em : moreL (readyL R l) want (l.drop 1) = nW want - (R + l.sum) := by
    unfold moreL
    rw [allL_eq a2 a1 (by omega) (by omega), a4, show mx 0 (mn want 1000) = nW want from rfl, wr (by omega) (by omega)]
  simp only [em]
  rw [show sizedL (readyL R l) delay (nW want - (R + l.sum)) (l.drop 1) = stS R l delay want from rfl]
  have e1 : fixed_Add.f wt (mx 0 (mn dem 1000000)) = some (todoI wt dem) := by
    show some (satI (satI wt + satI (demI dem))) = _
    rw [todo_eq P.w0 P.w1]
  have e2 : fixed_Sat.f (wrap64 ((stS R l delay want).1 * cap)) = some (canI R l delay want cap) := by
    show some (satI (wrap64 (canI R l delay want cap))) = _
    rw [wr (by omega) (by omega), satI_in (by omega) (by omega)]
  have e3 : fixed_Div.f (todoI wt dem) (canI R l delay want cap) = some (utilI R l delay want cap wt dem) := by
    show some (satI (divI (satI _) (satI _))) = _
    rw [satI_in (n := todoI wt dem) (by omega) (by omega), satI_in (n := canI R l delay want cap) (by omega) (by omega)]
    rfl
  rw [e1]
  simp only [Option.bind_some]
  rw [e2]
  simp only [Option.bind_some]
  rw [e3]
  simp only [Option.bind_some]
  rw [wr (n := todoI wt dem - canI R l delay want cap) (by omega) (by omega), allL_eq (trimL_small S.sm) S.r0 (by have := S.r1; omega) (by have := trimL_length (stS R l delay want).2; have := S.len; omega), trimL_sum, S.all]
  rfl
theorem util_in (a b : Int) (ha : 0 ≤ a) (hb : 0 ≤ b) : 0 ≤ satI (divI a b) ∧ satI (divI a b) ≤ 1000000000 := by
  have h1 := satI_hi (divI a b)
  refine ⟨?_, h1⟩
  have h : 0 ≤ divI a b := by
    unfold divI
    by_cases c : b = 0
    · rw [if_pos c]
      by_cases c2 : a = 0
      · rw [if_pos c2]; omega
      · rw [if_neg c2]; omega
    · rw [if_neg c, tdiv_pos (by omega)]
      exact Int.ediv_nonneg (by omega) hb
  unfold satI mx mn
  (repeat' split) <;> omega
/-- The plant may be, behind a step. -/
theorem step_right {R wt ut delay cap slack : Int} {l : List Int} (P : PR R l wt ut) (C : CfP delay cap slack) (want dem : Int) :
    PR (stS R l delay want).1 (trimL (stS R l delay want).2) (waitI R l delay want cap wt dem) (utilI R l delay want cap wt dem) := by
  have S := stS_spec P C want
  have K := can_in P C want
  have T := todo_in P.w0 dem
  have hn := nW_in want
  have hl := trimL_length (stS R l delay want).2
  have hlen := S.len
  have hall := S.all
  have U := util_in (todoI wt dem) (canI R l delay want cap) T.1 K.1
  refine ⟨S.r0, S.r1, by omega, trimL_small S.sm, ?_, ?_, U.1, U.2, by rw [trimL_sum]; omega⟩
  · unfold waitI mx; split <;> omega
  · unfold waitI mx; split <;> omega
end Go.Proofs.Ytefgoffaidjiaaa.PAll
namespace Go.Proofs.Ytefgoffaidjiaaa.PAll
open Go.RowKit Go.Proofs.YtefgoffaidjiaaaW.PrintWords Go.Proofs.YtefgoffaidjiaaaW.PrintLast Go.Proofs.YtefgoffaidjiaaaW.PrintMore
attribute [local go_sem] max2_int min2_int max_two min_two max_three min_three max_four min_four   -- for this text's walks alone
set_option linter.unusedVariables false
set_option linter.unusedSimpArgs false

/-! ### api_Mark: function 42 -/
def api_Mark.f (l0 : List (S52)) : Option (List (S52)) := if l0.length < 8796093022208 then some l0 else none
theorem cloneNilMark (n c : Nat) (W : World) : (binOp BinOp.eql 35 (.slice none n c) (.slice none 0 0)).run Try.prog W = .ok (.bool true) W := by kernel_rfl
theorem cloneSomeMark (ad : Addr) (n c : Nat) (W : World) : (binOp BinOp.eql 35 (.slice (some ad) n c) (.slice none 0 0)).run Try.prog W = .ok (.bool false) W := by kernel_rfl
set_option maxHeartbeats 4000000 in
set_option maxRecDepth 100000 in
theorem api_Mark.calls (A0 : Option Addr) (c0 : Nat) (l0 : List (S52)) (r : List (S52)) (w : World) (hr0 : Kd.C k52 w A0 l0.length l0) (hc0 : l0.length ≤ c0) (h : api_Mark.f l0 = some r) :
    Calls Try.prog 42 #[.slice A0 l0.length c0] w fun e w' => ∃ v0_ : Value, e = .returned v0_ ∧ Kd.R k52 52 w' w.heap.size (fun _ => True) v0_ r ∧ Below w.heap.size w w' := by
  unfold api_Mark.f at h
  by_cases c5 : l0.length < 8796093022208
  · rw [if_pos c5] at h
    obtain rfl := Option.some.inj h
    clear h
    have LMc5 := Aside0.mk c5
    have HR0 := Aside0.mk hr0
    have HB := Aside0.mk (Below.refl w.heap.size w)
    clear c5
    cases A0 with
    | none =>
      have e1 := cloneNilMark l0.length c0
      go_enter Try.func42, Try.ntmps42
      go_wp2
      go_ret
      have hz : l0 = [] := by
        cases l0 with
        | nil => rfl
        | cons x xs =>
          obtain ⟨_, _, h3⟩ := HR0.out
          obtain ⟨ad, hn, _⟩ := h3 (by simp)
          cases hn
      subst hz
      exact ⟨_, rfl, Kd.R_nil _ _ _ _ _, HB.out⟩
    | some ad =>
      have e1 := cloneSomeMark ad l0.length c0
      obtain ⟨y1, hy1⟩ : ∃ y_ : List (S52), y_ = ([] : List (S52)) := ⟨_, rfl⟩
      have Ny := Aside0.mk hy1
      clear hy1 hr0
      go_enter Try.func42, Try.ntmps42
      go_wp2_with (first
        | ((with_reducible refine gate_dst (N := 5) rfl ?_); refine Kd.R_lit k52 _ 52 ?hg (N := 5) ?hd (xs := ([] : List (S52))) (inner := []) (ok := fun _ => True) (okp := fun _ => True) ?hr ?hp (fun _ hk => hk) trivial (Below.refl _ _) (Nat.le_refl _) (by simp) ?_; (case hd => rfl); (case hg => rfl); (case hr => first | (go_simp; done) | (go_simp; rfl)); (case hp => exact (Reps.none _ _)); intro v142 w12 ho13 hb hg_ hnew_; clear hg_ hnew_; rw [← Ny.out] at ho13; have HO := Aside0.mk ho13; have HB1 := Aside0.mk hb; clear ho13 hb)
        | ((with_reducible refine gate_builtin (b := .append) (xs := #[.tmp 5, .tmp 6]) rfl ?_); at_builtin; refine Kd.R_append_rows k52 (w0 := w) w.heap.size rfl (.tmp 5) (.tmp 6) 35 52 (.agg #[(.int .i64 0), (.bool false)]) 16 rfl Try.underlying35 info52 rfl (by decide) (by omega) v142 y1 l0 _ _ _ (fun _ => True) (fun _ => False) rfl rfl ?aO ?aR (fun _ _ h => h) (fun _ h => h.elim) ?aF ?aB ?aS ?aL ?_; (case aR => exact Kd.C_below HR0.out HB1.out); (case aB => exact HB1.out); (case aF => exact (fun _ _ => trivial)); (case aO => exact HO.out); (case aS => exact below_size HB1.out); (case aL => have := LMc5.out; rw [Ny.out]; simp; omega); intro v145 w15 ho hb hg hat; rw [Ny.out] at ho; have HO2 := Aside0.mk ho; have HB2 := Aside0.mk hb; clear ho hb hg hat))
      go_ret
      exact ⟨_, rfl, HO2.out, HB2.out⟩
  · rw [if_neg c5] at h
    cases h

end Go.Proofs.Ytefgoffaidjiaaa.PAll
namespace Go.Proofs.Ytefgoffaidjiaaa.PAll
open Go.RowKit Go.Proofs.YtefgoffaidjiaaaW.PrintWords Go.Proofs.YtefgoffaidjiaaaW.PrintLast Go.Proofs.YtefgoffaidjiaaaW.PrintMore
attribute [local go_sem] max2_int min2_int max_two min_two max_three min_three max_four min_four   -- for this text's walks alone
set_option linter.unusedVariables false
set_option linter.unusedSimpArgs false

/-! ### score_Add: function 50 -/
def score_Add.f (a0 : Int) (l1 : List (S52)) (a2_0 : Int) (a2_1 : Bool) : Option ((List (S52))) := (api_Mark.f l1).bind fun t108 => ((some (([(⟨a2_0, a2_1⟩ : S52)] : List (S52)) : List (S52))).bind fun y111 => (if t108.length + y111.length < 8796093022208 then ((some (t108 ++ y111 : List (S52))).bind fun y114 => (if 0 ≤ (mx 0 (wrap64 ((y114.length : Int) - (mx 0 a0)))) then (if (mx 0 (wrap64 ((y114.length : Int) - (mx 0 a0)))) ≤ (y114.length : Int) then (some (y114.drop ((mx 0 (wrap64 ((y114.length : Int) - (mx 0 a0)))) : Int).toNat)) else (none)) else (none))) else (none)))
set_option maxHeartbeats 8000000 in
set_option maxRecDepth 100000 in
theorem score_Add.calls (a0 : Int) (A1 : Option Addr) (c1 : Nat) (l1 : List (S52)) (a2_0 : Int) (a2_1 : Bool) (r : List (S52)) (w : World) (hr1 : Kd.C k52 w A1 l1.length l1) (hc1 : l1.length ≤ c1) (h : score_Add.f a0 l1 a2_0 a2_1 = some r) :
    Calls Try.prog 50 #[.int .i64 a0, .slice A1 l1.length c1, .agg #[.int .i64 a2_0, .bool a2_1]] w fun e w' => ∃ v0_ : Value, e = .returned (v0_) ∧ Kd.Q k52 52 w' w.heap.size (fun _ => True) v0_ r ∧ Below w.heap.size w w' := by
  have hu52 := Try.underlying52
  have HR1 := Aside0.mk hr1
  have HC1 := Aside0.mk hc1
  clear hr1 hc1
  have HB := Aside0.mk (Below.refl w.heap.size w)
  have H : ((api_Mark.f l1).bind fun t108 => ((some (([(⟨a2_0, a2_1⟩ : S52)] : List (S52)) : List (S52))).bind fun y111 => (if t108.length + y111.length < 8796093022208 then ((some (t108 ++ y111 : List (S52))).bind fun y114 => (if 0 ≤ (mx 0 (wrap64 ((y114.length : Int) - (mx 0 a0)))) then (if (mx 0 (wrap64 ((y114.length : Int) - (mx 0 a0)))) ≤ (y114.length : Int) then (some (y114.drop ((mx 0 (wrap64 ((y114.length : Int) - (mx 0 a0)))) : Int).toNat)) else (none)) else (none))) else (none)))) = some r := h
  clear h
  replace H := Option.bind_eq_some_iff.mp H
  obtain ⟨t108, A40, H⟩ := H
  replace H : ((some (([(⟨a2_0, a2_1⟩ : S52)] : List (S52)) : List (S52))).bind fun y111 => (if t108.length + y111.length < 8796093022208 then ((some (t108 ++ y111 : List (S52))).bind fun y114 => (if 0 ≤ (mx 0 (wrap64 ((y114.length : Int) - (mx 0 a0)))) then (if (mx 0 (wrap64 ((y114.length : Int) - (mx 0 a0)))) ≤ (y114.length : Int) then (some (y114.drop ((mx 0 (wrap64 ((y114.length : Int) - (mx 0 a0)))) : Int).toNat)) else (none)) else (none))) else (none))) = some r := H
  have A4 := Aside0.mk A40
  clear A40
  obtain ⟨y111, hy111⟩ : ∃ y_ : List (S52), y_ = (([(⟨a2_0, a2_1⟩ : S52)] : List (S52))) := ⟨_, rfl⟩
  replace H : (if t108.length + y111.length < 8796093022208 then ((some (t108 ++ y111 : List (S52))).bind fun y114 => (if 0 ≤ (mx 0 (wrap64 ((y114.length : Int) - (mx 0 a0)))) then (if (mx 0 (wrap64 ((y114.length : Int) - (mx 0 a0)))) ≤ (y114.length : Int) then (some (y114.drop ((mx 0 (wrap64 ((y114.length : Int) - (mx 0 a0)))) : Int).toNat)) else (none)) else (none))) else (none)) = some r := by first | (rw [hy111]; with_reducible exact H) | (have H2_ := (Option.bind_some _ _).symm.trans H; rw [hy111]; with_reducible exact H2_) | (have H2_ := (Option.bind_some _ _).symm.trans H; with_reducible exact H2_) | with_reducible exact H | (rw [hy111]; exact H) | exact H
  have Ny111 := Aside0.mk hy111
  clear hy111
  by_cases c5 : t108.length + y111.length < 8796093022208
  · rw [if_pos c5] at H
    have LMc5 := Aside0.mk c5
    clear c5
    obtain ⟨y114, hy114⟩ : ∃ y_ : List (S52), y_ = (t108 ++ y111) := ⟨_, rfl⟩
    replace H : (if 0 ≤ (mx 0 (wrap64 ((y114.length : Int) - (mx 0 a0)))) then (if (mx 0 (wrap64 ((y114.length : Int) - (mx 0 a0)))) ≤ (y114.length : Int) then (some (y114.drop ((mx 0 (wrap64 ((y114.length : Int) - (mx 0 a0)))) : Int).toNat)) else (none)) else (none)) = some r := by first | (rw [hy114]; with_reducible exact H) | (have H2_ := (Option.bind_some _ _).symm.trans H; rw [hy114]; with_reducible exact H2_) | (have H2_ := (Option.bind_some _ _).symm.trans H; with_reducible exact H2_) | with_reducible exact H | (rw [hy114]; exact H) | exact H
    have Ny114 := Aside0.mk hy114
    clear hy114
    obtain ⟨ji6, hji6⟩ : ∃ j_ : Int, (mx 0 a0) = j_ := ⟨_, rfl⟩
    replace H : (if 0 ≤ (mx 0 (wrap64 ((y114.length : Int) - (ji6)))) then (if (mx 0 (wrap64 ((y114.length : Int) - (ji6)))) ≤ (y114.length : Int) then (some (y114.drop ((mx 0 (wrap64 ((y114.length : Int) - (ji6)))) : Int).toNat)) else (none)) else (none)) = some r := by first | (rw [hji6] at H; exact H) | (simp only [hji6] at H ⊢; exact H)
    (try rw [hji6] at A4)
    (try (have hji6l : 0 ≤ ji6 := by (rw [← hji6]; unfold mx; (repeat' split) <;> omega)))
    (try (have hji6m : 0 ≤ ji6 := by omega))
    have hji6_ : (if 0 < a0 then a0 else 0) = ji6 := hji6
    obtain ⟨ji7, hji7⟩ : ∃ j_ : Int, (mx 0 (wrap64 ((y114.length : Int) - (ji6)))) = j_ := ⟨_, rfl⟩
    replace H : (if 0 ≤ (ji7) then (if (ji7) ≤ (y114.length : Int) then (some (y114.drop ((ji7) : Int).toNat)) else (none)) else (none)) = some r := by first | (rw [hji7] at H; exact H) | (simp only [hji7] at H ⊢; exact H)
    (try rw [hji7] at A4)
    have hji7_ : (if 0 < (wrap64 ((y114.length : Int) - (ji6))) then (wrap64 ((y114.length : Int) - (ji6))) else 0) = ji7 := hji7
    by_cases c8 : 0 ≤ (ji7)
    · rw [if_pos c8] at H
      have c8b0 := eq_true c8
      have c8b1 : decide (0 ≤ (ji7)) = true := decide_eq_true c8
      clear c8
      by_cases c9 : (ji7) ≤ (y114.length : Int)
      · rw [if_pos c9] at H
        have c9b0 := eq_true c9
        have c9b1 : decide ((ji7) ≤ (y114.length : Int)) = true := decide_eq_true c9
        clear c9
        obtain ⟨y117, hy117⟩ : ∃ y_ : List (S52), y_ = (y114.drop ((ji7) : Int).toNat) := ⟨_, rfl⟩
        replace H : (some y117) = some r := by first | (rw [hy117]; with_reducible exact H) | (have H2_ := (Option.bind_some _ _).symm.trans H; rw [hy117]; with_reducible exact H2_) | (have H2_ := (Option.bind_some _ _).symm.trans H; with_reducible exact H2_) | with_reducible exact H | (rw [hy117]; exact H) | exact H
        have Ny117 := Aside0.mk hy117
        clear hy117
        obtain rfl := Option.some.inj H
        go_enter Try.func50, Try.ntmps50
        try go_wp2_with (first | ((with_reducible refine gate_dst (N := 5) rfl ?_); refine box_event ?hg (N := 5) ?hd (cs := #[.int .i64 a2_0, .bool a2_1]) (t := 52) ?hr ?_; (case hd => rfl); (case hg => rfl); (case hr => first | (go_simp; done) | (go_simp; rfl)); intro gb107 hg w10 hbox hb; have n0_ := Aside0.mk (below_step (by repeat (first | (with_reducible first | exact HB.out | apply below_alloc | apply pw_below_drewN | apply below_drew1) | exact HB.out)) hb); have n1_ := Aside0.mk (hbox); have n2_ := Aside0.mk ((by rw [hg]; exact (below_size (by repeat (first | (with_reducible first | exact HB.out | apply below_alloc | apply pw_below_drewN | apply below_drew1) | exact HB.out))) : w.heap.size ≤ gb107)); have n3_ := Aside0.mk ((by rw [hg]; exact (below_size (by repeat (first | (with_reducible first | exact HB.out | apply below_alloc | apply pw_below_drewN | apply below_drew1) | exact HB.out))) : w.heap.size ≤ gb107)); clear HB; have HB := n0_; have BK107 := n1_; have GW107 := n2_; have GE107 := n3_; clear n0_ n1_ n2_ n3_; clear hb hbox hg))
        have n0_ := Aside0.mk (blk_drew BK107.out)
        have n1_ := Aside0.mk (below_drew1 HB.out)
        clear BK107
        clear HB
        have BK107 := n0_
        have HB := n1_
        clear n0_ n1_
        refine start_ (n := 6) (S := fun w' => w'.cell? ⟨gb107, 0, none⟩ = some (.int .i64 a2_0) ∧ w'.cell? ⟨gb107, 1, none⟩ = some (.bool a2_1)) (ds := []) #[false, false, false, false, false, false] (by kernel_rfl) rfl rfl ⟨(blk_cell BK107.out 0).trans rfl, (blk_cell BK107.out 1).trans rfl⟩ (fun hHeld => ?_)
        generalize w10.drew = w11 at BK107 HB hHeld ⊢
        refine pure_ (i := 0) (N := some 7) (v := ?_) (a' := ?_) #[true, false, false, false, false, false] rfl rfl (by kernel_rfl) (fun _ _ _ h => h) (Or.inl ⟨by rfl, ?_⟩) ?_ ?_
        rotate_left
        · intro w'
          go_simp
          with_reducible rfl
        rotate_left
        · simp only [Act.put, List.setIfInBounds_toArray, List.set_cons_zero, List.set_cons_succ, i64_w, i32_w]
          rfl
        refine take_ (i := 2) (N := some 9) (v := ?_) (a' := ?_) #[true, false, true, false, false, false] rfl rfl (by kernel_rfl) (fun _ _ _ h => h) (Or.inl ⟨by rfl, ?_⟩) hHeld ?_ ?_
        rotate_left
        · rintro w' ⟨s0, s1⟩
          go_simp
          with_reducible rfl
        rotate_left
        · simp only [Act.put, List.setIfInBounds_toArray, List.set_cons_zero, List.set_cons_succ, i64_w, i32_w]
          rfl
        refine join_ (σ := Value × Value) 2 #[true, true, true, true, false, false] (fun s_ => [(8, s_.1), (10, s_.2)]) (fun s_ w' => (w'.cell? ⟨gb107, 0, none⟩ = some (.int .i64 a2_0) ∧ w'.cell? ⟨gb107, 1, none⟩ = some (.bool a2_1)) ∧ (Kd.R k52 52 w' w.heap.size (fun k_ => some k_ ≠ (s_.2 : Value).ownBlock ∧ k_ ≠ gb107) s_.1 t108) ∧ (Kd.R k52 52 w' w.heap.size (fun k_ => some k_ ≠ (s_.1 : Value).ownBlock ∧ k_ ≠ gb107) s_.2 y111) ∧ (w'.heap[gb107]? = some (.cells #[.int .i64 a2_0, .bool a2_1] 52 (0, 0))) ∧ (Below w.heap.size w w')) ?_ ?_
        rotate_left
        · intro hCont
          refine two_ (i := 1) (j := 3) (Ni := some 8) (Nj := some 10) #[true, true, true, false, false, false] #[true, false, true, true, false, false] rfl rfl rfl rfl (by kernel_rfl) (by decide) (by decide) (fun K hK => ?_) (fun K hK => ?_)
          · skip
            refine goes_ Try.func42 (by kernel_rfl) rfl #[.slice A1 l1.length c1] (by rfl) rfl rfl (by (try simp only [List.map_toArray, List.map_cons, List.map_nil]); first | done | rfl | (simp only [List.length_drop, List.length_take]; rfl)) ?_
            with_reducible refine (api_Mark.calls _ _ l1 t108 _ ?side1 ?side2 A4.out).mono ?_
            (case side1 => repeat (first | exact (Kd.C_below HR1.out HB.out) | (with_reducible refine Kd.C_alloc ?_ _) | (with_reducible refine Kd.C_drewN ?_ _) | (with_reducible refine Kd.C_drew ?_)))
            (case side2 => exact HC1.out)
            rintro e w12 ⟨v109, rfl, ho0, hb⟩
            refine ⟨_, rfl, ?_⟩
            have n0_ := Aside0.mk (Kd.R_lower (Kd.R_newB ho0 (g := gb107) (o := .cells #[.int .i64 a2_0, .bool a2_1] 52 (0, 0)) (by (with_reducible repeat (first | refine blk_drewN ?_ _ | refine blk_drew ?_ | refine blk_alloc ?_ _)); exact BK107.out)) (below_size (by repeat (first | (with_reducible first | exact HB.out | apply below_alloc | apply pw_below_drewN | apply below_drew1 | refine below_set ?_ GE107.out) | exact HB.out))))
            have n1_ := Aside0.mk (blk_below (g := gb107) (o := .cells #[.int .i64 a2_0, .bool a2_1] 52 (0, 0)) (by (with_reducible repeat (first | refine blk_drewN ?_ _ | refine blk_drew ?_ | refine blk_alloc ?_ _)); exact BK107.out) hb)
            have n2_ := Aside0.mk (below_step (by repeat (first | (with_reducible first | exact HB.out | apply below_alloc | apply pw_below_drewN | apply below_drew1 | refine below_set ?_ GE107.out) | exact HB.out)) hb)
            clear BK107
            clear HB
            have HO110 := n0_
            have BK107 := n1_
            have HB := n2_
            clear n0_ n1_ n2_
            (try clear hb)
            (try clear hb2)
            (try clear hk)
            (try clear hi)
            (try clear ho0)
            refine hK.out _ _ ⟨(blk_cell BK107.out 0).trans rfl, (blk_cell BK107.out 1).trans rfl⟩ (fun hHeld => ?_)
            clear hK K
            refine norm_ (a' := ?_) ?_ ?_
            rotate_left
            · show Act.put _ (some 8) _ = _
              simp only [Act.put, List.setIfInBounds_toArray, List.set_cons_zero, List.set_cons_succ, i64_w, i32_w]
              rfl
            refine one_ (i := 3) (N := some 10) #[true, true, true, true, false, false] rfl rfl (by kernel_rfl) (by decide) (fun K hK => ?_)
            refine Kd.R_lit_step k52 _ 52 ?hg (N := 10) ?hd (xs := ([(⟨a2_0, a2_1⟩ : S52)] : List (S52))) (inner := [.int .i64 a2_0, .bool a2_1]) (ok := fun _ => True) (okp := fun _ => True) ?hr ?hp (fun _ hk => hk) trivial (Below.refl _ _) (Nat.le_refl _) (by simp) ?_; (case hd => rfl); (case hg => rfl); (case hr => first | (go_simp; done) | (go_simp; rfl)); (case hp => exact (Reps.c2 (show Kd.M k52 _ _ _ (⟨a2_0, a2_1⟩ : S52) [.int .i64 a2_0, .bool a2_1] from (k52_mkM _ _ _ (⟨a2_0, a2_1⟩ : S52) )) (Reps.none _ _)))
            intro v112 w13 ho14 hb hg_ hnew_
            clear hg_ hnew_
            (first | rw [← Ny111.out] at ho14 | (simp only [Int.reduceToNat] at ho14; rw [← Ny111.out] at ho14))
            have n0_ := Aside0.mk (Kd.R_elder' (by (with_reducible repeat (first | apply Kd.R_alloc | apply Kd.R_drewN | apply Kd.R_drew)); exact HO110.out) (Kd.R_base ho14) hb)
            have n1_ := Aside0.mk (Kd.R_lower (Kd.R_newB (Kd.R_new' ho14 (Kd.R_lt (by (with_reducible repeat (first | apply Kd.R_alloc | apply Kd.R_drewN | apply Kd.R_drew)); exact HO110.out))) (g := gb107) (o := .cells #[.int .i64 a2_0, .bool a2_1] 52 (0, 0)) (by (with_reducible repeat (first | refine blk_drewN ?_ _ | refine blk_drew ?_ | refine blk_alloc ?_ _)); exact BK107.out)) (below_size (by repeat (first | (with_reducible first | exact HB.out | apply below_alloc | apply pw_below_drewN | apply below_drew1 | refine below_set ?_ GE107.out) | exact HB.out))))
            have n2_ := Aside0.mk (blk_below (g := gb107) (o := .cells #[.int .i64 a2_0, .bool a2_1] 52 (0, 0)) (by (with_reducible repeat (first | refine blk_drewN ?_ _ | refine blk_drew ?_ | refine blk_alloc ?_ _)); exact BK107.out) hb)
            have n3_ := Aside0.mk (below_step (by repeat (first | (with_reducible first | exact HB.out | apply below_alloc | apply pw_below_drewN | apply below_drew1 | refine below_set ?_ GE107.out) | exact HB.out)) hb)
            clear HO110
            clear BK107
            clear HB
            have HO110 := n0_
            have HO113 := n1_
            have BK107 := n2_
            have HB := n3_
            clear n0_ n1_ n2_ n3_
            clear hb ho14
            refine hK.out _ _ ⟨(blk_cell BK107.out 0).trans rfl, (blk_cell BK107.out 1).trans rfl⟩ (fun hHeld => ?_)
            clear hK K
            refine norm_ (a' := ?_) ?_ ?_
            rotate_left
            · show Act.put _ (some 10) _ = _
              simp only [Act.put, List.setIfInBounds_toArray, List.set_cons_zero, List.set_cons_succ, i64_w, i32_w]
              rfl
            exact norm_ (by simp only [putAll, Act.put, List.setIfInBounds_toArray, List.set_cons_zero, List.set_cons_succ]) (hCont (v109, v112) _ ⟨hHeld, (by (with_reducible repeat (first | apply Kd.R_alloc | apply Kd.R_drewN | apply Kd.R_drew)); exact Kd.R_mono HO110.out (fun _ hk => ⟨hk.2, hk.1.2⟩)), (by (with_reducible repeat (first | apply Kd.R_alloc | apply Kd.R_drewN | apply Kd.R_drew)); exact Kd.R_mono HO113.out (fun _ hk => ⟨hk.1.2, hk.2⟩)), (by (with_reducible repeat (first | refine blk_drewN ?_ _ | refine blk_drew ?_ | refine blk_alloc ?_ _)); exact BK107.out), (by repeat (first | (with_reducible first | exact HB.out | apply below_alloc | apply pw_below_drewN | apply below_drew1 | refine below_set ?_ GE107.out) | exact HB.out))⟩)
          · skip
            refine Kd.R_lit_step k52 _ 52 ?hg (N := 10) ?hd (xs := ([(⟨a2_0, a2_1⟩ : S52)] : List (S52))) (inner := [.int .i64 a2_0, .bool a2_1]) (ok := fun _ => True) (okp := fun _ => True) ?hr ?hp (fun _ hk => hk) trivial (Below.refl _ _) (Nat.le_refl _) (by simp) ?_; (case hd => rfl); (case hg => rfl); (case hr => first | (go_simp; done) | (go_simp; rfl)); (case hp => exact (Reps.c2 (show Kd.M k52 _ _ _ (⟨a2_0, a2_1⟩ : S52) [.int .i64 a2_0, .bool a2_1] from (k52_mkM _ _ _ (⟨a2_0, a2_1⟩ : S52) )) (Reps.none _ _)))
            intro v112 w12 ho13 hb hg_ hnew_
            clear hg_ hnew_
            (first | rw [← Ny111.out] at ho13 | (simp only [Int.reduceToNat] at ho13; rw [← Ny111.out] at ho13))
            have n0_ := Aside0.mk (Kd.R_lower (Kd.R_newB ho13 (g := gb107) (o := .cells #[.int .i64 a2_0, .bool a2_1] 52 (0, 0)) (by (with_reducible repeat (first | refine blk_drewN ?_ _ | refine blk_drew ?_ | refine blk_alloc ?_ _)); exact BK107.out)) (below_size (by repeat (first | (with_reducible first | exact HB.out | apply below_alloc | apply pw_below_drewN | apply below_drew1 | refine below_set ?_ GE107.out) | exact HB.out))))
            have n1_ := Aside0.mk (blk_below (g := gb107) (o := .cells #[.int .i64 a2_0, .bool a2_1] 52 (0, 0)) (by (with_reducible repeat (first | refine blk_drewN ?_ _ | refine blk_drew ?_ | refine blk_alloc ?_ _)); exact BK107.out) hb)
            have n2_ := Aside0.mk (below_step (by repeat (first | (with_reducible first | exact HB.out | apply below_alloc | apply pw_below_drewN | apply below_drew1 | refine below_set ?_ GE107.out) | exact HB.out)) hb)
            clear BK107
            clear HB
            have HO113 := n0_
            have BK107 := n1_
            have HB := n2_
            clear n0_ n1_ n2_
            clear hb ho13
            refine hK.out _ _ ⟨(blk_cell BK107.out 0).trans rfl, (blk_cell BK107.out 1).trans rfl⟩ (fun hHeld => ?_)
            clear hK K
            refine norm_ (a' := ?_) ?_ ?_
            rotate_left
            · show Act.put _ (some 10) _ = _
              simp only [Act.put, List.setIfInBounds_toArray, List.set_cons_zero, List.set_cons_succ, i64_w, i32_w]
              rfl
            refine one_ (i := 1) (N := some 8) #[true, true, true, true, false, false] rfl rfl (by kernel_rfl) (by decide) (fun K hK => ?_)
            refine goes_ Try.func42 (by kernel_rfl) rfl #[.slice A1 l1.length c1] (by rfl) rfl rfl (by (try simp only [List.map_toArray, List.map_cons, List.map_nil]); first | done | rfl | (simp only [List.length_drop, List.length_take]; rfl)) ?_
            with_reducible refine (api_Mark.calls _ _ l1 t108 _ ?side1 ?side2 A4.out).mono ?_
            (case side1 => repeat (first | exact (Kd.C_below HR1.out HB.out) | (with_reducible refine Kd.C_alloc ?_ _) | (with_reducible refine Kd.C_drewN ?_ _) | (with_reducible refine Kd.C_drew ?_)))
            (case side2 => exact HC1.out)
            rintro e w14 ⟨v109, rfl, ho0, hb⟩
            refine ⟨_, rfl, ?_⟩
            have n0_ := Aside0.mk (Kd.R_elder' (by (with_reducible repeat (first | apply Kd.R_alloc | apply Kd.R_drewN | apply Kd.R_drew)); exact HO113.out) (Kd.R_base ho0) hb)
            have n1_ := Aside0.mk (Kd.R_lower (Kd.R_newB (Kd.R_new' ho0 (Kd.R_lt (by (with_reducible repeat (first | apply Kd.R_alloc | apply Kd.R_drewN | apply Kd.R_drew)); exact HO113.out))) (g := gb107) (o := .cells #[.int .i64 a2_0, .bool a2_1] 52 (0, 0)) (by (with_reducible repeat (first | refine blk_drewN ?_ _ | refine blk_drew ?_ | refine blk_alloc ?_ _)); exact BK107.out)) (below_size (by repeat (first | (with_reducible first | exact HB.out | apply below_alloc | apply pw_below_drewN | apply below_drew1 | refine below_set ?_ GE107.out) | exact HB.out))))
            have n2_ := Aside0.mk (blk_below (g := gb107) (o := .cells #[.int .i64 a2_0, .bool a2_1] 52 (0, 0)) (by (with_reducible repeat (first | refine blk_drewN ?_ _ | refine blk_drew ?_ | refine blk_alloc ?_ _)); exact BK107.out) hb)
            have n3_ := Aside0.mk (below_step (by repeat (first | (with_reducible first | exact HB.out | apply below_alloc | apply pw_below_drewN | apply below_drew1 | refine below_set ?_ GE107.out) | exact HB.out)) hb)
            clear HO113
            clear BK107
            clear HB
            have HO113 := n0_
            have HO110 := n1_
            have BK107 := n2_
            have HB := n3_
            clear n0_ n1_ n2_ n3_
            (try clear hb)
            (try clear hb2)
            (try clear hk)
            (try clear hi)
            (try clear ho0)
            refine hK.out _ _ ⟨(blk_cell BK107.out 0).trans rfl, (blk_cell BK107.out 1).trans rfl⟩ (fun hHeld => ?_)
            clear hK K
            refine norm_ (a' := ?_) ?_ ?_
            rotate_left
            · show Act.put _ (some 8) _ = _
              simp only [Act.put, List.setIfInBounds_toArray, List.set_cons_zero, List.set_cons_succ, i64_w, i32_w]
              rfl
            exact norm_ (by simp only [putAll, Act.put, List.setIfInBounds_toArray, List.set_cons_zero, List.set_cons_succ]) (hCont (v109, v112) _ ⟨hHeld, (by (with_reducible repeat (first | apply Kd.R_alloc | apply Kd.R_drewN | apply Kd.R_drew)); exact Kd.R_mono HO110.out (fun _ hk => ⟨hk.1.2, hk.2⟩)), (by (with_reducible repeat (first | apply Kd.R_alloc | apply Kd.R_drewN | apply Kd.R_drew)); exact Kd.R_mono HO113.out (fun _ hk => ⟨hk.2, hk.1.2⟩)), (by (with_reducible repeat (first | refine blk_drewN ?_ _ | refine blk_drew ?_ | refine blk_alloc ?_ _)); exact BK107.out), (by repeat (first | (with_reducible first | exact HB.out | apply below_alloc | apply pw_below_drewN | apply below_drew1 | refine below_set ?_ GE107.out) | exact HB.out))⟩)
        rintro ⟨v109, v112⟩ w15 ⟨hS_, h0_, h1_, h2_, h3_⟩
        have n0_ : Aside0 (Kd.R k52 52 w15 w.heap.size (fun k_ => some k_ ≠ (v112 : Value).ownBlock ∧ k_ ≠ gb107) v109 t108) := ⟨h0_⟩
        have n1_ : Aside0 (Kd.R k52 52 w15 w.heap.size (fun k_ => some k_ ≠ (v109 : Value).ownBlock ∧ k_ ≠ gb107) v112 y111) := ⟨h1_⟩
        have n2_ : Aside0 (w15.heap[gb107]? = some (.cells #[.int .i64 a2_0, .bool a2_1] 52 (0, 0))) := ⟨h2_⟩
        have n3_ : Aside0 (Below w.heap.size w w15) := ⟨h3_⟩
        clear BK107
        clear HB
        clear h0_ h1_ h2_ h3_
        have HO110 := n0_
        have HO113 := n1_
        have BK107 := n2_
        have HB := n3_
        clear n0_ n1_ n2_ n3_
        have hHeld : w15.cell? ⟨gb107, 0, none⟩ = some (.int .i64 a2_0) ∧ w15.cell? ⟨gb107, 1, none⟩ = some (.bool a2_1) := hS_
        obtain ⟨Ao17, co17, eo17⟩ := Kd.R_slice HO113.out
        (first | subst eo17 | (injection eo17 with f1_ f2_ f3_; have f4_ := f1_.symm; have f5_ := f3_.symm; clear f1_ f2_ f3_; subst f4_; subst f5_))
        refine norm_ (a' := ?_) ?_ ?_
        rotate_left
        · simp only [putAll, Act.put, List.setIfInBounds_toArray, List.set_cons_zero, List.set_cons_succ]
          rfl
        refine one_ (i := 4) (N := some 11) #[true, true, true, true, true, false] rfl rfl (by kernel_rfl) (by decide) (fun K hK => ?_)
        refine Kd.R_append_rows_step k52 (w0 := w) w.heap.size (by rfl) (.tmp 8) (.tmp 10) 35 52 (.agg #[(.int .i64 0), (.bool false)]) 16 rfl Try.underlying35 info52 rfl (by decide) (by omega) v109 t108 y111 _ _ _ (fun k_ => some k_ ≠ (.slice Ao17 y111.length co17 : Value).ownBlock ∧ k_ ≠ gb107) (fun _ => False) rfl rfl ?aO ?aR (fun _ _ h => h) (fun _ h => h.elim) ?aF ?aB ?aS ?aL ?_
        (case aR => repeat (first | exact (Kd.R_reads' HO113.out).2.2 | (with_reducible refine Kd.C_alloc ?_ _) | (with_reducible refine Kd.C_drewN ?_ _) | (with_reducible refine Kd.C_drew ?_)))
        (case aB => exact (by repeat (first | (with_reducible first | exact HB.out | apply below_alloc | apply pw_below_drewN | apply below_drew1 | refine below_set ?_ GE107.out) | exact HB.out)))
        (case aF => exact (fun k_ hk => ⟨Kd.fresh' (Kd.R_lt (by (with_reducible repeat (first | apply Kd.R_alloc | apply Kd.R_drewN | apply Kd.R_drew)); exact HO113.out)) k_ hk, Kd.freshB (g := gb107) (o := .cells #[.int .i64 a2_0, .bool a2_1] 52 (0, 0)) (by (with_reducible repeat (first | refine blk_drewN ?_ _ | refine blk_drew ?_ | refine blk_alloc ?_ _)); exact BK107.out) k_ hk⟩))
        (case aO => exact (by (with_reducible repeat (first | apply Kd.R_alloc | apply Kd.R_drewN | apply Kd.R_drew)); exact HO110.out))
        (case aS => exact (below_size (by repeat (first | (with_reducible first | exact HB.out | apply below_alloc | apply pw_below_drewN | apply below_drew1 | refine below_set ?_ GE107.out) | exact HB.out))))
        (case aL => have := LMc5.out; omega)
        intro v115 w16 ho hb hg hat
        rw [← Ny114.out] at ho
        have n0_ := Aside0.mk (blk_grown (g := gb107) (o := .cells #[.int .i64 a2_0, .bool a2_1] 52 (0, 0)) (by (with_reducible repeat (first | refine blk_drewN ?_ _ | refine blk_drew ?_ | refine blk_alloc ?_ _)); exact BK107.out) hg (Kd.R_away HO110.out (fun _ hk => hk.2)))
        have n1_ := Aside0.mk (Kd.R_after (ok := (fun k_ => k_ ≠ gb107)) (by (with_reducible repeat (first | apply Kd.R_alloc | apply Kd.R_drewN | apply Kd.R_drew)); exact Kd.R_mono HO113.out (fun _ hk => ⟨hk.2, hk.1⟩)) hg hat)
        have n2_ := Aside0.mk (hb)
        have n3_ := Aside0.mk (ho)
        clear BK107
        clear HO113
        clear HB
        clear HO110
        have BK107 := n0_
        have HO113 := n1_
        have HB := n2_
        have HO116 := n3_
        clear n0_ n1_ n2_ n3_
        clear ho hb hg hat
        refine hK.out _ _ ⟨(blk_cell BK107.out 0).trans rfl, (blk_cell BK107.out 1).trans rfl⟩ (fun hHeld => ?_)
        clear hK K
        refine norm_ (a' := ?_) ?_ ?_
        rotate_left
        · show Act.put _ (some 11) _ = _
          simp only [Act.put, List.setIfInBounds_toArray, List.set_cons_zero, List.set_cons_succ, i64_w, i32_w]
          rfl
        refine pure_ (i := 5) (N := some 1) (v := ?_) (a' := ?_) #[true, true, true, true, true, true] rfl rfl (by kernel_rfl) (fun _ _ _ h => h) (Or.inl ⟨by rfl, ?_⟩) ?_ ?_
        rotate_left
        · intro w'
          go_simp
          with_reducible rfl
        rotate_left
        · simp only [Act.put, List.setIfInBounds_toArray, List.set_cons_zero, List.set_cons_succ, i64_w, i32_w]
          rfl
        refine done_ (by kernel_rfl) ?_
        obtain ⟨Ao18, co18, eo18⟩ := Kd.R_slice HO116.out
        subst eo18
        have q19 : ((ji7) : Int) ≤ ((y114.length : Int) : Int) := of_decide_eq_true (by first | (with_reducible assumption) | assumption)
        obtain ⟨i019, hi019, _, hsz19, _⟩ := info_parts info52
        have hcut19 := cut_from (P := Try.prog) 35 52 .i64 Try.underlying35 hi019 2 hsz19 Ao18 y114.length co18 (ji7) (of_decide_eq_true (by first | (with_reducible assumption) | assumption)) q19
        have hr19 := Kd.Q_drop (k := ((ji7) : Int).toNat) (Kd.Q_of_R HO116.out) (by omega)
        obtain ⟨A19, hA19⟩ : ∃ A1, A1 = (if co18 = ((ji7) : Int).toNat then Ao18 else (Ao18 : Option Addr).map (·.add (((ji7) : Int).toNat * 2))) := ⟨_, rfl⟩
        obtain ⟨c19, hc19⟩ : ∃ c1, c1 = co18 - ((ji7) : Int).toNat := ⟨_, rfl⟩
        have hy19 : y117.length = y114.length - ((ji7) : Int).toNat := (by rw [Ny117.out, List.length_drop])
        rw [← Ny117.out] at hr19
        rw [← hy19, ← hA19, ← hc19] at hcut19
        replace hr19 : Kd.Q k52 52 w16 w.heap.size (fun k_ => some k_ ≠ (.slice Ao17 y111.length co17 : Value).ownBlock ∧ k_ ≠ gb107) (.slice A19 y117.length c19) y117 := (by rw [hA19, hc19, hy19]; exact hr19)
        have HE19 : Aside0 ((Value.slice A19 y117.length c19).ownBlock = (.slice Ao18 y114.length co18 : Value).ownBlock) := ⟨by rw [hA19]; split <;> (cases (Ao18 : Option Addr) <;> first | rfl | (simp [Value.ownBlock]; unfold Addr.add; split <;> rfl))⟩
        clear hy19 hi019 hsz19 HO116 hA19 hc19
        have HO119 := Aside0.mk hr19
        clear hr19
        replace q19 := eq_true q19
        have n_ := Aside0.mk (Kd.R_mono (ok' := fun k_ => (k_ ≠ gb107 ∧ some k_ ≠ (.slice A19 y117.length c19 : Value).ownBlock)) HO113.out (fun k_ hk => ⟨hk.1, (by rw [HE19.out]; exact hk.2)⟩))
        clear HO113
        have HO113 := n_
        clear n_
        try go_wp2
        go_ret
        exact ⟨_, by first | rfl | (simp [errW_none, errW_some] <;> rfl) | (simp only [← hji6, ← hji7]; first | rfl | (simp [errW_none, errW_some] <;> rfl)) | (simp [*, errW_none, errW_some] <;> rfl) | (have e_ : ji6 = ji7 := (by omega); subst e_; rfl), by (with_reducible repeat (first | apply Kd.Q_alloc | apply Kd.Q_drewN | apply Kd.Q_drew)); exact Kd.Q_mono HO119.out (fun _ hk => trivial), by repeat (first | (with_reducible first | exact HB.out | apply below_alloc | apply pw_below_drewN | apply below_drew1 | refine below_set ?_ GE107.out) | exact HB.out)⟩
      · rw [if_neg c9] at H
        exact absurd H (by simp)
    · rw [if_neg c8] at H
      exact absurd H (by simp)
  · rw [if_neg c5] at H
    exact absurd H (by simp)

end Go.Proofs.Ytefgoffaidjiaaa.PAll
namespace Go.Proofs.Ytefgoffaidjiaaa.PAll
open Go.RowKit Go.Proofs.YtefgoffaidjiaaaW.PrintWords Go.Proofs.YtefgoffaidjiaaaW.PrintLast Go.Proofs.YtefgoffaidjiaaaW.PrintMore
attribute [local go_sem] max2_int min2_int max_two min_two max_three min_three max_four min_four   -- for this text's walks alone
set_option linter.unusedVariables false
set_option linter.unusedSimpArgs false

/-! ### api_Band: function 39 -/
def api_Band.f (l0 : List (S56)) : Option (List (S56)) := if l0.length < 8796093022208 then some l0 else none
theorem cloneNilBand (n c : Nat) (W : World) : (binOp BinOp.eql 24 (.slice none n c) (.slice none 0 0)).run Try.prog W = .ok (.bool true) W := by kernel_rfl
theorem cloneSomeBand (ad : Addr) (n c : Nat) (W : World) : (binOp BinOp.eql 24 (.slice (some ad) n c) (.slice none 0 0)).run Try.prog W = .ok (.bool false) W := by kernel_rfl
set_option maxHeartbeats 4000000 in
set_option maxRecDepth 100000 in
theorem api_Band.calls (A0 : Option Addr) (c0 : Nat) (l0 : List (S56)) (r : List (S56)) (w : World) (hr0 : Kd.C k56 w A0 l0.length l0) (hc0 : l0.length ≤ c0) (h : api_Band.f l0 = some r) :
    Calls Try.prog 39 #[.slice A0 l0.length c0] w fun e w' => ∃ v0_ : Value, e = .returned v0_ ∧ Kd.R k56 56 w' w.heap.size (fun _ => True) v0_ r ∧ Below w.heap.size w w' := by
  unfold api_Band.f at h
  by_cases c5 : l0.length < 8796093022208
  · rw [if_pos c5] at h
    obtain rfl := Option.some.inj h
    clear h
    have LMc5 := Aside0.mk c5
    have HR0 := Aside0.mk hr0
    have HB := Aside0.mk (Below.refl w.heap.size w)
    clear c5
    cases A0 with
    | none =>
      have e1 := cloneNilBand l0.length c0
      go_enter Try.func39, Try.ntmps39
      go_wp2
      go_ret
      have hz : l0 = [] := by
        cases l0 with
        | nil => rfl
        | cons x xs =>
          obtain ⟨_, _, h3⟩ := HR0.out
          obtain ⟨ad, hn, _⟩ := h3 (by simp)
          cases hn
      subst hz
      exact ⟨_, rfl, Kd.R_nil _ _ _ _ _, HB.out⟩
    | some ad =>
      have e1 := cloneSomeBand ad l0.length c0
      obtain ⟨y1, hy1⟩ : ∃ y_ : List (S56), y_ = ([] : List (S56)) := ⟨_, rfl⟩
      have Ny := Aside0.mk hy1
      clear hy1 hr0
      go_enter Try.func39, Try.ntmps39
      go_wp2_with (first
        | ((with_reducible refine gate_dst (N := 5) rfl ?_); refine Kd.R_lit k56 _ 56 ?hg (N := 5) ?hd (xs := ([] : List (S56))) (inner := []) (ok := fun _ => True) (okp := fun _ => True) ?hr ?hp (fun _ hk => hk) trivial (Below.refl _ _) (Nat.le_refl _) (by simp) ?_; (case hd => rfl); (case hg => rfl); (case hr => first | (go_simp; done) | (go_simp; rfl)); (case hp => exact (Reps.none _ _)); intro v142 w12 ho13 hb hg_ hnew_; clear hg_ hnew_; rw [← Ny.out] at ho13; have HO := Aside0.mk ho13; have HB1 := Aside0.mk hb; clear ho13 hb)
        | ((with_reducible refine gate_builtin (b := .append) (xs := #[.tmp 5, .tmp 6]) rfl ?_); at_builtin; refine Kd.R_append_rows k56 (w0 := w) w.heap.size rfl (.tmp 5) (.tmp 6) 24 56 (.agg #[(.int .i64 0), (.int .i64 0)]) 16 rfl Try.underlying24 info56 rfl (by decide) (by omega) v142 y1 l0 _ _ _ (fun _ => True) (fun _ => False) rfl rfl ?aO ?aR (fun _ _ h => h) (fun _ h => h.elim) ?aF ?aB ?aS ?aL ?_; (case aR => exact Kd.C_below HR0.out HB1.out); (case aB => exact HB1.out); (case aF => exact (fun _ _ => trivial)); (case aO => exact HO.out); (case aS => exact below_size HB1.out); (case aL => have := LMc5.out; rw [Ny.out]; simp; omega); intro v145 w15 ho hb hg hat; rw [Ny.out] at ho; have HO2 := Aside0.mk ho; have HB2 := Aside0.mk hb; clear ho hb hg hat))
      go_ret
      exact ⟨_, rfl, HO2.out, HB2.out⟩
  · rw [if_neg c5] at h
    cases h

end Go.Proofs.Ytefgoffaidjiaaa.PAll
namespace Go.Proofs.Ytefgoffaidjiaaa.PAll
open Go.RowKit Go.Proofs.YtefgoffaidjiaaaW.PrintWords Go.Proofs.YtefgoffaidjiaaaW.PrintLast Go.Proofs.YtefgoffaidjiaaaW.PrintMore
attribute [local go_sem] max2_int min2_int max_two min_two max_three min_three max_four min_four   -- for this text's walks alone
set_option linter.unusedVariables false
set_option linter.unusedSimpArgs false

/-! ### api_Slot_40: function 40 -/
def api_Slot_40.f (l0 : List (S58)) : Option (List (S58)) := if l0.length < 8796093022208 then some l0 else none
theorem cloneNilSlot (n c : Nat) (W : World) : (binOp BinOp.eql 25 (.slice none n c) (.slice none 0 0)).run Try.prog W = .ok (.bool true) W := by kernel_rfl
theorem cloneSomeSlot (ad : Addr) (n c : Nat) (W : World) : (binOp BinOp.eql 25 (.slice (some ad) n c) (.slice none 0 0)).run Try.prog W = .ok (.bool false) W := by kernel_rfl
set_option maxHeartbeats 4000000 in
set_option maxRecDepth 100000 in
theorem api_Slot_40.calls (A0 : Option Addr) (c0 : Nat) (l0 : List (S58)) (r : List (S58)) (w : World) (hr0 : Kd.C k58 w A0 l0.length l0) (hc0 : l0.length ≤ c0) (h : api_Slot_40.f l0 = some r) :
    Calls Try.prog 40 #[.slice A0 l0.length c0] w fun e w' => ∃ v0_ : Value, e = .returned v0_ ∧ Kd.R k58 58 w' w.heap.size (fun _ => True) v0_ r ∧ Below w.heap.size w w' := by
  unfold api_Slot_40.f at h
  by_cases c5 : l0.length < 8796093022208
  · rw [if_pos c5] at h
    obtain rfl := Option.some.inj h
    clear h
    have LMc5 := Aside0.mk c5
    have HR0 := Aside0.mk hr0
    have HB := Aside0.mk (Below.refl w.heap.size w)
    clear c5
    cases A0 with
    | none =>
      have e1 := cloneNilSlot l0.length c0
      go_enter Try.func40, Try.ntmps40
      go_wp2
      go_ret
      have hz : l0 = [] := by
        cases l0 with
        | nil => rfl
        | cons x xs =>
          obtain ⟨_, _, h3⟩ := HR0.out
          obtain ⟨ad, hn, _⟩ := h3 (by simp)
          cases hn
      subst hz
      exact ⟨_, rfl, Kd.R_nil _ _ _ _ _, HB.out⟩
    | some ad =>
      have e1 := cloneSomeSlot ad l0.length c0
      obtain ⟨y1, hy1⟩ : ∃ y_ : List (S58), y_ = ([] : List (S58)) := ⟨_, rfl⟩
      have Ny := Aside0.mk hy1
      clear hy1 hr0
      go_enter Try.func40, Try.ntmps40
      go_wp2_with (first
        | ((with_reducible refine gate_dst (N := 5) rfl ?_); refine Kd.R_lit k58 _ 58 ?hg (N := 5) ?hd (xs := ([] : List (S58))) (inner := []) (ok := fun _ => True) (okp := fun _ => True) ?hr ?hp (fun _ hk => hk) trivial (Below.refl _ _) (Nat.le_refl _) (by simp) ?_; (case hd => rfl); (case hg => rfl); (case hr => first | (go_simp; done) | (go_simp; rfl)); (case hp => exact (Reps.none _ _)); intro v142 w12 ho13 hb hg_ hnew_; clear hg_ hnew_; rw [← Ny.out] at ho13; have HO := Aside0.mk ho13; have HB1 := Aside0.mk hb; clear ho13 hb)
        | ((with_reducible refine gate_builtin (b := .append) (xs := #[.tmp 5, .tmp 6]) rfl ?_); at_builtin; refine Kd.R_append_rows k58 (w0 := w) w.heap.size rfl (.tmp 5) (.tmp 6) 25 58 (.agg #[(.int .i64 0), (.int .i64 0)]) 16 rfl Try.underlying25 info58 rfl (by decide) (by omega) v142 y1 l0 _ _ _ (fun _ => True) (fun _ => False) rfl rfl ?aO ?aR (fun _ _ h => h) (fun _ h => h.elim) ?aF ?aB ?aS ?aL ?_; (case aR => exact Kd.C_below HR0.out HB1.out); (case aB => exact HB1.out); (case aF => exact (fun _ _ => trivial)); (case aO => exact HO.out); (case aS => exact below_size HB1.out); (case aL => have := LMc5.out; rw [Ny.out]; simp; omega); intro v145 w15 ho hb hg hat; rw [Ny.out] at ho; have HO2 := Aside0.mk ho; have HB2 := Aside0.mk hb; clear ho hb hg hat))
      go_ret
      exact ⟨_, rfl, HO2.out, HB2.out⟩
  · rw [if_neg c5] at h
    cases h

end Go.Proofs.Ytefgoffaidjiaaa.PAll
namespace Go.Proofs.Ytefgoffaidjiaaa.PAll
open Go.RowKit Go.Proofs.YtefgoffaidjiaaaW.PrintWords Go.Proofs.YtefgoffaidjiaaaW.PrintLast Go.Proofs.YtefgoffaidjiaaaW.PrintMore
attribute [local go_sem] max2_int min2_int max_two min_two max_three min_three max_four min_four   -- for this text's walks alone
set_option linter.unusedVariables false
set_option linter.unusedSimpArgs false

/-! ### fleet_Own: function 18 -/
def fleet_Own.f (a0_0 : Int) (a0_1 : Int) (l0_2 : List (S56)) (a0_3 : Int) (a0_4 : Int) (a0_5 : Int) (a0_6 : Int) (l0_7 : List (S58)) (a0_8 : Int) (a0_9 : Int) (a0_10 : Bool) (a0_11 : Int) (a0_12 : Int) (a0_13 : Bool) (a0_14 : Int) (l0_15 : List Int) (a0_16 : Int) (a0_17 : Int) (l0_18 : List (S52)) : Option (Int × Int × (List (S56)) × Int × Int × Int × Int × (List (S58)) × Int × Int × Bool × Int × Int × Bool × Int × List Int × Int × Int × (List (S52))) := if l0_2.length < 8796093022208 ∧ l0_7.length < 8796093022208 ∧ l0_15.length < 17592186044416 ∧ l0_18.length < 8796093022208 then some (a0_0, a0_1, l0_2, a0_3, a0_4, a0_5, a0_6, l0_7, a0_8, a0_9, a0_10, a0_11, a0_12, a0_13, a0_14, l0_15, a0_16, a0_17, l0_18) else none
/-- The two blocks of Own. -/
structure OwS (w W : World) (cs : Array Value) : Prop where
  hX : W.heap[w.heap.size]? = some (.cells cs 37 (0, 0))
  hY : W.heap[w.heap.size + 1]? = some (.cells #[.int .i64 0, .int .i64 0, .slice none 0 0, .int .i64 0, .int .i64 0, .int .i64 0, .int .i64 0, .slice none 0 0, .int .i64 0, .int .i64 0, .bool false, .int .i64 0, .int .i64 0, .bool false, .int .i64 0, .slice none 0 0, .int .i64 0, .int .i64 0, .slice none 0 0] 37 (0, 0))
  hB : Below w.heap.size w W
/-- A whole row is laid over another one. -/
theorem cp_row {P : Program} {W : World} {g t : Nat} {cs old : Array Value} (h : W.heap[g]? = some (.cells old t (0, 0))) (hs : cs.size = old.size) (h1 : ∀ v ∈ cs.toList, v.oneCell' = true) :
    (storeCells ⟨g, 0, none⟩ cs.toList).run P W = .ok () (W.setCells g 0 cs.toList) ∧ (W.setCells g 0 cs.toList).heap[g]? = some (.cells cs t (0, 0)) ∧ (∀ k, k ≠ g → (W.setCells g 0 cs.toList).heap[k]? = W.heap[k]?) ∧ (W.setCells g 0 cs.toList).os = W.os ∧ (W.setCells g 0 cs.toList).tape = W.tape ∧ (W.setCells g 0 cs.toList).output = W.output ∧ (W.setCells g 0 cs.toList).heap.size = W.heap.size := by
  have hl : cs.toList.length = old.size := by rw [Array.length_toList, hs]
  refine ⟨?_, ?_, fun k hk => setCells_far _ _ k hk, setCells_same g _ _ W⟩
  · have z := run_storeCells_cells (P := P) g 0 cs.toList 0 W (fun j hj => by rw [cell_of_row W g _ old t (0, 0) h]; simp; omega) (fun j _ => blk_frozen h _) h1
    simpa using z
  · obtain ⟨cur, h3, h4, h5⟩ := setCells_row cs.toList 0 W old h (by omega)
    rw [h3]
    have e : cur = cs := by
      apply Array.ext'
      rw [h5, List.take_zero, List.nil_append, List.drop_of_length_le (by rw [Array.length_toList]; omega), List.append_nil]
    rw [e]
theorem below_cells {w W : World} {g : Nat} {vs : List Value} (h : Below w.heap.size w W) (hg : w.heap.size ≤ g) : Below w.heap.size w (W.setCells g 0 vs) := by
  obtain ⟨h1, h2, h3, h4⟩ := setCells_same g vs 0 W
  exact ⟨h1.trans h.os, h2.trans h.tape, h3.trans h.output, by rw [h4]; exact h.size, fun k hk => (setCells_far vs 0 k (by omega)).trans (h.block k hk)⟩
theorem Kd.R_cells {α : Type} {d : Kd α} {e base g t : Nat} {ok : Nat → Prop} {W : World} {v : Value} {xs : List α} {old : Array Value} {vs : List Value} (h : d.R e W base ok v xs) (hb : W.heap[g]? = some (.cells old t (0, 0))) (ht : ∀ q, q ∈ e :: d.E → q ≠ t) : d.R e (W.setCells g 0 vs) base ok v xs :=
  Kd.R_mono (Kd.R_step (Kd.R_types h hb ht) (fun k hk _ => setCells_far vs 0 k hk.2)) (fun _ hk => hk.1)
theorem Kd.Q_cells {α : Type} {d : Kd α} {e base g t : Nat} {ok : Nat → Prop} {W : World} {v : Value} {xs : List α} {old : Array Value} {vs : List Value} (h : d.Q e W base ok v xs) (hb : W.heap[g]? = some (.cells old t (0, 0))) (ht : ∀ q, q ∈ e :: d.E → q ≠ t) : d.Q e (W.setCells g 0 vs) base ok v xs :=
  Kd.Q_mono (Kd.Q_step (Kd.Q_types h hb ht) (fun k hk _ => setCells_far vs 0 k hk.2)) (fun _ hk => hk.1)
theorem OwS.below {w W W1 : World} {cs : Array Value} (h : OwS w W cs) (hb : Below W.heap.size W W1) : OwS w W1 cs := ⟨blk_below h.hX hb, blk_below h.hY hb, below_step h.hB hb⟩
theorem OwS.put {w W : World} {cs cs' : Array Value} (h : OwS w W cs) (j : Nat) (u : Value) (e : cs.setIfInBounds j u = cs') : OwS w (W.setCell ⟨w.heap.size, j, none⟩ u) cs' := ⟨blk_put h.hX j u e, blk_far h.hY (by show w.heap.size + 1 ≠ w.heap.size; omega) u, below_set h.hB (Nat.le_refl _)⟩
set_option maxHeartbeats 8000000 in
set_option maxRecDepth 100000 in
theorem fleet_Own.calls (a0_0 : Int) (a0_1 : Int) (A0_2 : Option Addr) (c0_2 : Nat) (l0_2 : List (S56)) (a0_3 : Int) (a0_4 : Int) (a0_5 : Int) (a0_6 : Int) (A0_7 : Option Addr) (c0_7 : Nat) (l0_7 : List (S58)) (a0_8 : Int) (a0_9 : Int) (a0_10 : Bool) (a0_11 : Int) (a0_12 : Int) (a0_13 : Bool) (a0_14 : Int) (A0_15 : Option Addr) (c0_15 : Nat) (l0_15 : List Int) (a0_16 : Int) (a0_17 : Int) (A0_18 : Option Addr) (c0_18 : Nat) (l0_18 : List (S52)) (r1 : Int) (r2 : Int) (r3 : List (S56)) (r4 : Int) (r5 : Int) (r6 : Int) (r7 : Int) (r8 : List (S58)) (r9 : Int) (r10 : Int) (r11 : Bool) (r12 : Int) (r13 : Int) (r14 : Bool) (r15 : Int) (r16 : List Int) (r17 : Int) (r18 : Int) (r19 : List (S52)) (w : World) (hr0_2 : Kd.C k56 w A0_2 l0_2.length l0_2) (hc0_2 : l0_2.length ≤ c0_2) (hr0_7 : Kd.C k58 w A0_7 l0_7.length l0_7) (hc0_7 : l0_7.length ≤ c0_7) (hr0_15 : Kd.C (Kd.int .i64) w A0_15 l0_15.length l0_15) (hc0_15 : l0_15.length ≤ c0_15) (hr0_18 : Kd.C k52 w A0_18 l0_18.length l0_18) (hc0_18 : l0_18.length ≤ c0_18) (h : fleet_Own.f a0_0 a0_1 l0_2 a0_3 a0_4 a0_5 a0_6 l0_7 a0_8 a0_9 a0_10 a0_11 a0_12 a0_13 a0_14 l0_15 a0_16 a0_17 l0_18 = some (r1, r2, r3, r4, r5, r6, r7, r8, r9, r10, r11, r12, r13, r14, r15, r16, r17, r18, r19)) :
    Calls Try.prog 18 #[.agg #[.int .i64 a0_0, .int .i64 a0_1, .slice A0_2 l0_2.length c0_2, .int .i64 a0_3, .int .i64 a0_4, .int .i64 a0_5, .int .i64 a0_6, .slice A0_7 l0_7.length c0_7, .int .i64 a0_8, .int .i64 a0_9, .bool a0_10, .int .i64 a0_11, .int .i64 a0_12, .bool a0_13, .int .i64 a0_14, .slice A0_15 l0_15.length c0_15, .int .i64 a0_16, .int .i64 a0_17, .slice A0_18 l0_18.length c0_18]] w fun e w' => ∃ v2_ v7_ v15_ v18_ : Value, e = .returned (.agg #[.int .i64 r1, .int .i64 r2, v2_, .int .i64 r4, .int .i64 r5, .int .i64 r6, .int .i64 r7, v7_, .int .i64 r9, .int .i64 r10, .bool r11, .int .i64 r12, .int .i64 r13, .bool r14, .int .i64 r15, v15_, .int .i64 r17, .int .i64 r18, v18_]) ∧ Kd.R k56 56 w' w.heap.size (fun _ => True) v2_ r3 ∧ Kd.R k58 58 w' w.heap.size (fun _ => True) v7_ r8 ∧ Kd.R (Kd.int .i64) 3 w' w.heap.size (fun _ => True) v15_ r16 ∧ Kd.R k52 52 w' w.heap.size (fun _ => True) v18_ r19 ∧ Below w.heap.size w w' := by
  have hu1 := Try.underlying37
  have hu2 := Try.underlying27
  have hu3 := Try.underlying34
  unfold fleet_Own.f at h
  have hD : l0_2.length < 8796093022208 ∧ l0_7.length < 8796093022208 ∧ l0_15.length < 17592186044416 ∧ l0_18.length < 8796093022208 := by
    by_cases hD : l0_2.length < 8796093022208 ∧ l0_7.length < 8796093022208 ∧ l0_15.length < 17592186044416 ∧ l0_18.length < 8796093022208
    · exact hD
    · rw [if_neg hD] at h; cases h
  rw [if_pos hD] at h
  simp only [Option.some.injEq, Prod.mk.injEq] at h
  obtain ⟨rfl, rfl, rfl, rfl, rfl, rfl, rfl, rfl, rfl, rfl, rfl, rfl, rfl, rfl, rfl, rfl, rfl, rfl, rfl⟩ := h
  have F2 := Aside0.mk (show api_Band.f l0_2 = some l0_2 by unfold api_Band.f; rw [if_pos hD.1])
  have HR2 := Aside0.mk hr0_2
  have HC2 := Aside0.mk hc0_2
  have F7 := Aside0.mk (show api_Slot_40.f l0_7 = some l0_7 by unfold api_Slot_40.f; rw [if_pos hD.2.1])
  have HR7 := Aside0.mk hr0_7
  have HC7 := Aside0.mk hc0_7
  have F15 := Aside0.mk (show slices_Clone_int_int.f l0_15 = some l0_15 by unfold slices_Clone_int_int.f; rw [if_pos hD.2.2.1])
  have HR15 := Aside0.mk hr0_15
  have HC15 := Aside0.mk hc0_15
  have F18 := Aside0.mk (show api_Mark.f l0_18 = some l0_18 by unfold api_Mark.f; rw [if_pos hD.2.2.2])
  have HR18 := Aside0.mk hr0_18
  have HC18 := Aside0.mk hc0_18
  clear hD hr0_2 hc0_2 hr0_7 hc0_7 hr0_15 hc0_15 hr0_18 hc0_18
  go_enter Try.func18, Try.ntmps18
  go_upto_region 1 with (fail)
  have S0 : OwS w ((w.alloc (.cells #[.int .i64 a0_0, .int .i64 a0_1, .slice A0_2 l0_2.length c0_2, .int .i64 a0_3, .int .i64 a0_4, .int .i64 a0_5, .int .i64 a0_6, .slice A0_7 l0_7.length c0_7, .int .i64 a0_8, .int .i64 a0_9, .bool a0_10, .int .i64 a0_11, .int .i64 a0_12, .bool a0_13, .int .i64 a0_14, .slice A0_15 l0_15.length c0_15, .int .i64 a0_16, .int .i64 a0_17, .slice A0_18 l0_18.length c0_18] 37)).alloc (.cells #[.int .i64 0, .int .i64 0, .slice none 0 0, .int .i64 0, .int .i64 0, .int .i64 0, .int .i64 0, .slice none 0 0, .int .i64 0, .int .i64 0, .bool false, .int .i64 0, .int .i64 0, .bool false, .int .i64 0, .slice none 0 0, .int .i64 0, .int .i64 0, .slice none 0 0] 37)) #[.int .i64 a0_0, .int .i64 a0_1, .slice A0_2 l0_2.length c0_2, .int .i64 a0_3, .int .i64 a0_4, .int .i64 a0_5, .int .i64 a0_6, .slice A0_7 l0_7.length c0_7, .int .i64 a0_8, .int .i64 a0_9, .bool a0_10, .int .i64 a0_11, .int .i64 a0_12, .bool a0_13, .int .i64 a0_14, .slice A0_15 l0_15.length c0_15, .int .i64 a0_16, .int .i64 a0_17, .slice A0_18 l0_18.length c0_18] := by
    have z1 := blk_new (w.alloc (.cells #[.int .i64 a0_0, .int .i64 a0_1, .slice A0_2 l0_2.length c0_2, .int .i64 a0_3, .int .i64 a0_4, .int .i64 a0_5, .int .i64 a0_6, .slice A0_7 l0_7.length c0_7, .int .i64 a0_8, .int .i64 a0_9, .bool a0_10, .int .i64 a0_11, .int .i64 a0_12, .bool a0_13, .int .i64 a0_14, .slice A0_15 l0_15.length c0_15, .int .i64 a0_16, .int .i64 a0_17, .slice A0_18 l0_18.length c0_18] 37)) (.cells #[.int .i64 0, .int .i64 0, .slice none 0 0, .int .i64 0, .int .i64 0, .int .i64 0, .int .i64 0, .slice none 0 0, .int .i64 0, .int .i64 0, .bool false, .int .i64 0, .int .i64 0, .bool false, .int .i64 0, .slice none 0 0, .int .i64 0, .int .i64 0, .slice none 0 0] 37)
    rw [World.size_alloc] at z1
    exact ⟨blk_alloc (blk_new w _) _, z1, below_alloc (below_alloc (Below.refl _ _) _) _⟩
  generalize (w.alloc _).alloc _ = W0 at S0 ⊢
  have p1 := (blk_cell S0.hX 2)
  simp only [List.getElem?_toArray, List.getElem?_cons_zero, List.getElem?_cons_succ] at p1
  have HS := Aside0.mk S0
  clear S0
  go_upto_region 2 with (go_at_call 39; refine (api_Band.calls A0_2 c0_2 l0_2 l0_2 _ (Kd.C_below HR2.out HS.out.hB) HC2.out F2.out).mono ?_; rintro e_ w1 ⟨v1, rfl, ho, hb⟩; obtain ⟨B2, d2, rfl⟩ := Kd.R_slice ho; have HS1 := Aside0.mk (HS.out.below hb); have HO1 := Aside0.mk (Kd.R_lower ho HS.out.hB.size); have HBn := Aside0.mk hb; have q1 := (blk_cell HS1.out.hX 2); have qf1 := blk_frozen HS1.out.hX 2; simp only [List.getElem?_toArray, List.getElem?_cons_zero, List.getElem?_cons_succ] at q1; clear ho hb)
  have S1 : OwS w (w1.setCell ⟨w.heap.size, 2, none⟩ (.slice B2 l0_2.length d2)) #[.int .i64 a0_0, .int .i64 a0_1, .slice B2 l0_2.length d2, .int .i64 a0_3, .int .i64 a0_4, .int .i64 a0_5, .int .i64 a0_6, .slice A0_7 l0_7.length c0_7, .int .i64 a0_8, .int .i64 a0_9, .bool a0_10, .int .i64 a0_11, .int .i64 a0_12, .bool a0_13, .int .i64 a0_14, .slice A0_15 l0_15.length c0_15, .int .i64 a0_16, .int .i64 a0_17, .slice A0_18 l0_18.length c0_18] := HS1.out.put 2 (.slice B2 l0_2.length d2) rfl
  have T2 := Kd.R_mono (ok' := fun _ => True) (Kd.R_set HO1.out HS1.out.hX (by decide) 2 (.slice B2 l0_2.length d2)) (fun _ _ => trivial)
  generalize w1.setCell _ _ = W1 at S1 T2  ⊢
  clear HS HS1 HO1 HBn p1 q1 qf1 F2 HR2 HC2
  have HT := Aside0.mk T2
  clear T2
  have T2 := HT
  clear HT
  have p1 := (blk_cell S1.hX 7)
  simp only [List.getElem?_toArray, List.getElem?_cons_zero, List.getElem?_cons_succ] at p1
  have HS := Aside0.mk S1
  clear S1
  go_upto_region 3 with (go_at_call 40; refine (api_Slot_40.calls A0_7 c0_7 l0_7 l0_7 _ (Kd.C_below HR7.out HS.out.hB) HC7.out F7.out).mono ?_; rintro e_ w1 ⟨v1, rfl, ho, hb⟩; obtain ⟨B7, d7, rfl⟩ := Kd.R_slice ho; have HS1 := Aside0.mk (HS.out.below hb); have HO1 := Aside0.mk (Kd.R_lower ho HS.out.hB.size); have HBn := Aside0.mk hb; have q1 := (blk_cell HS1.out.hX 7); have qf1 := blk_frozen HS1.out.hX 7; simp only [List.getElem?_toArray, List.getElem?_cons_zero, List.getElem?_cons_succ] at q1; clear ho hb)
  have S2 : OwS w (w1.setCell ⟨w.heap.size, 7, none⟩ (.slice B7 l0_7.length d7)) #[.int .i64 a0_0, .int .i64 a0_1, .slice B2 l0_2.length d2, .int .i64 a0_3, .int .i64 a0_4, .int .i64 a0_5, .int .i64 a0_6, .slice B7 l0_7.length d7, .int .i64 a0_8, .int .i64 a0_9, .bool a0_10, .int .i64 a0_11, .int .i64 a0_12, .bool a0_13, .int .i64 a0_14, .slice A0_15 l0_15.length c0_15, .int .i64 a0_16, .int .i64 a0_17, .slice A0_18 l0_18.length c0_18] := HS1.out.put 7 (.slice B7 l0_7.length d7) rfl
  have T7 := Kd.R_mono (ok' := fun _ => True) (Kd.R_set HO1.out HS1.out.hX (by decide) 7 (.slice B7 l0_7.length d7)) (fun _ _ => trivial)
  have T2b := Kd.R_mono (Kd.R_set (Kd.R_below T2.out HBn.out) HS1.out.hX (by decide) 7 (.slice B7 l0_7.length d7)) (ok' := fun _ => True) (fun _ _ => trivial)
  generalize w1.setCell _ _ = W2 at S2 T7 T2b ⊢
  clear HS HS1 HO1 HBn p1 q1 qf1 F7 HR7 HC7 T2
  have HT2 := Aside0.mk T2b
  clear T2b
  have T2 := HT2
  clear HT2
  have HT := Aside0.mk T7
  clear T7
  have T7 := HT
  clear HT
  have p1 := (blk_cell S2.hX 15)
  simp only [List.getElem?_toArray, List.getElem?_cons_zero, List.getElem?_cons_succ] at p1
  have HS := Aside0.mk S2
  clear S2
  go_upto_region 4 with (go_at_call 41; refine (slices_Clone_int_int.calls A0_15 c0_15 l0_15 l0_15 _ (Kd.C_below HR15.out HS.out.hB) HC15.out F15.out).mono ?_; rintro e_ w1 ⟨v1, rfl, ho, hb⟩; obtain ⟨B15, d15, rfl⟩ := Kd.R_slice ho; have HS1 := Aside0.mk (HS.out.below hb); have HO1 := Aside0.mk (Kd.R_lower ho HS.out.hB.size); have HBn := Aside0.mk hb; have q1 := (blk_cell HS1.out.hX 15); have qf1 := blk_frozen HS1.out.hX 15; simp only [List.getElem?_toArray, List.getElem?_cons_zero, List.getElem?_cons_succ] at q1; clear ho hb)
  have S3 : OwS w (w1.setCell ⟨w.heap.size, 15, none⟩ (.slice B15 l0_15.length d15)) #[.int .i64 a0_0, .int .i64 a0_1, .slice B2 l0_2.length d2, .int .i64 a0_3, .int .i64 a0_4, .int .i64 a0_5, .int .i64 a0_6, .slice B7 l0_7.length d7, .int .i64 a0_8, .int .i64 a0_9, .bool a0_10, .int .i64 a0_11, .int .i64 a0_12, .bool a0_13, .int .i64 a0_14, .slice B15 l0_15.length d15, .int .i64 a0_16, .int .i64 a0_17, .slice A0_18 l0_18.length c0_18] := HS1.out.put 15 (.slice B15 l0_15.length d15) rfl
  have T15 := Kd.R_mono (ok' := fun _ => True) (Kd.R_set HO1.out HS1.out.hX (by decide) 15 (.slice B15 l0_15.length d15)) (fun _ _ => trivial)
  have T2b := Kd.R_mono (Kd.R_set (Kd.R_below T2.out HBn.out) HS1.out.hX (by decide) 15 (.slice B15 l0_15.length d15)) (ok' := fun _ => True) (fun _ _ => trivial)
  have T7b := Kd.R_mono (Kd.R_set (Kd.R_below T7.out HBn.out) HS1.out.hX (by decide) 15 (.slice B15 l0_15.length d15)) (ok' := fun _ => True) (fun _ _ => trivial)
  generalize w1.setCell _ _ = W3 at S3 T15 T2b T7b ⊢
  clear HS HS1 HO1 HBn p1 q1 qf1 F15 HR15 HC15 T2 T7
  have HT2 := Aside0.mk T2b
  clear T2b
  have T2 := HT2
  clear HT2
  have HT7 := Aside0.mk T7b
  clear T7b
  have T7 := HT7
  clear HT7
  have HT := Aside0.mk T15
  clear T15
  have T15 := HT
  clear HT
  have p1 := (blk_cell S3.hX 18)
  simp only [List.getElem?_toArray, List.getElem?_cons_zero, List.getElem?_cons_succ] at p1
  have HS := Aside0.mk S3
  clear S3
  go_upto_region 5 with (go_at_call 42; refine (api_Mark.calls A0_18 c0_18 l0_18 l0_18 _ (Kd.C_below HR18.out HS.out.hB) HC18.out F18.out).mono ?_; rintro e_ w1 ⟨v1, rfl, ho, hb⟩; obtain ⟨B18, d18, rfl⟩ := Kd.R_slice ho; have HS1 := Aside0.mk (HS.out.below hb); have HO1 := Aside0.mk (Kd.R_lower ho HS.out.hB.size); have HBn := Aside0.mk hb; have q1 := (blk_cell HS1.out.hX 18); have qf1 := blk_frozen HS1.out.hX 18; simp only [List.getElem?_toArray, List.getElem?_cons_zero, List.getElem?_cons_succ] at q1; clear ho hb)
  have S4 : OwS w (w1.setCell ⟨w.heap.size, 18, none⟩ (.slice B18 l0_18.length d18)) #[.int .i64 a0_0, .int .i64 a0_1, .slice B2 l0_2.length d2, .int .i64 a0_3, .int .i64 a0_4, .int .i64 a0_5, .int .i64 a0_6, .slice B7 l0_7.length d7, .int .i64 a0_8, .int .i64 a0_9, .bool a0_10, .int .i64 a0_11, .int .i64 a0_12, .bool a0_13, .int .i64 a0_14, .slice B15 l0_15.length d15, .int .i64 a0_16, .int .i64 a0_17, .slice B18 l0_18.length d18] := HS1.out.put 18 (.slice B18 l0_18.length d18) rfl
  have T18 := Kd.R_mono (ok' := fun _ => True) (Kd.R_set HO1.out HS1.out.hX (by decide) 18 (.slice B18 l0_18.length d18)) (fun _ _ => trivial)
  have T2b := Kd.R_mono (Kd.R_set (Kd.R_below T2.out HBn.out) HS1.out.hX (by decide) 18 (.slice B18 l0_18.length d18)) (ok' := fun _ => True) (fun _ _ => trivial)
  have T7b := Kd.R_mono (Kd.R_set (Kd.R_below T7.out HBn.out) HS1.out.hX (by decide) 18 (.slice B18 l0_18.length d18)) (ok' := fun _ => True) (fun _ _ => trivial)
  have T15b := Kd.R_mono (Kd.R_set (Kd.R_below T15.out HBn.out) HS1.out.hX (by decide) 18 (.slice B18 l0_18.length d18)) (ok' := fun _ => True) (fun _ _ => trivial)
  generalize w1.setCell _ _ = W4 at S4 T18 T2b T7b T15b ⊢
  clear HS HS1 HO1 HBn p1 q1 qf1 F18 HR18 HC18 T2 T7 T15
  have HT2 := Aside0.mk T2b
  clear T2b
  have T2 := HT2
  clear HT2
  have HT7 := Aside0.mk T7b
  clear T7b
  have T7 := HT7
  clear HT7
  have HT15 := Aside0.mk T15b
  clear T15b
  have T15 := HT15
  clear HT15
  have HT := Aside0.mk T18
  clear T18
  have T18 := HT
  clear HT
  obtain ⟨cs, hcs⟩ : ∃ cs : Array Value, cs = #[.int .i64 a0_0, .int .i64 a0_1, .slice B2 l0_2.length d2, .int .i64 a0_3, .int .i64 a0_4, .int .i64 a0_5, .int .i64 a0_6, .slice B7 l0_7.length d7, .int .i64 a0_8, .int .i64 a0_9, .bool a0_10, .int .i64 a0_11, .int .i64 a0_12, .bool a0_13, .int .i64 a0_14, .slice B15 l0_15.length d15, .int .i64 a0_16, .int .i64 a0_17, .slice B18 l0_18.length d18] := ⟨_, rfl⟩
  rw [← hcs] at S4
  have hsz : cs.size = 19 := by rw [hcs]; rfl
  have hinfo : (Try.prog.info? 37).map (·.size) = some cs.size := by rw [hsz]; kernel_rfl
  have h1c : ∀ v ∈ cs.toList, v.oneCell' = true := by rw [hcs]; intro v hv; simp only [List.mem_cons, List.not_mem_nil, or_false] at hv; rcases hv with rfl | rfl | rfl | rfl | rfl | rfl | rfl | rfl | rfl | rfl | rfl | rfl | rfl | rfl | rfl | rfl | rfl | rfl | rfl <;> rfl
  have cp := cp_row (P := Try.prog) S4.hY (by rw [hsz]; rfl) h1c
  have hst := cp.1
  have HS := Aside0.mk S4
  have HCP := Aside0.mk cp.2.1
  have HI := Aside0.mk hinfo
  have HCS := Aside0.mk hcs
  clear S4 cp hinfo hcs h1c
  go_wp2_with ((with_reducible refine gate_dst (N := 25) rfl ?_); refine wpList_load_row rfl 37 (.tmp 1) rfl w.heap.size rfl 37 cs (0, 0) _ HS.out.hX hu1 rfl HI.out ?_)
  have hB := Aside0.mk (below_cells (g := w.heap.size + 1) (vs := cs.toList) HS.out.hB (by omega))
  have U2 := Aside0.mk (Kd.R_cells (vs := cs.toList) T2.out HS.out.hY (by decide))
  have U7 := Aside0.mk (Kd.R_cells (vs := cs.toList) T7.out HS.out.hY (by decide))
  have U15 := Aside0.mk (Kd.R_cells (vs := cs.toList) T15.out HS.out.hY (by decide))
  have U18 := Aside0.mk (Kd.R_cells (vs := cs.toList) T18.out HS.out.hY (by decide))
  generalize W4.setCells _ _ _ = W5 at HCP hB U2 U7 U15 U18 ⊢
  refine bodyPost_ret (results_cell_row rfl _ _ (w.heap.size + 1) 37 cs (0, 0) _ rfl HCP.out hu1 rfl HI.out) rfl ?_
  exact ⟨_, _, _, _, by rw [HCS.out], U2.out, U7.out, U15.out, U18.out, hB.out⟩

end Go.Proofs.Ytefgoffaidjiaaa.PAll
namespace Go.Proofs.Ytefgoffaidjiaaa.PAll
open Go.RowKit Go.Proofs.YtefgoffaidjiaaaW.PrintWords Go.Proofs.YtefgoffaidjiaaaW.PrintLast Go.Proofs.YtefgoffaidjiaaaW.PrintMore
attribute [local go_sem] max2_int min2_int max_two min_two max_three min_three max_four min_four   -- for this text's walks alone
set_option linter.unusedVariables false
set_option linter.unusedSimpArgs false

/-! ### policy_Zero: function 28 -/
def policy_Zero.f (a0_0 : Int) (a0_1 : Int) (l0_2 : List (S56)) (a0_3 : Int) (a0_4 : Int) (a0_5 : Int) (a0_6 : Int) (l0_7 : List (S58)) : Option (Bool) := some (a0_0 == 0)
set_option maxHeartbeats 8000000 in
set_option maxRecDepth 100000 in
theorem policy_Zero.calls (a0_0 : Int) (a0_1 : Int) (A0_2 : Option Addr) (c0_2 : Nat) (l0_2 : List (S56)) (a0_3 : Int) (a0_4 : Int) (a0_5 : Int) (a0_6 : Int) (A0_7 : Option Addr) (c0_7 : Nat) (l0_7 : List (S58)) (r : Bool) (w : World) (hr0_2 : Kd.C k56 w A0_2 l0_2.length l0_2) (hc0_2 : l0_2.length ≤ c0_2) (hr0_7 : Kd.C k58 w A0_7 l0_7.length l0_7) (hc0_7 : l0_7.length ≤ c0_7) (h : policy_Zero.f a0_0 a0_1 l0_2 a0_3 a0_4 a0_5 a0_6 l0_7 = some r) :
    Calls Try.prog 28 #[.agg #[.int .i64 a0_0, .int .i64 a0_1, .slice A0_2 l0_2.length c0_2, .int .i64 a0_3, .int .i64 a0_4, .int .i64 a0_5, .int .i64 a0_6, .slice A0_7 l0_7.length c0_7]] w fun e w' => e = .returned (.bool r) ∧ Below w.heap.size w w' := by
  have hu27 := Try.underlying27
  have HR0_2 := Aside0.mk hr0_2
  have HC0_2 := Aside0.mk hc0_2
  clear hr0_2 hc0_2
  have HR0_7 := Aside0.mk hr0_7
  have HC0_7 := Aside0.mk hc0_7
  clear hr0_7 hc0_7
  have HB := Aside0.mk (Below.refl w.heap.size w)
  have H : (some (a0_0 == 0)) = some r := h
  clear h
  obtain rfl := Option.some.inj H
  go_enter Try.func28, Try.ntmps28
  go_wp2_with (first | ((with_reducible refine gate_dst (N := 1) rfl ?_); refine box_event ?hg (N := 1) ?hd (cs := #[.int .i64 a0_0, .int .i64 a0_1, .slice A0_2 l0_2.length c0_2, .int .i64 a0_3, .int .i64 a0_4, .int .i64 a0_5, .int .i64 a0_6, .slice A0_7 l0_7.length c0_7]) (t := 27) ?hr ?_; (case hd => rfl); (case hg => rfl); (case hr => first | (go_simp; done) | (go_simp; rfl)); intro gb101 hg w2 hbox hb; have n0_ := Aside0.mk (below_step (by repeat (first | (with_reducible first | exact HB.out | apply below_alloc | apply pw_below_drewN | apply below_drew1) | exact HB.out)) hb); have n1_ := Aside0.mk (hbox); have n2_ := Aside0.mk ((by rw [hg]; exact (below_size (by repeat (first | (with_reducible first | exact HB.out | apply below_alloc | apply pw_below_drewN | apply below_drew1) | exact HB.out))) : w.heap.size ≤ gb101)); have n3_ := Aside0.mk ((by rw [hg]; exact (below_size (by repeat (first | (with_reducible first | exact HB.out | apply below_alloc | apply pw_below_drewN | apply below_drew1) | exact HB.out))) : w.heap.size ≤ gb101)); clear HB; have HB := n0_; have BK101 := n1_; have GW101 := n2_; have GE101 := n3_; clear n0_ n1_ n2_ n3_; clear hb hbox hg; have hcz3_0 : w2.cell? ⟨gb101, 0, none⟩ = some (.int .i64 a0_0) := (blk_cell BK101.out 0).trans rfl; have hcz3_1 : w2.cell? ⟨gb101, 1, none⟩ = some (.int .i64 a0_1) := (blk_cell BK101.out 1).trans rfl; have hcz3_2 : w2.cell? ⟨gb101, 2, none⟩ = some (.slice A0_2 l0_2.length c0_2) := (blk_cell BK101.out 2).trans rfl; have hcz3_3 : w2.cell? ⟨gb101, 3, none⟩ = some (.int .i64 a0_3) := (blk_cell BK101.out 3).trans rfl; have hcz3_4 : w2.cell? ⟨gb101, 4, none⟩ = some (.int .i64 a0_4) := (blk_cell BK101.out 4).trans rfl; have hcz3_5 : w2.cell? ⟨gb101, 5, none⟩ = some (.int .i64 a0_5) := (blk_cell BK101.out 5).trans rfl; have hcz3_6 : w2.cell? ⟨gb101, 6, none⟩ = some (.int .i64 a0_6) := (blk_cell BK101.out 6).trans rfl; have hcz3_7 : w2.cell? ⟨gb101, 7, none⟩ = some (.slice A0_7 l0_7.length c0_7) := (blk_cell BK101.out 7).trans rfl; have hfz3_0 := blk_frozen BK101.out 0; have hfz3_1 := blk_frozen BK101.out 1; have hfz3_2 := blk_frozen BK101.out 2; have hfz3_3 := blk_frozen BK101.out 3; have hfz3_4 := blk_frozen BK101.out 4; have hfz3_5 := blk_frozen BK101.out 5; have hfz3_6 := blk_frozen BK101.out 6; have hfz3_7 := blk_frozen BK101.out 7))
  go_ret
  exact ⟨by first | rfl | (simp [errW_none, errW_some] <;> rfl) | (simp [*, errW_none, errW_some] <;> rfl), by repeat (first | (with_reducible first | exact HB.out | apply below_alloc | apply pw_below_drewN | apply below_drew1 | refine below_set ?_ GE101.out) | exact HB.out)⟩

end Go.Proofs.Ytefgoffaidjiaaa.PAll
