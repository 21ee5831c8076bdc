/- What the laws FleetRow lean on: the contracts of the functions that they reach, part 6 of 6. -/
import Derived.Test.YtefgoffaidjiaaaMrA5
namespace Go.Proofs.Ytefgoffaidjiaaa.PAll
open Go.RowKit Go.Proofs.YtefgoffaidjiaaaW.PrintWords Go.Proofs.YtefgoffaidjiaaaW.PrintLast Go.Proofs.YtefgoffaidjiaaaW.PrintMore
attribute [local go_sem] max2_int min2_int max_two min_two max_three min_three max_four min_four   -- for this text's walks alone
set_option linter.unusedVariables false
set_option linter.unusedSimpArgs false
/-! ### governorref17_Add: function 36 -/
def governorref17_Add.f (a0 : Int) (l1 : List (S52)) (a2_0 : Int) (a2_1 : Bool) : Option ((List (S52))) := (some (([] : List (S52)) : List (S52))).bind fun y228 => (if y228.length + l1.length < 8796093022208 then ((some (y228 ++ l1 : List (S52))).bind fun y231 => ((some (([(⟨a2_0, a2_1⟩ : S52)] : List (S52)) : List (S52))).bind fun y234 => (if y231.length + y234.length < 8796093022208 then ((some (y231 ++ y234 : List (S52))).bind fun y237 => (if 0 ≤ (wrap64 ((y237.length : Int) - (mn (mx a0 0) (y237.length : Int)))) then (if (wrap64 ((y237.length : Int) - (mn (mx a0 0) (y237.length : Int)))) ≤ (y237.length : Int) then (some (y237.drop ((wrap64 ((y237.length : Int) - (mn (mx a0 0) (y237.length : Int)))) : Int).toNat)) else (none)) else (none))) else (none)))) else (none))
set_option maxHeartbeats 8000000 in
set_option maxRecDepth 100000 in
theorem governorref17_Add.calls (a0 : Int) (A1 : Option Addr) (c1 : Nat) (l1 : List (S52)) (a2_0 : Int) (a2_1 : Bool) (r : List (S52)) (w : World) (hr1 : Kd.C k52 w A1 l1.length l1) (hc1 : l1.length ≤ c1) (h : governorref17_Add.f a0 l1 a2_0 a2_1 = some r) :
  Calls Try.prog 36 #[.int .i64 a0, .slice A1 l1.length c1, .agg #[.int .i64 a2_0, .bool a2_1]] w fun e w' => ∃ v0_ : Value, e = .returned (v0_) ∧ Kd.Q k52 52 w' w.heap.size (fun _ => True) v0_ r ∧ Below w.heap.size w w' := by
 have hu52 := Try.underlying52
 have HR1 := Aside0.mk hr1
 have HC1 := Aside0.mk hc1
 clear hr1 hc1
 have HB := Aside0.mk (Below.refl w.heap.size w)
 have H : ((some (([] : List (S52)) : List (S52))).bind fun y228 => (if y228.length + l1.length < 8796093022208 then ((some (y228 ++ l1 : List (S52))).bind fun y231 => ((some (([(⟨a2_0, a2_1⟩ : S52)] : List (S52)) : List (S52))).bind fun y234 => (if y231.length + y234.length < 8796093022208 then ((some (y231 ++ y234 : List (S52))).bind fun y237 => (if 0 ≤ (wrap64 ((y237.length : Int) - (mn (mx a0 0) (y237.length : Int)))) then (if (wrap64 ((y237.length : Int) - (mn (mx a0 0) (y237.length : Int)))) ≤ (y237.length : Int) then (some (y237.drop ((wrap64 ((y237.length : Int) - (mn (mx a0 0) (y237.length : Int)))) : Int).toNat)) else (none)) else (none))) else (none)))) else (none))) = some r := h
 clear h
 obtain ⟨y228, hy228⟩ : ∃ y_ : List (S52), y_ = (([] : List (S52))) := ⟨_, rfl⟩
 replace H : (if y228.length + l1.length < 8796093022208 then ((some (y228 ++ l1 : List (S52))).bind fun y231 => ((some (([(⟨a2_0, a2_1⟩ : S52)] : List (S52)) : List (S52))).bind fun y234 => (if y231.length + y234.length < 8796093022208 then ((some (y231 ++ y234 : List (S52))).bind fun y237 => (if 0 ≤ (wrap64 ((y237.length : Int) - (mn (mx a0 0) (y237.length : Int)))) then (if (wrap64 ((y237.length : Int) - (mn (mx a0 0) (y237.length : Int)))) ≤ (y237.length : Int) then (some (y237.drop ((wrap64 ((y237.length : Int) - (mn (mx a0 0) (y237.length : Int)))) : Int).toNat)) else (none)) else (none))) else (none)))) else (none)) = some r := by first | (rw [hy228]; with_reducible exact H) | (have H2_ := (Option.bind_some _ _).symm.trans H; rw [hy228]; with_reducible exact H2_) | (have H2_ := (Option.bind_some _ _).symm.trans H; with_reducible exact H2_) | with_reducible exact H | (rw [hy228]; exact H) | exact H
 have Ny228 := Aside0.mk hy228
 clear hy228
 by_cases c4 : y228.length + l1.length < 8796093022208
 ·rw [if_pos c4] at H
  have LMc4 := Aside0.mk c4
  clear c4
  obtain ⟨y231, hy231⟩ : ∃ y_ : List (S52), y_ = (y228 ++ l1) := ⟨_, rfl⟩
  replace H : ((some (([(⟨a2_0, a2_1⟩ : S52)] : List (S52)) : List (S52))).bind fun y234 => (if y231.length + y234.length < 8796093022208 then ((some (y231 ++ y234 : List (S52))).bind fun y237 => (if 0 ≤ (wrap64 ((y237.length : Int) - (mn (mx a0 0) (y237.length : Int)))) then (if (wrap64 ((y237.length : Int) - (mn (mx a0 0) (y237.length : Int)))) ≤ (y237.length : Int) then (some (y237.drop ((wrap64 ((y237.length : Int) - (mn (mx a0 0) (y237.length : Int)))) : Int).toNat)) else (none)) else (none))) else (none))) = some r := by first | (rw [hy231]; with_reducible exact H) | (have H2_ := (Option.bind_some _ _).symm.trans H; rw [hy231]; with_reducible exact H2_) | (have H2_ := (Option.bind_some _ _).symm.trans H; with_reducible exact H2_) | with_reducible exact H | (rw [hy231]; exact H) | exact H
  have Ny231 := Aside0.mk hy231
  clear hy231
  obtain ⟨y234, hy234⟩ : ∃ y_ : List (S52), y_ = (([(⟨a2_0, a2_1⟩ : S52)] : List (S52))) := ⟨_, rfl⟩
  replace H : (if y231.length + y234.length < 8796093022208 then ((some (y231 ++ y234 : List (S52))).bind fun y237 => (if 0 ≤ (wrap64 ((y237.length : Int) - (mn (mx a0 0) (y237.length : Int)))) then (if (wrap64 ((y237.length : Int) - (mn (mx a0 0) (y237.length : Int)))) ≤ (y237.length : Int) then (some (y237.drop ((wrap64 ((y237.length : Int) - (mn (mx a0 0) (y237.length : Int)))) : Int).toNat)) else (none)) else (none))) else (none)) = some r := by first | (rw [hy234]; with_reducible exact H) | (have H2_ := (Option.bind_some _ _).symm.trans H; rw [hy234]; with_reducible exact H2_) | (have H2_ := (Option.bind_some _ _).symm.trans H; with_reducible exact H2_) | with_reducible exact H | (rw [hy234]; exact H) | exact H
  have Ny234 := Aside0.mk hy234
  clear hy234
  by_cases c5 : y231.length + y234.length < 8796093022208
  ·rw [if_pos c5] at H
   have LMc5 := Aside0.mk c5
   clear c5
   obtain ⟨y237, hy237⟩ : ∃ y_ : List (S52), y_ = (y231 ++ y234) := ⟨_, rfl⟩
   replace H : (if 0 ≤ (wrap64 ((y237.length : Int) - (mn (mx a0 0) (y237.length : Int)))) then (if (wrap64 ((y237.length : Int) - (mn (mx a0 0) (y237.length : Int)))) ≤ (y237.length : Int) then (some (y237.drop ((wrap64 ((y237.length : Int) - (mn (mx a0 0) (y237.length : Int)))) : Int).toNat)) else (none)) else (none)) = some r := by first | (rw [hy237]; with_reducible exact H) | (have H2_ := (Option.bind_some _ _).symm.trans H; rw [hy237]; with_reducible exact H2_) | (have H2_ := (Option.bind_some _ _).symm.trans H; with_reducible exact H2_) | with_reducible exact H | (rw [hy237]; exact H) | exact H
   have Ny237 := Aside0.mk hy237
   clear hy237
   obtain ⟨ji6, hji6⟩ : ∃ j_ : Int, (mx a0 0) = j_ := ⟨_, rfl⟩
   replace H : (if 0 ≤ (wrap64 ((y237.length : Int) - (mn (ji6) (y237.length : Int)))) then (if (wrap64 ((y237.length : Int) - (mn (ji6) (y237.length : Int)))) ≤ (y237.length : Int) then (some (y237.drop ((wrap64 ((y237.length : Int) - (mn (ji6) (y237.length : Int)))) : Int).toNat)) else (none)) else (none)) = some r := by first | (rw [hji6] at H; exact H) | (simp only [hji6] at H ⊢; exact H)
   (try (have hji6l : 0 ≤ ji6 := by (rw [← hji6]; unfold mx; (repeat' split) <;> omega)))
   (try (have hji6m : 0 ≤ ji6 := by omega))
   have hji6_ : (if a0 < 0 then 0 else a0) = ji6 := hji6
   obtain ⟨ji7, hji7⟩ : ∃ j_ : Int, (mn (ji6) (y237.length : Int)) = j_ := ⟨_, rfl⟩
   replace H : (if 0 ≤ (wrap64 ((y237.length : Int) - (ji7))) then (if (wrap64 ((y237.length : Int) - (ji7))) ≤ (y237.length : Int) then (some (y237.drop ((wrap64 ((y237.length : Int) - (ji7))) : Int).toNat)) else (none)) else (none)) = some r := by first | (rw [hji7] at H; exact H) | (simp only [hji7] at H ⊢; exact H)
   have hji7_ : (if (y237.length : Int) < (ji6) then (y237.length : Int) else (ji6)) = ji7 := hji7
   obtain ⟨ji8, hji8⟩ : ∃ j_ : Int, (wrap64 ((y237.length : Int) - (ji7))) = j_ := ⟨_, rfl⟩
   replace H : (if 0 ≤ (ji8) then (if (ji8) ≤ (y237.length : Int) then (some (y237.drop ((ji8) : Int).toNat)) else (none)) else (none)) = some r := by first | (rw [hji8] at H; exact H) | (simp only [hji8] at H ⊢; exact H)
   have hji8w : (IntKind.i64.wrap ((y237.length : Int) - (ji7))) = ji8 := (i64_w _).trans hji8
   by_cases c9 : 0 ≤ (ji8)
   ·rw [if_pos c9] at H
    have c9b0 := eq_true c9
    have c9b1 : decide (0 ≤ (ji8)) = true := decide_eq_true c9
    clear c9
    by_cases c10 : (ji8) ≤ (y237.length : Int)
    ·rw [if_pos c10] at H
     have c10b0 := eq_true c10
     have c10b1 : decide ((ji8) ≤ (y237.length : Int)) = true := decide_eq_true c10
     clear c10
     obtain ⟨y240, hy240⟩ : ∃ y_ : List (S52), y_ = (y237.drop ((ji8) : Int).toNat) := ⟨_, rfl⟩
     replace H : (some y240) = some r := by first | (rw [hy240]; with_reducible exact H) | (have H2_ := (Option.bind_some _ _).symm.trans H; rw [hy240]; with_reducible exact H2_) | (have H2_ := (Option.bind_some _ _).symm.trans H; with_reducible exact H2_) | with_reducible exact H | (rw [hy240]; exact H) | exact H
     have Ny240 := Aside0.mk hy240
     clear hy240
     obtain rfl := Option.some.inj H
     go_enter Try.func36, Try.ntmps36
     try go_wp2_with (first | ((with_reducible refine gate_dst (N := 5) rfl ?_); refine box_event ?hg (N := 5) ?hd (cs := #[.int .i64 a2_0, .bool a2_1]) (t := 52) ?hr ?_; (case hd => rfl); (case hg => rfl); (case hr => first | (go_simp; done) | (go_simp; rfl)); intro gb227 hg w11 hbox hb; have n0_ := Aside0.mk (below_step (by repeat (first | (with_reducible first | exact HB.out | apply below_alloc | apply pw_below_drewN | apply below_drew1) | exact HB.out)) hb); have n1_ := Aside0.mk (hbox); have n2_ := Aside0.mk ((by rw [hg]; exact (below_size (by repeat (first | (with_reducible first | exact HB.out | apply below_alloc | apply pw_below_drewN | apply below_drew1) | exact HB.out))) : w.heap.size ≤ gb227)); have n3_ := Aside0.mk ((by rw [hg]; exact (below_size (by repeat (first | (with_reducible first | exact HB.out | apply below_alloc | apply pw_below_drewN | apply below_drew1) | exact HB.out))) : w.heap.size ≤ gb227)); clear HB; have HB := n0_; have BK227 := n1_; have GW227 := n2_; have GE227 := n3_; clear n0_ n1_ n2_ n3_; clear hb hbox hg))
     have n0_ := Aside0.mk (blk_drew BK227.out)
     have n1_ := Aside0.mk (below_drew1 HB.out)
     clear BK227
     clear HB
     have BK227 := n0_
     have HB := n1_
     clear n0_ n1_
     refine start_ (n := 7) (S := fun w' => w'.cell? ⟨gb227, 0, none⟩ = some (.int .i64 a2_0) ∧ w'.cell? ⟨gb227, 1, none⟩ = some (.bool a2_1)) (ds := []) #[false, false, false, false, false, false, false] (by kernel_rfl) rfl rfl ⟨(blk_cell BK227.out 0).trans rfl, (blk_cell BK227.out 1).trans rfl⟩ (fun hHeld => ?_)
     generalize w11.drew = w12 at BK227 HB hHeld ⊢
     refine pu_ 1 10 #[false, true, false, false, false, false, false] ?_
     refine ta_ 3 12 #[false, true, false, true, false, false, false] hHeld (v := ?_) ?_ ?_
     rotate_left
     ·rintro w' ⟨s0, s1⟩
      go_simp
      with_reducible rfl
     refine join_ (σ := Value × Value × Value) 2 #[true, true, true, true, true, false, false] (fun s_ => [(9, s_.1), (11, s_.2.1), (13, s_.2.2)]) (fun s_ w' => (w'.cell? ⟨gb227, 0, none⟩ = some (.int .i64 a2_0) ∧ w'.cell? ⟨gb227, 1, none⟩ = some (.bool a2_1)) ∧ (Kd.R k52 52 w' w.heap.size (fun k_ => some k_ ≠ (s_.2.2 : Value).ownBlock ∧ k_ ≠ gb227) s_.2.1 y231) ∧ (Kd.R k52 52 w' w.heap.size (fun k_ => some k_ ≠ (s_.2.1 : Value).ownBlock ∧ k_ ≠ gb227) s_.2.2 y234) ∧ (w'.heap[gb227]? = some (.cells #[.int .i64 a2_0, .bool a2_1] 52 (0, 0))) ∧ (Below w.heap.size w w')) ?_ ?_
     rotate_left
     ·intro hCont
      refine two_ (i := 0) (j := 4) (Ni := some 9) (Nj := some 13) #[true, true, false, true, false, false, false] #[false, true, false, true, true, false, false] rfl rfl rfl rfl (by kernel_rfl) (by decide) (by decide) (fun K hK => ?_) (fun K hK => ?_)
      ·skip
       refine Kd.R_lit_step k52 _ 52 ?hg (N := 9) ?hd (xs := ([] : List (S52))) (inner := []) (ok := fun _ => True) (okp := fun _ => True) ?hr ?hp (fun _ hk => hk) trivial (Below.refl _ _) (Nat.le_refl _) (by simp) ?_; (case hd => rfl); (case hg => rfl); (case hr => first | (go_simp; done) | (go_simp; rfl)); (case hp => exact (Reps.none _ _))
       intro v229 w13 ho14 hb hg_ hnew_
       clear hg_ hnew_
       (first | rw [← Ny228.out] at ho14 | (simp only [Int.reduceToNat] at ho14; rw [← Ny228.out] at ho14))
       have n0_ := Aside0.mk (Kd.R_lower (Kd.R_newB ho14 (g := gb227) (o := .cells #[.int .i64 a2_0, .bool a2_1] 52 (0, 0)) (by (with_reducible repeat (first | refine blk_drewN ?_ _ | refine blk_drew ?_ | refine blk_alloc ?_ _)); exact BK227.out)) (below_size (by repeat (first | (with_reducible first | exact HB.out | apply below_alloc | apply pw_below_drewN | apply below_drew1 | refine below_set ?_ GE227.out) | exact HB.out))))
       have n1_ := Aside0.mk (blk_below (g := gb227) (o := .cells #[.int .i64 a2_0, .bool a2_1] 52 (0, 0)) (by (with_reducible repeat (first | refine blk_drewN ?_ _ | refine blk_drew ?_ | refine blk_alloc ?_ _)); exact BK227.out) hb)
       have n2_ := Aside0.mk (below_step (by repeat (first | (with_reducible first | exact HB.out | apply below_alloc | apply pw_below_drewN | apply below_drew1 | refine below_set ?_ GE227.out) | exact HB.out)) hb)
       clear BK227
       clear HB
       have HO230 := n0_
       have BK227 := n1_
       have HB := n2_
       clear n0_ n1_ n2_
       clear hb ho14
       refine hK.out _ _ ⟨(blk_cell BK227.out 0).trans rfl, (blk_cell BK227.out 1).trans rfl⟩ (fun hHeld => ?_)
       clear hK K
       refine no_ 9 ?_
       refine two_ (i := 2) (j := 4) (Ni := some 11) (Nj := some 13) #[true, true, true, true, false, false, false] #[true, true, false, true, true, false, false] rfl rfl rfl rfl (by kernel_rfl) (by decide) (by decide) (fun K hK => ?_) (fun K hK => ?_)
       ·skip
        refine Kd.R_append_rows_step k52 (w0 := w) w.heap.size (by rfl) (.tmp 9) (.tmp 10) 35 52 (.agg #[(.int .i64 0), (.bool false)]) 16 rfl Try.underlying35 info52 rfl (by decide) (by omega) v229 y228 l1 _ _ _ (fun k_ => k_ ≠ gb227) (fun _ => False) rfl rfl ?aO ?aR (fun _ _ h => h) (fun _ h => h.elim) ?aF ?aB ?aS ?aL ?_
        (case aR => repeat (first | exact (Kd.C_below HR1.out HB.out) | (with_reducible refine Kd.C_alloc ?_ _) | (with_reducible refine Kd.C_drewN ?_ _) | (with_reducible refine Kd.C_drew ?_)))
        (case aB => exact (by repeat (first | (with_reducible first | exact HB.out | apply below_alloc | apply pw_below_drewN | apply below_drew1 | refine below_set ?_ GE227.out) | exact HB.out)))
        (case aF => exact (fun k_ hk => Kd.freshB (g := gb227) (o := .cells #[.int .i64 a2_0, .bool a2_1] 52 (0, 0)) (by (with_reducible repeat (first | refine blk_drewN ?_ _ | refine blk_drew ?_ | refine blk_alloc ?_ _)); exact BK227.out) k_ hk))
        (case aO => exact (by (with_reducible repeat (first | apply Kd.R_alloc | apply Kd.R_drewN | apply Kd.R_drew)); exact Kd.R_mono HO230.out (fun _ hk => hk.2)))
        (case aS => exact (below_size (by repeat (first | (with_reducible first | exact HB.out | apply below_alloc | apply pw_below_drewN | apply below_drew1 | refine below_set ?_ GE227.out) | exact HB.out))))
        (case aL => have := LMc4.out; omega)
        intro v232 w15 ho hb hg hat
        rw [← Ny231.out] at ho
        have n0_ := Aside0.mk (blk_grown (g := gb227) (o := .cells #[.int .i64 a2_0, .bool a2_1] 52 (0, 0)) (by (with_reducible repeat (first | refine blk_drewN ?_ _ | refine blk_drew ?_ | refine blk_alloc ?_ _)); exact BK227.out) hg (Kd.R_away HO230.out (fun _ hk => hk.2)))
        have n1_ := Aside0.mk (hb)
        have n2_ := Aside0.mk (ho)
        clear BK227
        clear HB
        clear HO230
        have BK227 := n0_
        have HB := n1_
        have HO233 := n2_
        clear n0_ n1_ n2_
        clear ho hb hg hat
        refine hK.out _ _ ⟨(blk_cell BK227.out 0).trans rfl, (blk_cell BK227.out 1).trans rfl⟩ (fun hHeld => ?_)
        clear hK K
        refine no_ 11 ?_
        refine one_ (i := 4) (N := some 13) #[true, true, true, true, true, false, false] rfl rfl (by kernel_rfl) (by decide) (fun K hK => ?_)
        refine Kd.R_lit_step k52 _ 52 ?hg (N := 13) ?hd (xs := ([(⟨a2_0, a2_1⟩ : S52)] : List (S52))) (inner := [.int .i64 a2_0, .bool a2_1]) (ok := fun _ => True) (okp := fun _ => True) ?hr ?hp (fun _ hk => hk) trivial (Below.refl _ _) (Nat.le_refl _) (by simp) ?_; (case hd => rfl); (case hg => rfl); (case hr => first | (go_simp; done) | (go_simp; rfl)); (case hp => exact (Reps.c2 (show Kd.M k52 _ _ _ (⟨a2_0, a2_1⟩ : S52) [.int .i64 a2_0, .bool a2_1] from (k52_mkM _ _ _ (⟨a2_0, a2_1⟩ : S52) )) (Reps.none _ _)))
        intro v235 w16 ho17 hb hg_ hnew_
        clear hg_ hnew_
        (first | rw [← Ny234.out] at ho17 | (simp only [Int.reduceToNat] at ho17; rw [← Ny234.out] at ho17))
        have n0_ := Aside0.mk (Kd.R_elder' (by (with_reducible repeat (first | apply Kd.R_alloc | apply Kd.R_drewN | apply Kd.R_drew)); exact HO233.out) (Kd.R_base ho17) hb)
        have n1_ := Aside0.mk (Kd.R_lower (Kd.R_newB (Kd.R_new' ho17 (Kd.R_lt (by (with_reducible repeat (first | apply Kd.R_alloc | apply Kd.R_drewN | apply Kd.R_drew)); exact HO233.out))) (g := gb227) (o := .cells #[.int .i64 a2_0, .bool a2_1] 52 (0, 0)) (by (with_reducible repeat (first | refine blk_drewN ?_ _ | refine blk_drew ?_ | refine blk_alloc ?_ _)); exact BK227.out)) (below_size (by repeat (first | (with_reducible first | exact HB.out | apply below_alloc | apply pw_below_drewN | apply below_drew1 | refine below_set ?_ GE227.out) | exact HB.out))))
        have n2_ := Aside0.mk (blk_below (g := gb227) (o := .cells #[.int .i64 a2_0, .bool a2_1] 52 (0, 0)) (by (with_reducible repeat (first | refine blk_drewN ?_ _ | refine blk_drew ?_ | refine blk_alloc ?_ _)); exact BK227.out) hb)
        have n3_ := Aside0.mk (below_step (by repeat (first | (with_reducible first | exact HB.out | apply below_alloc | apply pw_below_drewN | apply below_drew1 | refine below_set ?_ GE227.out) | exact HB.out)) hb)
        clear HO233
        clear BK227
        clear HB
        have HO233 := n0_
        have HO236 := n1_
        have BK227 := n2_
        have HB := n3_
        clear n0_ n1_ n2_ n3_
        clear hb ho17
        refine hK.out _ _ ⟨(blk_cell BK227.out 0).trans rfl, (blk_cell BK227.out 1).trans rfl⟩ (fun hHeld => ?_)
        clear hK K
        refine no_ 13 ?_
        exact norm_ (by simp only [putAll, Act.put, List.setIfInBounds_toArray, List.set_cons_zero, List.set_cons_succ]) (hCont (v229, v232, v235) _ ⟨hHeld, (by (with_reducible repeat (first | apply Kd.R_alloc | apply Kd.R_drewN | apply Kd.R_drew)); exact Kd.R_mono HO233.out (fun _ hk => ⟨hk.2, hk.1⟩)), (by (with_reducible repeat (first | apply Kd.R_alloc | apply Kd.R_drewN | apply Kd.R_drew)); exact Kd.R_mono HO236.out (fun _ hk => ⟨hk.1.2, hk.2⟩)), (by (with_reducible repeat (first | refine blk_drewN ?_ _ | refine blk_drew ?_ | refine blk_alloc ?_ _)); exact BK227.out), (by repeat (first | (with_reducible first | exact HB.out | apply below_alloc | apply pw_below_drewN | apply below_drew1 | refine below_set ?_ GE227.out) | exact HB.out))⟩)
       ·skip
        refine Kd.R_lit_step k52 _ 52 ?hg (N := 13) ?hd (xs := ([(⟨a2_0, a2_1⟩ : S52)] : List (S52))) (inner := [.int .i64 a2_0, .bool a2_1]) (ok := fun _ => True) (okp := fun _ => True) ?hr ?hp (fun _ hk => hk) trivial (Below.refl _ _) (Nat.le_refl _) (by simp) ?_; (case hd => rfl); (case hg => rfl); (case hr => first | (go_simp; done) | (go_simp; rfl)); (case hp => exact (Reps.c2 (show Kd.M k52 _ _ _ (⟨a2_0, a2_1⟩ : S52) [.int .i64 a2_0, .bool a2_1] from (k52_mkM _ _ _ (⟨a2_0, a2_1⟩ : S52) )) (Reps.none _ _)))
        intro v235 w15 ho16 hb hg_ hnew_
        clear hg_ hnew_
        (first | rw [← Ny234.out] at ho16 | (simp only [Int.reduceToNat] at ho16; rw [← Ny234.out] at ho16))
        have n0_ := Aside0.mk (Kd.R_elder' (by (with_reducible repeat (first | apply Kd.R_alloc | apply Kd.R_drewN | apply Kd.R_drew)); exact HO230.out) (Kd.R_base ho16) hb)
        have n1_ := Aside0.mk (Kd.R_lower (Kd.R_newB (Kd.R_new' ho16 (Kd.R_lt (by (with_reducible repeat (first | apply Kd.R_alloc | apply Kd.R_drewN | apply Kd.R_drew)); exact HO230.out))) (g := gb227) (o := .cells #[.int .i64 a2_0, .bool a2_1] 52 (0, 0)) (by (with_reducible repeat (first | refine blk_drewN ?_ _ | refine blk_drew ?_ | refine blk_alloc ?_ _)); exact BK227.out)) (below_size (by repeat (first | (with_reducible first | exact HB.out | apply below_alloc | apply pw_below_drewN | apply below_drew1 | refine below_set ?_ GE227.out) | exact HB.out))))
        have n2_ := Aside0.mk (blk_below (g := gb227) (o := .cells #[.int .i64 a2_0, .bool a2_1] 52 (0, 0)) (by (with_reducible repeat (first | refine blk_drewN ?_ _ | refine blk_drew ?_ | refine blk_alloc ?_ _)); exact BK227.out) hb)
        have n3_ := Aside0.mk (below_step (by repeat (first | (with_reducible first | exact HB.out | apply below_alloc | apply pw_below_drewN | apply below_drew1 | refine below_set ?_ GE227.out) | exact HB.out)) hb)
        clear HO230
        clear BK227
        clear HB
        have HO230 := n0_
        have HO236 := n1_
        have BK227 := n2_
        have HB := n3_
        clear n0_ n1_ n2_ n3_
        clear hb ho16
        refine hK.out _ _ ⟨(blk_cell BK227.out 0).trans rfl, (blk_cell BK227.out 1).trans rfl⟩ (fun hHeld => ?_)
        clear hK K
        refine no_ 13 ?_
        refine one_ (i := 2) (N := some 11) #[true, true, true, true, true, false, false] rfl rfl (by kernel_rfl) (by decide) (fun K hK => ?_)
        refine Kd.R_append_rows_step k52 (w0 := w) w.heap.size (by rfl) (.tmp 9) (.tmp 10) 35 52 (.agg #[(.int .i64 0), (.bool false)]) 16 rfl Try.underlying35 info52 rfl (by decide) (by omega) v229 y228 l1 _ _ _ (fun k_ => some k_ ≠ (v235 : Value).ownBlock ∧ k_ ≠ gb227) (fun _ => False) rfl rfl ?aO ?aR (fun _ _ h => h) (fun _ h => h.elim) ?aF ?aB ?aS ?aL ?_
        (case aR => repeat (first | exact (Kd.C_below HR1.out HB.out) | (with_reducible refine Kd.C_alloc ?_ _) | (with_reducible refine Kd.C_drewN ?_ _) | (with_reducible refine Kd.C_drew ?_)))
        (case aB => exact (by repeat (first | (with_reducible first | exact HB.out | apply below_alloc | apply pw_below_drewN | apply below_drew1 | refine below_set ?_ GE227.out) | exact HB.out)))
        (case aF => exact (fun k_ hk => ⟨Kd.fresh' (Kd.R_lt (by (with_reducible repeat (first | apply Kd.R_alloc | apply Kd.R_drewN | apply Kd.R_drew)); exact HO236.out)) k_ hk, Kd.freshB (g := gb227) (o := .cells #[.int .i64 a2_0, .bool a2_1] 52 (0, 0)) (by (with_reducible repeat (first | refine blk_drewN ?_ _ | refine blk_drew ?_ | refine blk_alloc ?_ _)); exact BK227.out) k_ hk⟩))
        (case aO => exact (by (with_reducible repeat (first | apply Kd.R_alloc | apply Kd.R_drewN | apply Kd.R_drew)); exact Kd.R_mono HO230.out (fun _ hk => ⟨hk.2, hk.1.2⟩)))
        (case aS => exact (below_size (by repeat (first | (with_reducible first | exact HB.out | apply below_alloc | apply pw_below_drewN | apply below_drew1 | refine below_set ?_ GE227.out) | exact HB.out))))
        (case aL => have := LMc4.out; omega)
        intro v232 w17 ho hb hg hat
        rw [← Ny231.out] at ho
        have n0_ := Aside0.mk (blk_grown (g := gb227) (o := .cells #[.int .i64 a2_0, .bool a2_1] 52 (0, 0)) (by (with_reducible repeat (first | refine blk_drewN ?_ _ | refine blk_drew ?_ | refine blk_alloc ?_ _)); exact BK227.out) hg (Kd.R_away HO230.out (fun _ hk => hk.1.2)))
        have n1_ := Aside0.mk (Kd.R_after (ok := (fun k_ => k_ ≠ gb227)) (by (with_reducible repeat (first | apply Kd.R_alloc | apply Kd.R_drewN | apply Kd.R_drew)); exact Kd.R_mono HO236.out (fun _ hk => ⟨hk.2, hk.1.2⟩)) hg hat)
        have n2_ := Aside0.mk (hb)
        have n3_ := Aside0.mk (ho)
        clear BK227
        clear HO236
        clear HB
        clear HO230
        have BK227 := n0_
        have HO236 := n1_
        have HB := n2_
        have HO233 := n3_
        clear n0_ n1_ n2_ n3_
        clear ho hb hg hat
        refine hK.out _ _ ⟨(blk_cell BK227.out 0).trans rfl, (blk_cell BK227.out 1).trans rfl⟩ (fun hHeld => ?_)
        clear hK K
        refine no_ 11 ?_
        exact norm_ (by simp only [putAll, Act.put, List.setIfInBounds_toArray, List.set_cons_zero, List.set_cons_succ]) (hCont (v229, v232, v235) _ ⟨hHeld, (by (with_reducible repeat (first | apply Kd.R_alloc | apply Kd.R_drewN | apply Kd.R_drew)); exact HO233.out), (by (with_reducible repeat (first | apply Kd.R_alloc | apply Kd.R_drewN | apply Kd.R_drew)); exact Kd.R_mono HO236.out (fun _ hk => ⟨hk.2, hk.1⟩)), (by (with_reducible repeat (first | refine blk_drewN ?_ _ | refine blk_drew ?_ | refine blk_alloc ?_ _)); exact BK227.out), (by repeat (first | (with_reducible first | exact HB.out | apply below_alloc | apply pw_below_drewN | apply below_drew1 | refine below_set ?_ GE227.out) | exact HB.out))⟩)
      ·skip
       refine Kd.R_lit_step k52 _ 52 ?hg (N := 13) ?hd (xs := ([(⟨a2_0, a2_1⟩ : S52)] : List (S52))) (inner := [.int .i64 a2_0, .bool a2_1]) (ok := fun _ => True) (okp := fun _ => True) ?hr ?hp (fun _ hk => hk) trivial (Below.refl _ _) (Nat.le_refl _) (by simp) ?_; (case hd => rfl); (case hg => rfl); (case hr => first | (go_simp; done) | (go_simp; rfl)); (case hp => exact (Reps.c2 (show Kd.M k52 _ _ _ (⟨a2_0, a2_1⟩ : S52) [.int .i64 a2_0, .bool a2_1] from (k52_mkM _ _ _ (⟨a2_0, a2_1⟩ : S52) )) (Reps.none _ _)))
       intro v235 w13 ho14 hb hg_ hnew_
       clear hg_ hnew_
       (first | rw [← Ny234.out] at ho14 | (simp only [Int.reduceToNat] at ho14; rw [← Ny234.out] at ho14))
       have n0_ := Aside0.mk (Kd.R_lower (Kd.R_newB ho14 (g := gb227) (o := .cells #[.int .i64 a2_0, .bool a2_1] 52 (0, 0)) (by (with_reducible repeat (first | refine blk_drewN ?_ _ | refine blk_drew ?_ | refine blk_alloc ?_ _)); exact BK227.out)) (below_size (by repeat (first | (with_reducible first | exact HB.out | apply below_alloc | apply pw_below_drewN | apply below_drew1 | refine below_set ?_ GE227.out) | exact HB.out))))
       have n1_ := Aside0.mk (blk_below (g := gb227) (o := .cells #[.int .i64 a2_0, .bool a2_1] 52 (0, 0)) (by (with_reducible repeat (first | refine blk_drewN ?_ _ | refine blk_drew ?_ | refine blk_alloc ?_ _)); exact BK227.out) hb)
       have n2_ := Aside0.mk (below_step (by repeat (first | (with_reducible first | exact HB.out | apply below_alloc | apply pw_below_drewN | apply below_drew1 | refine below_set ?_ GE227.out) | exact HB.out)) hb)
       clear BK227
       clear HB
       have HO236 := n0_
       have BK227 := n1_
       have HB := n2_
       clear n0_ n1_ n2_
       clear hb ho14
       refine hK.out _ _ ⟨(blk_cell BK227.out 0).trans rfl, (blk_cell BK227.out 1).trans rfl⟩ (fun hHeld => ?_)
       clear hK K
       refine no_ 13 ?_
       refine one_ (i := 0) (N := some 9) #[true, true, false, true, true, false, false] rfl rfl (by kernel_rfl) (by decide) (fun K hK => ?_)
       refine Kd.R_lit_step k52 _ 52 ?hg (N := 9) ?hd (xs := ([] : List (S52))) (inner := []) (ok := fun _ => True) (okp := fun _ => True) ?hr ?hp (fun _ hk => hk) trivial (Below.refl _ _) (Nat.le_refl _) (by simp) ?_; (case hd => rfl); (case hg => rfl); (case hr => first | (go_simp; done) | (go_simp; rfl)); (case hp => exact (Reps.none _ _))
       intro v229 w15 ho16 hb hg_ hnew_
       clear hg_ hnew_
       (first | rw [← Ny228.out] at ho16 | (simp only [Int.reduceToNat] at ho16; rw [← Ny228.out] at ho16))
       have n0_ := Aside0.mk (Kd.R_elder' (by (with_reducible repeat (first | apply Kd.R_alloc | apply Kd.R_drewN | apply Kd.R_drew)); exact HO236.out) (Kd.R_base ho16) hb)
       have n1_ := Aside0.mk (Kd.R_lower (Kd.R_newB (Kd.R_new' ho16 (Kd.R_lt (by (with_reducible repeat (first | apply Kd.R_alloc | apply Kd.R_drewN | apply Kd.R_drew)); exact HO236.out))) (g := gb227) (o := .cells #[.int .i64 a2_0, .bool a2_1] 52 (0, 0)) (by (with_reducible repeat (first | refine blk_drewN ?_ _ | refine blk_drew ?_ | refine blk_alloc ?_ _)); exact BK227.out)) (below_size (by repeat (first | (with_reducible first | exact HB.out | apply below_alloc | apply pw_below_drewN | apply below_drew1 | refine below_set ?_ GE227.out) | exact HB.out))))
       have n2_ := Aside0.mk (blk_below (g := gb227) (o := .cells #[.int .i64 a2_0, .bool a2_1] 52 (0, 0)) (by (with_reducible repeat (first | refine blk_drewN ?_ _ | refine blk_drew ?_ | refine blk_alloc ?_ _)); exact BK227.out) hb)
       have n3_ := Aside0.mk (below_step (by repeat (first | (with_reducible first | exact HB.out | apply below_alloc | apply pw_below_drewN | apply below_drew1 | refine below_set ?_ GE227.out) | exact HB.out)) hb)
       clear HO236
       clear BK227
       clear HB
       have HO236 := n0_
       have HO230 := n1_
       have BK227 := n2_
       have HB := n3_
       clear n0_ n1_ n2_ n3_
       clear hb ho16
       refine hK.out _ _ ⟨(blk_cell BK227.out 0).trans rfl, (blk_cell BK227.out 1).trans rfl⟩ (fun hHeld => ?_)
       clear hK K
       refine no_ 9 ?_
       refine one_ (i := 2) (N := some 11) #[true, true, true, true, true, false, false] rfl rfl (by kernel_rfl) (by decide) (fun K hK => ?_)
       refine Kd.R_append_rows_step k52 (w0 := w) w.heap.size (by rfl) (.tmp 9) (.tmp 10) 35 52 (.agg #[(.int .i64 0), (.bool false)]) 16 rfl Try.underlying35 info52 rfl (by decide) (by omega) v229 y228 l1 _ _ _ (fun k_ => some k_ ≠ (v235 : Value).ownBlock ∧ k_ ≠ gb227) (fun _ => False) rfl rfl ?aO ?aR (fun _ _ h => h) (fun _ h => h.elim) ?aF ?aB ?aS ?aL ?_
       (case aR => repeat (first | exact (Kd.C_below HR1.out HB.out) | (with_reducible refine Kd.C_alloc ?_ _) | (with_reducible refine Kd.C_drewN ?_ _) | (with_reducible refine Kd.C_drew ?_)))
       (case aB => exact (by repeat (first | (with_reducible first | exact HB.out | apply below_alloc | apply pw_below_drewN | apply below_drew1 | refine below_set ?_ GE227.out) | exact HB.out)))
       (case aF => exact (fun k_ hk => ⟨Kd.fresh' (Kd.R_lt (by (with_reducible repeat (first | apply Kd.R_alloc | apply Kd.R_drewN | apply Kd.R_drew)); exact HO236.out)) k_ hk, Kd.freshB (g := gb227) (o := .cells #[.int .i64 a2_0, .bool a2_1] 52 (0, 0)) (by (with_reducible repeat (first | refine blk_drewN ?_ _ | refine blk_drew ?_ | refine blk_alloc ?_ _)); exact BK227.out) k_ hk⟩))
       (case aO => exact (by (with_reducible repeat (first | apply Kd.R_alloc | apply Kd.R_drewN | apply Kd.R_drew)); exact Kd.R_mono HO230.out (fun _ hk => ⟨hk.1.2, hk.2⟩)))
       (case aS => exact (below_size (by repeat (first | (with_reducible first | exact HB.out | apply below_alloc | apply pw_below_drewN | apply below_drew1 | refine below_set ?_ GE227.out) | exact HB.out))))
       (case aL => have := LMc4.out; omega)
       intro v232 w17 ho hb hg hat
       rw [← Ny231.out] at ho
       have n0_ := Aside0.mk (blk_grown (g := gb227) (o := .cells #[.int .i64 a2_0, .bool a2_1] 52 (0, 0)) (by (with_reducible repeat (first | refine blk_drewN ?_ _ | refine blk_drew ?_ | refine blk_alloc ?_ _)); exact BK227.out) hg (Kd.R_away HO230.out (fun _ hk => hk.2)))
       have n1_ := Aside0.mk (Kd.R_after (ok := (fun k_ => k_ ≠ gb227)) (by (with_reducible repeat (first | apply Kd.R_alloc | apply Kd.R_drewN | apply Kd.R_drew)); exact Kd.R_mono HO236.out (fun _ hk => ⟨hk.1.2, hk.2⟩)) hg hat)
       have n2_ := Aside0.mk (hb)
       have n3_ := Aside0.mk (ho)
       clear BK227
       clear HO236
       clear HB
       clear HO230
       have BK227 := n0_
       have HO236 := n1_
       have HB := n2_
       have HO233 := n3_
       clear n0_ n1_ n2_ n3_
       clear ho hb hg hat
       refine hK.out _ _ ⟨(blk_cell BK227.out 0).trans rfl, (blk_cell BK227.out 1).trans rfl⟩ (fun hHeld => ?_)
       clear hK K
       refine no_ 11 ?_
       exact norm_ (by simp only [putAll, Act.put, List.setIfInBounds_toArray, List.set_cons_zero, List.set_cons_succ]) (hCont (v229, v232, v235) _ ⟨hHeld, (by (with_reducible repeat (first | apply Kd.R_alloc | apply Kd.R_drewN | apply Kd.R_drew)); exact HO233.out), (by (with_reducible repeat (first | apply Kd.R_alloc | apply Kd.R_drewN | apply Kd.R_drew)); exact Kd.R_mono HO236.out (fun _ hk => ⟨hk.2, hk.1⟩)), (by (with_reducible repeat (first | refine blk_drewN ?_ _ | refine blk_drew ?_ | refine blk_alloc ?_ _)); exact BK227.out), (by repeat (first | (with_reducible first | exact HB.out | apply below_alloc | apply pw_below_drewN | apply below_drew1 | refine below_set ?_ GE227.out) | exact HB.out))⟩)
     rintro ⟨v229, v232, v235⟩ w18 ⟨hS_, h0_, h1_, h2_, h3_⟩
     have n0_ : Aside0 (Kd.R k52 52 w18 w.heap.size (fun k_ => some k_ ≠ (v235 : Value).ownBlock ∧ k_ ≠ gb227) v232 y231) := ⟨h0_⟩
     have n1_ : Aside0 (Kd.R k52 52 w18 w.heap.size (fun k_ => some k_ ≠ (v232 : Value).ownBlock ∧ k_ ≠ gb227) v235 y234) := ⟨h1_⟩
     have n2_ : Aside0 (w18.heap[gb227]? = some (.cells #[.int .i64 a2_0, .bool a2_1] 52 (0, 0))) := ⟨h2_⟩
     have n3_ : Aside0 (Below w.heap.size w w18) := ⟨h3_⟩
     clear BK227
     clear HB
     clear h0_ h1_ h2_ h3_
     have HO233 := n0_
     have HO236 := n1_
     have BK227 := n2_
     have HB := n3_
     clear n0_ n1_ n2_ n3_
     have hHeld : w18.cell? ⟨gb227, 0, none⟩ = some (.int .i64 a2_0) ∧ w18.cell? ⟨gb227, 1, none⟩ = some (.bool a2_1) := hS_
     obtain ⟨Ao20, co20, eo20⟩ := Kd.R_slice HO236.out
     (first | subst eo20 | (injection eo20 with f1_ f2_ f3_; have f4_ := f1_.symm; have f5_ := f3_.symm; clear f1_ f2_ f3_; subst f4_; subst f5_))
     refine norm_ (a' := ?_) ?_ ?_
     rotate_left
     ·simp only [putAll, Act.put, List.setIfInBounds_toArray, List.set_cons_zero, List.set_cons_succ]
      rfl
     refine one_ (i := 5) (N := some 14) #[true, true, true, true, true, true, false] rfl rfl (by kernel_rfl) (by decide) (fun K hK => ?_)
     refine Kd.R_append_rows_step k52 (w0 := w) w.heap.size (by rfl) (.tmp 11) (.tmp 13) 35 52 (.agg #[(.int .i64 0), (.bool false)]) 16 rfl Try.underlying35 info52 rfl (by decide) (by omega) v232 y231 y234 _ _ _ (fun k_ => some k_ ≠ (.slice Ao20 y234.length co20 : Value).ownBlock ∧ k_ ≠ gb227) (fun _ => False) rfl rfl ?aO ?aR (fun _ _ h => h) (fun _ h => h.elim) ?aF ?aB ?aS ?aL ?_
     (case aR => repeat (first | exact (Kd.R_reads' HO236.out).2.2 | (with_reducible refine Kd.C_alloc ?_ _) | (with_reducible refine Kd.C_drewN ?_ _) | (with_reducible refine Kd.C_drew ?_)))
     (case aB => exact (by repeat (first | (with_reducible first | exact HB.out | apply below_alloc | apply pw_below_drewN | apply below_drew1 | refine below_set ?_ GE227.out) | exact HB.out)))
     (case aF => exact (fun k_ hk => ⟨Kd.fresh' (Kd.R_lt (by (with_reducible repeat (first | apply Kd.R_alloc | apply Kd.R_drewN | apply Kd.R_drew)); exact HO236.out)) k_ hk, Kd.freshB (g := gb227) (o := .cells #[.int .i64 a2_0, .bool a2_1] 52 (0, 0)) (by (with_reducible repeat (first | refine blk_drewN ?_ _ | refine blk_drew ?_ | refine blk_alloc ?_ _)); exact BK227.out) k_ hk⟩))
     (case aO => exact (by (with_reducible repeat (first | apply Kd.R_alloc | apply Kd.R_drewN | apply Kd.R_drew)); exact HO233.out))
     (case aS => exact (below_size (by repeat (first | (with_reducible first | exact HB.out | apply below_alloc | apply pw_below_drewN | apply below_drew1 | refine below_set ?_ GE227.out) | exact HB.out))))
     (case aL => have := LMc5.out; omega)
     intro v238 w19 ho hb hg hat
     rw [← Ny237.out] at ho
     have n0_ := Aside0.mk (blk_grown (g := gb227) (o := .cells #[.int .i64 a2_0, .bool a2_1] 52 (0, 0)) (by (with_reducible repeat (first | refine blk_drewN ?_ _ | refine blk_drew ?_ | refine blk_alloc ?_ _)); exact BK227.out) hg (Kd.R_away HO233.out (fun _ hk => hk.2)))
     have n1_ := Aside0.mk (Kd.R_after (ok := (fun k_ => k_ ≠ gb227)) (by (with_reducible repeat (first | apply Kd.R_alloc | apply Kd.R_drewN | apply Kd.R_drew)); exact Kd.R_mono HO236.out (fun _ hk => ⟨hk.2, hk.1⟩)) hg hat)
     have n2_ := Aside0.mk (hb)
     have n3_ := Aside0.mk (ho)
     clear BK227
     clear HO236
     clear HB
     clear HO233
     have BK227 := n0_
     have HO236 := n1_
     have HB := n2_
     have HO239 := n3_
     clear n0_ n1_ n2_ n3_
     clear ho hb hg hat
     refine hK.out _ _ ⟨(blk_cell BK227.out 0).trans rfl, (blk_cell BK227.out 1).trans rfl⟩ (fun hHeld => ?_)
     clear hK K
     refine no_ 14 ?_
     refine pu_ 6 7 #[true, true, true, true, true, true, true] ?_
     refine done_ (by kernel_rfl) ?_
     obtain ⟨Ao21, co21, eo21⟩ := Kd.R_slice HO239.out
     subst eo21
     have q22 : ((ji8) : Int) ≤ ((y237.length : Int) : Int) := of_decide_eq_true (by first | (with_reducible assumption) | assumption)
     obtain ⟨i022, hi022, _, hsz22, _⟩ := info_parts info52
     have hcut22 := cut_from (P := Try.prog) 35 52 .i64 Try.underlying35 hi022 2 hsz22 Ao21 y237.length co21 (ji8) (of_decide_eq_true (by first | (with_reducible assumption) | assumption)) q22
     have hr22 := Kd.Q_drop (k := ((ji8) : Int).toNat) (Kd.Q_of_R HO239.out) (by omega)
     obtain ⟨A22, hA22⟩ : ∃ A1, A1 = (if co21 = ((ji8) : Int).toNat then Ao21 else (Ao21 : Option Addr).map (·.add (((ji8) : Int).toNat * 2))) := ⟨_, rfl⟩
     obtain ⟨c22, hc22⟩ : ∃ c1, c1 = co21 - ((ji8) : Int).toNat := ⟨_, rfl⟩
     have hy22 : y240.length = y237.length - ((ji8) : Int).toNat := (by rw [Ny240.out, List.length_drop])
     rw [← Ny240.out] at hr22
     rw [← hy22, ← hA22, ← hc22] at hcut22
     replace hr22 : Kd.Q k52 52 w19 w.heap.size (fun k_ => some k_ ≠ (.slice Ao20 y234.length co20 : Value).ownBlock ∧ k_ ≠ gb227) (.slice A22 y240.length c22) y240 := (by rw [hA22, hc22, hy22]; exact hr22)
     have HE22 : Aside0 ((Value.slice A22 y240.length c22).ownBlock = (.slice Ao21 y237.length co21 : Value).ownBlock) := ⟨by rw [hA22]; split <;> (cases (Ao21 : Option Addr) <;> first | rfl | (simp [Value.ownBlock]; unfold Addr.add; split <;> rfl))⟩
     clear hy22 hi022 hsz22 HO239 hA22 hc22
     have HO242 := Aside0.mk hr22
     clear hr22
     replace q22 := eq_true q22
     have n_ := Aside0.mk (Kd.R_mono (ok' := fun k_ => (k_ ≠ gb227 ∧ some k_ ≠ (.slice A22 y240.length c22 : Value).ownBlock)) HO236.out (fun k_ hk => ⟨hk.1, (by rw [HE22.out]; exact hk.2)⟩))
     clear HO236
     have HO236 := n_
     clear n_
     try go_wp2
     go_ret
     exact ⟨_, by first | rfl | (simp [errW_none, errW_some] <;> rfl) | (simp only [← hji6, ← hji7, ← hji8]; first | rfl | (simp [errW_none, errW_some] <;> rfl)) | (simp [*, errW_none, errW_some] <;> rfl) | (have e_ : ji7 = ji8 := (by omega); subst e_; rfl) | (have e_ : ji6 = ji8 := (by omega); subst e_; rfl), by (with_reducible repeat (first | apply Kd.Q_alloc | apply Kd.Q_drewN | apply Kd.Q_drew)); exact Kd.Q_mono HO242.out (fun _ hk => trivial), by repeat (first | (with_reducible first | exact HB.out | apply below_alloc | apply pw_below_drewN | apply below_drew1 | refine below_set ?_ GE227.out) | exact HB.out)⟩
    ·rw [if_neg c10] at H
     exact absurd H (by simp)
   ·rw [if_neg c9] at H
    exact absurd H (by simp)
  ·rw [if_neg c5] at H
   exact absurd H (by simp)
 ·rw [if_neg c4] at H
  exact absurd H (by simp)
/-! ### governorref18_Step: function 15 -/
def governorref18_Step.f (k : Nat) (q0 q1 q2 q3 q4 q5 q6 q7 q8 q9 q10 q11 : Int) (p0 p1 : Int) (l2 : List (S56)) (p3 p4 p5 p6 : Int) (l7 : List (S58)) (s0 s1 : Int) (s2 : Bool) (h0 h1 : Int) (h2 : Bool) (R : Int) (l15 : List Int) (wt ut : Int) (l18 : List (S52)) (demand now : Int) : Option (Int × Int × (List (S56)) × Int × Int × Int × Int × (List (S58)) × Int × Int × Bool × Int × Int × Bool × Int × List Int × Int × Int × (List (S52))) :=
 (governorref18_Own.f p0 p1 l2 p3 p4 p5 p6 l7 s0 s1 s2 h0 h1 h2 R l15 wt ut l18).bind fun o => if (p0 == 0) = true then some o else
  (governorref15_Into.f q0 q1 q2 q3 q4 q5 q6 q7 q8 q9 q10 q11 h0 h1 h2).bind fun b1 => (governorref14_Next.f k p0 p1 l2 p3 p4 p5 p6 l7 s0 s1 s2 b1.1 ut now).bind fun b2 => (governorref15_Next.f q0 q1 q2 q3 q4 q5 q6 q7 q8 q9 q10 q11 h0 h1 h2 b2.2.2.2 now).bind fun b3 =>
  (governorref16_Step.f k q0 q1 q2 q3 q4 q5 q6 q7 q8 q9 q10 q11 R l15 wt ut b3.1 demand).bind fun b4 => (governorref17_Add.f q7 l18 b4.2.2.2.2.1 b4.2.2.2.2.2).bind fun b5 =>
   some (o.1, o.2.1, o.2.2.1, o.2.2.2.1, o.2.2.2.2.1, o.2.2.2.2.2.1, o.2.2.2.2.2.2.1, o.2.2.2.2.2.2.2.1, b2.1, b2.2.1, b2.2.2.1, b3.1, b3.2.1, b3.2.2, b4.1, b4.2.1, b4.2.2.1, b4.2.2.2.1, b5)
/-- What is known in Step: the blocks of c, x, the result and y; y's rows. -/
structure GrS (w W : World) (G : Nat) (cc ca cz cs : Array Value) (v2 v7 v15 v18 : Value) (m2 : List (S56)) (m7 : List (S58)) (m15 : List Int) (m18 : List (S52)) : Prop where
 hC : W.heap[w.heap.size]? = some (.cells cc 23 (0, 0))
 hX : W.heap[w.heap.size + 1]? = some (.cells ca 37 (0, 0))
 hZ : W.heap[w.heap.size + 2]? = some (.cells cz 37 (0, 0))
 hY : W.heap[G]? = some (.cells cs 37 (0, 0))
 lt : w.heap.size + 2 < G
 hB : Below w.heap.size w W
 u2 : Kd.R k56 56 W w.heap.size (fun _ => True) v2 m2
 u7 : Kd.R k58 58 W w.heap.size (fun _ => True) v7 m7
 u15 : Kd.R (Kd.int .i64) 3 W w.heap.size (fun _ => True) v15 m15
 u18 : Kd.R k52 52 W w.heap.size (fun _ => True) v18 m18
theorem GrS.below {w W W1 : World} {G : Nat} {cc ca cz cs : Array Value} {v2 v7 v15 v18 : Value} {m2 : List (S56)} {m7 : List (S58)} {m15 : List Int} {m18 : List (S52)} (h : GrS w W G cc ca cz cs v2 v7 v15 v18 m2 m7 m15 m18) (hb : Below W.heap.size W W1) : GrS w W1 G cc ca cz cs v2 v7 v15 v18 m2 m7 m15 m18 :=
 ⟨blk_below h.hC hb, blk_below h.hX hb, blk_below h.hZ hb, blk_below h.hY hb, h.lt, below_step h.hB hb, Kd.R_below h.u2 hb, Kd.R_below h.u7 hb, Kd.R_below h.u15 hb, Kd.R_below h.u18 hb⟩
theorem GrS.put {w W : World} {G : Nat} {cc ca cz cs cs' : Array Value} {v2 v7 v15 v18 : Value} {m2 : List (S56)} {m7 : List (S58)} {m15 : List Int} {m18 : List (S52)} (h : GrS w W G cc ca cz cs v2 v7 v15 v18 m2 m7 m15 m18) (j : Nat) (u : Value) (e : cs.setIfInBounds j u = cs') : GrS w (W.setCell ⟨G, j, none⟩ u) G cc ca cz cs' v2 v7 v15 v18 m2 m7 m15 m18 :=
 have hl := h.lt
 ⟨blk_far h.hC (by show w.heap.size ≠ G; omega) u, blk_far h.hX (by show w.heap.size + 1 ≠ G; omega) u, blk_far h.hZ (by show w.heap.size + 2 ≠ G; omega) u, blk_put h.hY j u e, h.lt, below_set h.hB (by omega), Kd.R_set h.u2 h.hY (by decide) j u, Kd.R_set h.u7 h.hY (by decide) j u, Kd.R_set h.u15 h.hY (by decide) j u, Kd.R_set h.u18 h.hY (by decide) j u⟩
set_option maxHeartbeats 8000000 in
set_option maxRecDepth 100000 in
theorem governorref18_Step.calls (k : Nat) (q0 q1 q2 q3 q4 q5 q6 q7 q8 q9 q10 q11 : Int) (p0 p1 : Int) (E2 : Option Addr) (e2 : Nat) (l2 : List (S56)) (p3 p4 p5 p6 : Int) (E7 : Option Addr) (e7 : Nat) (l7 : List (S58)) (s0 s1 : Int) (s2 : Bool) (h0 h1 : Int) (h2 : Bool) (R : Int) (E15 : Option Addr) (e15 : Nat) (l15 : List Int) (wt ut : Int) (E18 : Option Addr) (e18 : Nat) (l18 : List (S52)) (demand now : Int) (r1 : Int) (r2 : Int) (r3 : List (S56)) (r4 : Int) (r5 : Int) (r6 : Int) (r7 : Int) (r8 : List (S58)) (r9 : Int) (r10 : Int) (r11 : Bool) (r12 : Int) (r13 : Int) (r14 : Bool) (r15 : Int) (r16 : List Int) (r17 : Int) (r18 : Int) (r19 : List (S52)) (w : World) (hr2 : Kd.C k56 w E2 l2.length l2) (hc2 : l2.length ≤ e2) (hr7 : Kd.C k58 w E7 l7.length l7) (hc7 : l7.length ≤ e7) (hr15 : Kd.C (Kd.int .i64) w E15 l15.length l15) (hc15 : l15.length ≤ e15) (hr18 : Kd.C k52 w E18 l18.length l18) (hc18 : l18.length ≤ e18) (h : governorref18_Step.f k q0 q1 q2 q3 q4 q5 q6 q7 q8 q9 q10 q11 p0 p1 l2 p3 p4 p5 p6 l7 s0 s1 s2 h0 h1 h2 R l15 wt ut l18 demand now = some (r1, r2, r3, r4, r5, r6, r7, r8, r9, r10, r11, r12, r13, r14, r15, r16, r17, r18, r19)) :
  Calls Try.prog 15 #[.agg #[.int .i64 q0, .int .i64 q1, .int .i64 q2, .int .i64 q3, .int .i64 q4, .int .i64 q5, .int .i64 q6, .int .i64 q7, .int .i64 q8, .int .i64 q9, .int .i64 q10, .int .i64 q11], .agg #[.int .i64 p0, .int .i64 p1, .slice E2 l2.length e2, .int .i64 p3, .int .i64 p4, .int .i64 p5, .int .i64 p6, .slice E7 l7.length e7, .int .i64 s0, .int .i64 s1, .bool s2, .int .i64 h0, .int .i64 h1, .bool h2, .int .i64 R, .slice E15 l15.length e15, .int .i64 wt, .int .i64 ut, .slice E18 l18.length e18], .int .i64 demand, .int .i64 now] w fun e w' => ∃ v2_ v7_ v15_ v18_ : Value, e = .returned (.agg #[.int .i64 r1, .int .i64 r2, v2_, .int .i64 r4, .int .i64 r5, .int .i64 r6, .int .i64 r7, v7_, .int .i64 r9, .int .i64 r10, .bool r11, .int .i64 r12, .int .i64 r13, .bool r14, .int .i64 r15, v15_, .int .i64 r17, .int .i64 r18, v18_]) ∧ Kd.R k56 56 w' w.heap.size (fun _ => True) v2_ r3 ∧ Kd.R k58 58 w' w.heap.size (fun _ => True) v7_ r8 ∧ Kd.Q (Kd.int .i64) 3 w' w.heap.size (fun _ => True) v15_ r16 ∧ Kd.Q k52 52 w' w.heap.size (fun _ => True) v18_ r19 ∧ Below w.heap.size w w' := by
 have hu0 := Try.underlying69
 have hu1 := Try.underlying37
 have hu2 := Try.underlying27
 have hu3 := Try.underlying29
 have hu4 := Try.underlying23
 have hu5 := Try.underlying31
 have hu6 := Try.underlying34
 have hu7 := Try.underlying52
 have hu9 := Try.underlying52
 have hfl : ∀ (v0 v1 v2 : Value) (W : World), (Instr.field 31 (.agg #[v0, v1, v2]) 0).run Try.prog W = .ok v0 W := fun v0 v1 v2 _ => by rfl
 unfold governorref18_Step.f at h
 obtain ⟨⟨y0, y1, m2, y3, y4, y5, y6, m7, y8, y9, y10, y11, y12, y13, y14, m15, y16, y17, m18⟩, hO, h⟩ := Option.bind_eq_some_iff.1 h
 have HO := Aside0.mk hO
 have HH := Aside0.mk h
 clear h hO
 have HC2 := Aside0.mk hc2
 have HR2 := Aside0.mk hr2
 clear hc2 hr2
 have HC7 := Aside0.mk hc7
 have HR7 := Aside0.mk hr7
 clear hc7 hr7
 have HC15 := Aside0.mk hc15
 have HR15 := Aside0.mk hr15
 clear hc15 hr15
 have HC18 := Aside0.mk hc18
 have HR18 := Aside0.mk hr18
 clear hc18 hr18
 go_enter Try.func15, Try.ntmps15
 go_upto_region 1 with (fail)
 obtain ⟨FB, FC, FX, FR⟩ : Below w.heap.size w (((w.alloc (.cells #[.int .i64 q0, .int .i64 q1, .int .i64 q2, .int .i64 q3, .int .i64 q4, .int .i64 q5, .int .i64 q6, .int .i64 q7, .int .i64 q8, .int .i64 q9, .int .i64 q10, .int .i64 q11] 23)).alloc (.cells #[.int .i64 p0, .int .i64 p1, .slice E2 l2.length e2, .int .i64 p3, .int .i64 p4, .int .i64 p5, .int .i64 p6, .slice E7 l7.length e7, .int .i64 s0, .int .i64 s1, .bool s2, .int .i64 h0, .int .i64 h1, .bool h2, .int .i64 R, .slice E15 l15.length e15, .int .i64 wt, .int .i64 ut, .slice E18 l18.length e18] 37)).alloc (.cells #[.int .i64 0, .int .i64 0, .slice none 0 0, .int .i64 0, .int .i64 0, .int .i64 0, .int .i64 0, .slice none 0 0, .int .i64 0, .int .i64 0, .bool false, .int .i64 0, .int .i64 0, .bool false, .int .i64 0, .slice none 0 0, .int .i64 0, .int .i64 0, .slice none 0 0] 37)) ∧ (((w.alloc (.cells #[.int .i64 q0, .int .i64 q1, .int .i64 q2, .int .i64 q3, .int .i64 q4, .int .i64 q5, .int .i64 q6, .int .i64 q7, .int .i64 q8, .int .i64 q9, .int .i64 q10, .int .i64 q11] 23)).alloc (.cells #[.int .i64 p0, .int .i64 p1, .slice E2 l2.length e2, .int .i64 p3, .int .i64 p4, .int .i64 p5, .int .i64 p6, .slice E7 l7.length e7, .int .i64 s0, .int .i64 s1, .bool s2, .int .i64 h0, .int .i64 h1, .bool h2, .int .i64 R, .slice E15 l15.length e15, .int .i64 wt, .int .i64 ut, .slice E18 l18.length e18] 37)).alloc (.cells #[.int .i64 0, .int .i64 0, .slice none 0 0, .int .i64 0, .int .i64 0, .int .i64 0, .int .i64 0, .slice none 0 0, .int .i64 0, .int .i64 0, .bool false, .int .i64 0, .int .i64 0, .bool false, .int .i64 0, .slice none 0 0, .int .i64 0, .int .i64 0, .slice none 0 0] 37)).heap[w.heap.size]? = some (.cells #[.int .i64 q0, .int .i64 q1, .int .i64 q2, .int .i64 q3, .int .i64 q4, .int .i64 q5, .int .i64 q6, .int .i64 q7, .int .i64 q8, .int .i64 q9, .int .i64 q10, .int .i64 q11] 23 (0, 0)) ∧ (((w.alloc (.cells #[.int .i64 q0, .int .i64 q1, .int .i64 q2, .int .i64 q3, .int .i64 q4, .int .i64 q5, .int .i64 q6, .int .i64 q7, .int .i64 q8, .int .i64 q9, .int .i64 q10, .int .i64 q11] 23)).alloc (.cells #[.int .i64 p0, .int .i64 p1, .slice E2 l2.length e2, .int .i64 p3, .int .i64 p4, .int .i64 p5, .int .i64 p6, .slice E7 l7.length e7, .int .i64 s0, .int .i64 s1, .bool s2, .int .i64 h0, .int .i64 h1, .bool h2, .int .i64 R, .slice E15 l15.length e15, .int .i64 wt, .int .i64 ut, .slice E18 l18.length e18] 37)).alloc (.cells #[.int .i64 0, .int .i64 0, .slice none 0 0, .int .i64 0, .int .i64 0, .int .i64 0, .int .i64 0, .slice none 0 0, .int .i64 0, .int .i64 0, .bool false, .int .i64 0, .int .i64 0, .bool false, .int .i64 0, .slice none 0 0, .int .i64 0, .int .i64 0, .slice none 0 0] 37)).heap[(w.heap.size + 1)]? = some (.cells #[.int .i64 p0, .int .i64 p1, .slice E2 l2.length e2, .int .i64 p3, .int .i64 p4, .int .i64 p5, .int .i64 p6, .slice E7 l7.length e7, .int .i64 s0, .int .i64 s1, .bool s2, .int .i64 h0, .int .i64 h1, .bool h2, .int .i64 R, .slice E15 l15.length e15, .int .i64 wt, .int .i64 ut, .slice E18 l18.length e18] 37 (0, 0)) ∧ (((w.alloc (.cells #[.int .i64 q0, .int .i64 q1, .int .i64 q2, .int .i64 q3, .int .i64 q4, .int .i64 q5, .int .i64 q6, .int .i64 q7, .int .i64 q8, .int .i64 q9, .int .i64 q10, .int .i64 q11] 23)).alloc (.cells #[.int .i64 p0, .int .i64 p1, .slice E2 l2.length e2, .int .i64 p3, .int .i64 p4, .int .i64 p5, .int .i64 p6, .slice E7 l7.length e7, .int .i64 s0, .int .i64 s1, .bool s2, .int .i64 h0, .int .i64 h1, .bool h2, .int .i64 R, .slice E15 l15.length e15, .int .i64 wt, .int .i64 ut, .slice E18 l18.length e18] 37)).alloc (.cells #[.int .i64 0, .int .i64 0, .slice none 0 0, .int .i64 0, .int .i64 0, .int .i64 0, .int .i64 0, .slice none 0 0, .int .i64 0, .int .i64 0, .bool false, .int .i64 0, .int .i64 0, .bool false, .int .i64 0, .slice none 0 0, .int .i64 0, .int .i64 0, .slice none 0 0] 37)).heap[(w.heap.size + 2)]? = some (.cells #[.int .i64 0, .int .i64 0, .slice none 0 0, .int .i64 0, .int .i64 0, .int .i64 0, .int .i64 0, .slice none 0 0, .int .i64 0, .int .i64 0, .bool false, .int .i64 0, .int .i64 0, .bool false, .int .i64 0, .slice none 0 0, .int .i64 0, .int .i64 0, .slice none 0 0] 37 (0, 0)) := by
  have z1 := blk_new (w.alloc (.cells #[.int .i64 q0, .int .i64 q1, .int .i64 q2, .int .i64 q3, .int .i64 q4, .int .i64 q5, .int .i64 q6, .int .i64 q7, .int .i64 q8, .int .i64 q9, .int .i64 q10, .int .i64 q11] 23)) (.cells #[.int .i64 p0, .int .i64 p1, .slice E2 l2.length e2, .int .i64 p3, .int .i64 p4, .int .i64 p5, .int .i64 p6, .slice E7 l7.length e7, .int .i64 s0, .int .i64 s1, .bool s2, .int .i64 h0, .int .i64 h1, .bool h2, .int .i64 R, .slice E15 l15.length e15, .int .i64 wt, .int .i64 ut, .slice E18 l18.length e18] 37)
  rw [World.size_alloc] at z1
  have z2 := blk_new ((w.alloc (.cells #[.int .i64 q0, .int .i64 q1, .int .i64 q2, .int .i64 q3, .int .i64 q4, .int .i64 q5, .int .i64 q6, .int .i64 q7, .int .i64 q8, .int .i64 q9, .int .i64 q10, .int .i64 q11] 23)).alloc (.cells #[.int .i64 p0, .int .i64 p1, .slice E2 l2.length e2, .int .i64 p3, .int .i64 p4, .int .i64 p5, .int .i64 p6, .slice E7 l7.length e7, .int .i64 s0, .int .i64 s1, .bool s2, .int .i64 h0, .int .i64 h1, .bool h2, .int .i64 R, .slice E15 l15.length e15, .int .i64 wt, .int .i64 ut, .slice E18 l18.length e18] 37)) (.cells #[.int .i64 0, .int .i64 0, .slice none 0 0, .int .i64 0, .int .i64 0, .int .i64 0, .int .i64 0, .slice none 0 0, .int .i64 0, .int .i64 0, .bool false, .int .i64 0, .int .i64 0, .bool false, .int .i64 0, .slice none 0 0, .int .i64 0, .int .i64 0, .slice none 0 0] 37)
  rw [World.size_alloc, World.size_alloc] at z2
  exact ⟨below_alloc (below_alloc (below_alloc (Below.refl _ _) _) _) _, blk_alloc (blk_alloc (blk_new w _) _) _, blk_alloc z1 _, z2⟩
 generalize ((w.alloc _).alloc _).alloc _ = W0 at FB FC FX FR ⊢
 obtain ⟨ca, hca⟩ : ∃ ca : Array Value, ca = #[.int .i64 p0, .int .i64 p1, .slice E2 l2.length e2, .int .i64 p3, .int .i64 p4, .int .i64 p5, .int .i64 p6, .slice E7 l7.length e7, .int .i64 s0, .int .i64 s1, .bool s2, .int .i64 h0, .int .i64 h1, .bool h2, .int .i64 R, .slice E15 l15.length e15, .int .i64 wt, .int .i64 ut, .slice E18 l18.length e18] := ⟨_, rfl⟩
 obtain ⟨cc, hcc⟩ : ∃ cc : Array Value, cc = #[.int .i64 q0, .int .i64 q1, .int .i64 q2, .int .i64 q3, .int .i64 q4, .int .i64 q5, .int .i64 q6, .int .i64 q7, .int .i64 q8, .int .i64 q9, .int .i64 q10, .int .i64 q11] := ⟨_, rfl⟩
 obtain ⟨cz, hcz⟩ : ∃ cz : Array Value, cz = #[.int .i64 0, .int .i64 0, .slice none 0 0, .int .i64 0, .int .i64 0, .int .i64 0, .int .i64 0, .slice none 0 0, .int .i64 0, .int .i64 0, .bool false, .int .i64 0, .int .i64 0, .bool false, .int .i64 0, .slice none 0 0, .int .i64 0, .int .i64 0, .slice none 0 0] := ⟨_, rfl⟩
 rw [← hca] at FX
 rw [← hcc] at FC
 rw [← hcz] at FR
 have hci : (Try.prog.info? 37).map (·.size) = some ca.size := by rw [hca]; kernel_rfl
 have HCZ := Aside0.mk (show cz.size = 19 by rw [hcz]; rfl)
 have HCA := Aside0.mk hca
 have HCC := Aside0.mk hcc
 have HCI := Aside0.mk hci
 have HFB := Aside0.mk FB
 have HFC := Aside0.mk FC
 have HFX := Aside0.mk FX
 have HFR := Aside0.mk FR
 clear hca hcc hcz hci FB FC FX FR
 go_upto_region 2 with (first
  | ((with_reducible refine gate_dst (N := 15) rfl ?_); refine load_pre rfl 37 (.tmp 5) rfl (w.heap.size + 1) rfl ca _ (range_row HFX.out) hu1 rfl HCI.out ?_)
  | (go_at_call 21; rw [HCA.out]; refine (governorref18_Own.calls _ _ _ _ _ _ _ _ _ _ _ _ _ _ _ _ _ _ _ _ _ _ _ _ _ _ _ _ _ _ _ _ _ _ _ _ _ _ _ _ _ _ _ _ _ _ _ (Kd.C_below HR2.out HFB.out) HC2.out (Kd.C_below HR7.out HFB.out) HC7.out (Kd.C_below HR15.out HFB.out) HC15.out (Kd.C_below HR18.out HFB.out) HC18.out HO.out).mono ?_; rintro e_ w1 ⟨v2, v7, v15, v18, rfl, r2, r7, r15, r18, hb⟩; obtain ⟨A2, c2, rfl⟩ := Kd.R_slice r2; obtain ⟨A7, c7, rfl⟩ := Kd.R_slice r7; obtain ⟨A15, c15, rfl⟩ := Kd.R_slice r15; obtain ⟨A18, c18, rfl⟩ := Kd.R_slice r18; have HV2 := Aside0.mk (Kd.R_lower r2 HFB.out.size); have HV7 := Aside0.mk (Kd.R_lower r7 HFB.out.size); have HV15 := Aside0.mk (Kd.R_lower r15 HFB.out.size); have HV18 := Aside0.mk (Kd.R_lower r18 HFB.out.size); have HB1 := Aside0.mk hb; clear r2 r7 r15 r18 hb; obtain ⟨cs, hcs⟩ : ∃ cs : Array Value, cs = #[.int .i64 y0, .int .i64 y1, .slice A2 m2.length c2, .int .i64 y3, .int .i64 y4, .int .i64 y5, .int .i64 y6, .slice A7 m7.length c7, .int .i64 y8, .int .i64 y9, .bool y10, .int .i64 y11, .int .i64 y12, .bool y13, .int .i64 y14, .slice A15 m15.length c15, .int .i64 y16, .int .i64 y17, .slice A18 m18.length c18] := ⟨_, rfl⟩; rw [← hcs]; have HCS := Aside0.mk hcs; clear hcs)
  | ((with_reducible refine gate_dst (N := 9) rfl ?_); refine box_event ?hg (N := 9) ?hd (cs := #[.int .i64 0, .int .i64 0, .slice none 0 0, .int .i64 0, .int .i64 0, .int .i64 0, .int .i64 0, .slice none 0 0, .int .i64 0, .int .i64 0, .bool false, .int .i64 0, .int .i64 0, .bool false, .int .i64 0, .slice none 0 0, .int .i64 0, .int .i64 0, .slice none 0 0]) (t := 37) ?hr ?_; (case hd => rfl); (case hg => rfl); (case hr => first | (go_simp; done) | (go_simp; rfl)); intro G hg w2 hbox hb; have hsz : cs.size = 19 := (by rw [HCS.out]; rfl); have cp := cp_row (P := Try.prog) (cs := cs) hbox (by rw [HCS.out]; rfl) (by rw [HCS.out]; intro v hv; simp only [List.mem_cons, List.not_mem_nil, or_false] at hv; rcases hv with rfl | rfl | rfl | rfl | rfl | rfl | rfl | rfl | rfl | rfl | rfl | rfl | rfl | rfl | rfl | rfl | rfl | rfl | rfl <;> rfl); have hst := cp.1; have HCP := Aside0.mk cp; have HB2 := Aside0.mk hb; have HGE := Aside0.mk (show w1.heap.size ≤ G by omega); clear cp hbox hb hg))
 have HS : GrS w (w2.setCells G 0 cs.toList) G cc ca cz cs (.slice A2 m2.length c2) (.slice A7 m7.length c7) (.slice A15 m15.length c15) (.slice A18 m18.length c18) m2 m7 m15 m18 := by
  have k0 := HFB.out.size
  have k1 := HB1.out.size
  have k2 := blk_lt HFR.out
  have hge := HGE.out
  have hb0 := HB2.out
  have n0 : Below w1.heap.size w1 (w2.setCells G 0 cs.toList) := ⟨HCP.out.2.2.2.1.trans hb0.os, HCP.out.2.2.2.2.1.trans hb0.tape, HCP.out.2.2.2.2.2.1.trans hb0.output, by rw [HCP.out.2.2.2.2.2.2]; exact hb0.size, fun k hk => (HCP.out.2.2.1 k (by omega)).trans (hb0.block k hk)⟩
  exact ⟨blk_below (blk_below HFC.out HB1.out) n0, blk_below (blk_below HFX.out HB1.out) n0, blk_below (blk_below HFR.out HB1.out) n0, HCP.out.2.1, by omega, below_step (below_step HFB.out HB1.out) n0, Kd.R_below HV2.out n0, Kd.R_below HV7.out n0, Kd.R_below HV15.out n0, Kd.R_below HV18.out n0⟩
 generalize w2.setCells _ _ _ = W1 at HS ⊢
 replace HS := Aside0.mk HS
 clear HFB HFC HFX HFR HB1 HB2 HGE HCP hst hsz HV2 HV7 HV15 HV18 HO
 have fx := HS.out.hX
 rw [HCA.out] at fx
 have x0 := blk_cell fx 0
 have x1 := blk_cell fx 1
 have x2 := blk_cell fx 2
 have x3 := blk_cell fx 3
 have x4 := blk_cell fx 4
 have x5 := blk_cell fx 5
 have x6 := blk_cell fx 6
 have x7 := blk_cell fx 7
 simp only [List.getElem?_toArray, List.getElem?_cons_zero, List.getElem?_cons_succ] at x0 x1 x2 x3 x4 x5 x6 x7
 clear fx
 by_cases hz : (p0 == 0) = true
 ·have h := HH.out
  rw [if_pos hz] at h
  simp only [Option.some.injEq, Prod.mk.injEq] at h
  obtain ⟨rfl, rfl, rfl, rfl, rfl, rfl, rfl, rfl, rfl, rfl, rfl, rfl, rfl, rfl, rfl, rfl, rfl, rfl, rfl⟩ := h
  have HZ := Aside0.mk hz
  clear hz HH
  go_upto_region 3 with ((go_at_call 31; go_loud (refine (governorref14_Zero.calls p0 p1 E2 e2 l2 p3 p4 p5 p6 E7 e7 l7 true _ (Kd.C_below HR2.out HS.out.hB) HC2.out (Kd.C_below HR7.out HS.out.hB) HC7.out (by unfold governorref14_Zero.f; rw [HZ.out])).mono ?_; rintro e_ w1 ⟨rfl, hb⟩; replace HS := Aside0.mk (HS.out.below hb); clear hb)))
  clear x0 x1 x2 x3 x4 x5 x6 x7
  have hsz : cs.size = 19 := by rw [HCS.out]; rfl
  have hinfo : (Try.prog.info? 37).map (·.size) = some cs.size := by rw [HCS.out]; kernel_rfl
  have cp := cp_row (P := Try.prog) (cs := cs) HS.out.hZ (by rw [HCS.out, HCZ.out]; rfl) (by rw [HCS.out]; intro v hv; simp only [List.mem_cons, List.not_mem_nil, or_false] at hv; rcases hv with rfl | rfl | rfl | rfl | rfl | rfl | rfl | rfl | rfl | rfl | rfl | rfl | rfl | rfl | rfl | rfl | rfl | rfl | rfl <;> rfl)
  have hst := cp.1
  have HCP := Aside0.mk cp.2.1
  have HI := Aside0.mk hinfo
  clear cp hinfo
  have hne : G ≠ w.heap.size + 2 := by have h := HS.out.lt; omega
  go_wp2_with ((with_reducible refine gate_dst (N := 20) rfl ?_); refine load_pre rfl 37 (.tmp 9) rfl G rfl cs _ (range_row HS.out.hY) hu1 rfl HI.out ?_)
  have hB := Aside0.mk (below_cells (g := w.heap.size + 2) (vs := cs.toList) HS.out.hB (by omega))
  have V2 := Aside0.mk (Kd.R_cells (vs := cs.toList) HS.out.u2 HS.out.hZ (by decide))
  have V7 := Aside0.mk (Kd.R_cells (vs := cs.toList) HS.out.u7 HS.out.hZ (by decide))
  have V15 := Aside0.mk (Kd.R_cells (vs := cs.toList) HS.out.u15 HS.out.hZ (by decide))
  have V18 := Aside0.mk (Kd.R_cells (vs := cs.toList) HS.out.u18 HS.out.hZ (by decide))
  generalize w1.setCells _ _ _ = W5 at HCP hB V2 V7 V15 V18 ⊢
  refine bodyPost_ret (results_cell_row rfl _ _ (w.heap.size + 2) 37 cs (0, 0) _ rfl HCP.out hu1 rfl HI.out) rfl ?_
  exact ⟨_, _, _, _, by rw [HCS.out], V2.out, V7.out, Kd.Q_of_R V15.out, Kd.Q_of_R V18.out, hB.out⟩
 ·have h := HH.out
  rw [if_neg hz] at h
  obtain ⟨⟨cur, la, gr⟩, hI, h⟩ := Option.bind_eq_some_iff.1 h
  obtain ⟨⟨n0, n1, n2, n⟩, hN, h⟩ := Option.bind_eq_some_iff.1 h
  obtain ⟨⟨k0, k1, k2⟩, hL, h⟩ := Option.bind_eq_some_iff.1 h
  obtain ⟨⟨R', l15', wt', ut', cost, bad⟩, hP, h⟩ := Option.bind_eq_some_iff.1 h
  obtain ⟨l18', hA, h⟩ := Option.bind_eq_some_iff.1 h
  simp only [Option.some.injEq, Prod.mk.injEq] at h
  obtain ⟨rfl, rfl, rfl, rfl, rfl, rfl, rfl, rfl, rfl, rfl, rfl, rfl, rfl, rfl, rfl, rfl, rfl, rfl, rfl⟩ := h
  have HZ := Aside0.mk (Bool.eq_false_iff.2 hz)
  clear hz HH
  rw [HCS.out] at HS
  clear HCS
  have FI := Aside0.mk hI
  clear hI
  have FN := Aside0.mk hN
  clear hN
  have FL := Aside0.mk hL
  clear hL
  have FP := Aside0.mk hP
  clear hP
  have FA := Aside0.mk hA
  clear hA
  go_upto_region 4 with ((go_at_call 31; refine (governorref14_Zero.calls p0 p1 E2 e2 l2 p3 p4 p5 p6 E7 e7 l7 false _ (Kd.C_below HR2.out HS.out.hB) HC2.out (Kd.C_below HR7.out HS.out.hB) HC7.out (by unfold governorref14_Zero.f; rw [HZ.out])).mono ?_; rintro e_ w1 ⟨rfl, hb⟩; replace HS := Aside0.mk (HS.out.below hb); clear hb))
  clear x0 x1 x2 x3 x4 x5 x6 x7
  have fc := HS.out.hC
  rw [HCC.out] at fc
  have z0 := blk_cell fc 0
  have z1 := blk_cell fc 1
  have z2 := blk_cell fc 2
  have z3 := blk_cell fc 3
  have z4 := blk_cell fc 4
  have z5 := blk_cell fc 5
  have z6 := blk_cell fc 6
  have z7 := blk_cell fc 7
  have z8 := blk_cell fc 8
  have z9 := blk_cell fc 9
  have z10 := blk_cell fc 10
  have z11 := blk_cell fc 11
  simp only [List.getElem?_toArray, List.getElem?_cons_zero, List.getElem?_cons_succ] at z0 z1 z2 z3 z4 z5 z6 z7 z8 z9 z10 z11
  clear fc
  have fx := HS.out.hX
  rw [HCA.out] at fx
  have x11 := blk_cell fx 11
  have x12 := blk_cell fx 12
  have x13 := blk_cell fx 13
  simp only [List.getElem?_toArray, List.getElem?_cons_zero, List.getElem?_cons_succ] at x11 x12 x13
  clear fx
  go_upto_region 5 with (go_at_call 32; refine (governorref15_Into.calls _ _ _ _ _ _ _ _ _ _ _ _ _ _ _ _ _ _ _ FI.out).mono ?_; rintro e_ w3 ⟨rfl, hb⟩; replace HS := Aside0.mk (HS.out.below hb); clear hb)
  clear FI z0 z1 z2 z3 z4 z5 z6 z7 z8 z9 z10 z11 x11 x12 x13
  have fx := HS.out.hX
  rw [HCA.out] at fx
  have x0 := blk_cell fx 0
  have x1 := blk_cell fx 1
  have x2 := blk_cell fx 2
  have x3 := blk_cell fx 3
  have x4 := blk_cell fx 4
  have x5 := blk_cell fx 5
  have x6 := blk_cell fx 6
  have x7 := blk_cell fx 7
  have x8 := blk_cell fx 8
  have x9 := blk_cell fx 9
  have x10 := blk_cell fx 10
  have x17 := blk_cell fx 17
  simp only [List.getElem?_toArray, List.getElem?_cons_zero, List.getElem?_cons_succ] at x0 x1 x2 x3 x4 x5 x6 x7 x8 x9 x10 x17
  clear fx
  go_upto_region 6 with (first
   | (go_at_call 33; refine (governorref14_Next.calls k _ _ _ _ _ _ _ _ _ _ _ _ _ _ _ _ _ _ _ _ _ _ _ (Kd.C_below HR2.out HS.out.hB) HC2.out (Kd.C_below HR7.out HS.out.hB) HC7.out FN.out).mono ?_; rintro e_ w4 ⟨rfl, hb⟩; replace HS := Aside0.mk (HS.out.below hb); clear hb)
   | ((with_reducible refine gate_dst (N := 11) rfl ?_); refine box_event ?hg (N := 11) ?hd (cs := #[.int .i64 0, .int .i64 0, .bool false]) (t := 29) ?hr ?_; (case hd => rfl); (case hg => rfl); (case hr => first | (go_simp; done) | (go_simp; rfl)); intro g5 hg w5 hbox hb; have gc0 := blk_cell hbox 0; have gf0 := blk_frozen hbox 0; have gc1 := blk_cell hbox 1; have gf1 := blk_frozen hbox 1; have gc2 := blk_cell hbox 2; have gf2 := blk_frozen hbox 2; simp only [List.getElem?_toArray, List.getElem?_cons_zero, List.getElem?_cons_succ] at gc0 gc1 gc2; have HG5 := Aside0.mk hbox; have HB5 := Aside0.mk hb; have HE5 := Aside0.mk (show w4.heap.size ≤ g5 by omega); clear hbox hb hg))
  replace HS := Aside0.mk (HS.out.below (below_set (g := g5) (j := 2) (v := .bool n2) (below_set (g := g5) (j := 1) (v := .int .i64 n1) (below_set (g := g5) (j := 0) (v := .int .i64 n0) (HB5.out) HE5.out) HE5.out) HE5.out))
  have HG6 : Aside0 ((_ : World).heap[g5]? = some (.cells #[.int .i64 n0, .int .i64 n1, .bool n2] 29 (0, 0))) := Aside0.mk (blk_put (blk_put (blk_put (HG5.out) 0 (.int .i64 n0) rfl) 1 (.int .i64 n1) rfl) 2 (.bool n2) rfl)
  generalize ((w5.setCell _ _).setCell _ _).setCell _ _ = W6 at HS HG6 ⊢
  clear HG5 HB5 HE5 FN gc0 gc1 gc2 gf0 gf1 gf2 x0 x1 x2 x3 x4 x5 x6 x7 x8 x9 x10 x17
  have fg := HG6.out
  have g0 := blk_cell fg 0
  have g1 := blk_cell fg 1
  have g2 := blk_cell fg 2
  simp only [List.getElem?_toArray, List.getElem?_cons_zero, List.getElem?_cons_succ] at g0 g1 g2
  have fy := HS.out.hY
  have y_8 := blk_cell fy 8
  have y_9 := blk_cell fy 9
  have y_10 := blk_cell fy 10
  simp only [List.getElem?_toArray, List.getElem?_cons_zero, List.getElem?_cons_succ] at y_8 y_9 y_10
  have yf8 := blk_frozen fy 8
  have yf9 := blk_frozen fy 9
  have yf10 := blk_frozen fy 10
  clear fg fy
  go_upto_region 7 with (fail)
  replace HS := Aside0.mk (HS.out.put (cs' := #[.int .i64 y0, .int .i64 y1, .slice A2 m2.length c2, .int .i64 y3, .int .i64 y4, .int .i64 y5, .int .i64 y6, .slice A7 m7.length c7, .int .i64 n0, .int .i64 y9, .bool y10, .int .i64 y11, .int .i64 y12, .bool y13, .int .i64 y14, .slice A15 m15.length c15, .int .i64 y16, .int .i64 y17, .slice A18 m18.length c18]) 8 (.int .i64 n0) rfl)
  replace HS := Aside0.mk (HS.out.put (cs' := #[.int .i64 y0, .int .i64 y1, .slice A2 m2.length c2, .int .i64 y3, .int .i64 y4, .int .i64 y5, .int .i64 y6, .slice A7 m7.length c7, .int .i64 n0, .int .i64 n1, .bool y10, .int .i64 y11, .int .i64 y12, .bool y13, .int .i64 y14, .slice A15 m15.length c15, .int .i64 y16, .int .i64 y17, .slice A18 m18.length c18]) 9 (.int .i64 n1) rfl)
  replace HS := Aside0.mk (HS.out.put (cs' := #[.int .i64 y0, .int .i64 y1, .slice A2 m2.length c2, .int .i64 y3, .int .i64 y4, .int .i64 y5, .int .i64 y6, .slice A7 m7.length c7, .int .i64 n0, .int .i64 n1, .bool n2, .int .i64 y11, .int .i64 y12, .bool y13, .int .i64 y14, .slice A15 m15.length c15, .int .i64 y16, .int .i64 y17, .slice A18 m18.length c18]) 10 (.bool n2) rfl)
  generalize ((W6.setCell _ _).setCell _ _).setCell _ _ = W7 at HS  ⊢
  clear HG6 g0 g1 g2 y_8 y_9 y_10 yf8 yf9 yf10
  have fc := HS.out.hC
  rw [HCC.out] at fc
  have z0 := blk_cell fc 0
  have z1 := blk_cell fc 1
  have z2 := blk_cell fc 2
  have z3 := blk_cell fc 3
  have z4 := blk_cell fc 4
  have z5 := blk_cell fc 5
  have z6 := blk_cell fc 6
  have z7 := blk_cell fc 7
  have z8 := blk_cell fc 8
  have z9 := blk_cell fc 9
  have z10 := blk_cell fc 10
  have z11 := blk_cell fc 11
  simp only [List.getElem?_toArray, List.getElem?_cons_zero, List.getElem?_cons_succ] at z0 z1 z2 z3 z4 z5 z6 z7 z8 z9 z10 z11
  clear fc
  have fx := HS.out.hX
  rw [HCA.out] at fx
  have x11 := blk_cell fx 11
  have x12 := blk_cell fx 12
  have x13 := blk_cell fx 13
  simp only [List.getElem?_toArray, List.getElem?_cons_zero, List.getElem?_cons_succ] at x11 x12 x13
  clear fx
  go_upto_region 8 with (go_at_call 34; refine (governorref15_Next.calls _ _ _ _ _ _ _ _ _ _ _ _ _ _ _ _ _ _ _ _ _ FL.out).mono ?_; rintro e_ w8 ⟨rfl, hb⟩; replace HS := Aside0.mk (HS.out.below hb); clear hb; have fy := HS.out.hY; have y_11 := blk_cell fy 11; have yf11 := blk_frozen fy 11; have y_12 := blk_cell fy 12; have yf12 := blk_frozen fy 12; have y_13 := blk_cell fy 13; have yf13 := blk_frozen fy 13; simp only [List.getElem?_toArray, List.getElem?_cons_zero, List.getElem?_cons_succ] at y_11 y_12 y_13; clear fy)
  replace HS := Aside0.mk (HS.out.put (cs' := #[.int .i64 y0, .int .i64 y1, .slice A2 m2.length c2, .int .i64 y3, .int .i64 y4, .int .i64 y5, .int .i64 y6, .slice A7 m7.length c7, .int .i64 n0, .int .i64 n1, .bool n2, .int .i64 k0, .int .i64 y12, .bool y13, .int .i64 y14, .slice A15 m15.length c15, .int .i64 y16, .int .i64 y17, .slice A18 m18.length c18]) 11 (.int .i64 k0) rfl)
  replace HS := Aside0.mk (HS.out.put (cs' := #[.int .i64 y0, .int .i64 y1, .slice A2 m2.length c2, .int .i64 y3, .int .i64 y4, .int .i64 y5, .int .i64 y6, .slice A7 m7.length c7, .int .i64 n0, .int .i64 n1, .bool n2, .int .i64 k0, .int .i64 k1, .bool y13, .int .i64 y14, .slice A15 m15.length c15, .int .i64 y16, .int .i64 y17, .slice A18 m18.length c18]) 12 (.int .i64 k1) rfl)
  replace HS := Aside0.mk (HS.out.put (cs' := #[.int .i64 y0, .int .i64 y1, .slice A2 m2.length c2, .int .i64 y3, .int .i64 y4, .int .i64 y5, .int .i64 y6, .slice A7 m7.length c7, .int .i64 n0, .int .i64 n1, .bool n2, .int .i64 k0, .int .i64 k1, .bool k2, .int .i64 y14, .slice A15 m15.length c15, .int .i64 y16, .int .i64 y17, .slice A18 m18.length c18]) 13 (.bool k2) rfl)
  generalize ((w8.setCell _ _).setCell _ _).setCell _ _ = W8 at HS  ⊢
  clear FL z0 z1 z2 z3 z4 z5 z6 z7 z8 z9 z10 z11 x11 x12 x13 y_11 y_12 y_13 yf11 yf12 yf13
  have fc := HS.out.hC
  rw [HCC.out] at fc
  have z0 := blk_cell fc 0
  have z1 := blk_cell fc 1
  have z2 := blk_cell fc 2
  have z3 := blk_cell fc 3
  have z4 := blk_cell fc 4
  have z5 := blk_cell fc 5
  have z6 := blk_cell fc 6
  have z7 := blk_cell fc 7
  have z8 := blk_cell fc 8
  have z9 := blk_cell fc 9
  have z10 := blk_cell fc 10
  have z11 := blk_cell fc 11
  simp only [List.getElem?_toArray, List.getElem?_cons_zero, List.getElem?_cons_succ] at z0 z1 z2 z3 z4 z5 z6 z7 z8 z9 z10 z11
  clear fc
  have fx := HS.out.hX
  rw [HCA.out] at fx
  have x14 := blk_cell fx 14
  have x15 := blk_cell fx 15
  have x16 := blk_cell fx 16
  have x17 := blk_cell fx 17
  simp only [List.getElem?_toArray, List.getElem?_cons_zero, List.getElem?_cons_succ] at x14 x15 x16 x17
  clear fx
  have fy := HS.out.hY
  have y_11 := blk_cell fy 11
  simp only [List.getElem?_toArray, List.getElem?_cons_zero, List.getElem?_cons_succ] at y_11
  clear fy
  go_upto_region 9 with (first
   | (go_at_call 35; refine (governorref16_Step.calls k _ _ _ _ _ _ _ _ _ _ _ _ _ _ _ _ _ _ _ _ _ _ _ _ _ _ _ (Kd.C_below HR15.out HS.out.hB) HC15.out FP.out).mono ?_; rintro e_ w9 ⟨v15, rfl, q15, hb⟩; obtain ⟨B15, d15, rfl, _⟩ := Kd.Q_slice q15; have HQ := Aside0.mk (Kd.Q_lower q15 HS.out.hB.size); replace HS := Aside0.mk (HS.out.below hb); clear hb q15)
   | ((with_reducible refine gate_dst (N := 13) rfl ?_); refine box_event ?hg (N := 13) ?hd (cs := #[.int .i64 0, .slice none 0 0, .int .i64 0, .int .i64 0]) (t := 34) ?hr ?_; (case hd => rfl); (case hg => rfl); (case hr => first | (go_simp; done) | (go_simp; rfl)); intro g13 hg w10 hbox hb; have gc0 := blk_cell hbox 0; have gf0 := blk_frozen hbox 0; have gc1 := blk_cell hbox 1; have gf1 := blk_frozen hbox 1; have gc2 := blk_cell hbox 2; have gf2 := blk_frozen hbox 2; have gc3 := blk_cell hbox 3; have gf3 := blk_frozen hbox 3; simp only [List.getElem?_toArray, List.getElem?_cons_zero, List.getElem?_cons_succ] at gc0 gc1 gc2 gc3; have HG5 := Aside0.mk hbox; have HB5 := Aside0.mk hb; have HE5 := Aside0.mk (show w9.heap.size ≤ g13 by omega); clear hbox hb hg)
   | ((with_reducible refine gate_dst (N := 14) rfl ?_); refine box_event ?hg (N := 14) ?hd (cs := #[.int .i64 0, .bool false]) (t := 52) ?hr ?_; (case hd => rfl); (case hg => rfl); (case hr => first | (go_simp; done) | (go_simp; rfl)); intro g14 hg w11 hbox hb; have HLT := Aside0.mk (show g13 < g14 by rw [hg]; exact blk_lt HG5.out); replace HG5 := Aside0.mk (blk_below HG5.out hb); have HG4 := Aside0.mk hbox; clear gc0 gc1 gc2 gc3 gf0 gf1 gf2 gf3; have hk := HG5.out; have gc0 := blk_cell hk 0; have gf0 := blk_frozen hk 0; have gc1 := blk_cell hk 1; have gf1 := blk_frozen hk 1; have gc2 := blk_cell hk 2; have gf2 := blk_frozen hk 2; have gc3 := blk_cell hk 3; have gf3 := blk_frozen hk 3; simp only [List.getElem?_toArray, List.getElem?_cons_zero, List.getElem?_cons_succ] at gc0 gc1 gc2 gc3; clear hk; have ic0 := blk_cell hbox 0; have if0 := blk_frozen hbox 0; have ic1 := blk_cell hbox 1; have if1 := blk_frozen hbox 1; simp only [List.getElem?_toArray, List.getElem?_cons_zero, List.getElem?_cons_succ] at ic0 ic1; have HE4 := Aside0.mk (show w9.heap.size ≤ g14 by have h1 := HB5.out.size; omega); replace HB5 := Aside0.mk (below_step HB5.out hb); have hne := HLT.out; clear hbox hb hg))
  have HBA := Aside0.mk (below_set (g := g14) (j := 1) (v := .bool bad) (below_set (g := g14) (j := 0) (v := .int .i64 cost) (below_set (g := g13) (j := 3) (v := .int .i64 ut') (below_set (g := g13) (j := 2) (v := .int .i64 wt') (below_set (g := g13) (j := 1) (v := .slice B15 l15'.length d15) (below_set (g := g13) (j := 0) (v := .int .i64 R') (HB5.out) HE5.out) HE5.out) HE5.out) HE5.out) HE4.out) HE4.out)
  replace HS := Aside0.mk (HS.out.below HBA.out)
  replace HQ := Aside0.mk (Kd.Q_below HQ.out HBA.out)
  replace HG5 : Aside0 ((_ : World).heap[g13]? = some (.cells #[.int .i64 R', .slice B15 l15'.length d15, .int .i64 wt', .int .i64 ut'] 34 (0, 0))) := Aside0.mk (blk_far (p := ⟨g14, 1, none⟩) (blk_far (p := ⟨g14, 0, none⟩) (blk_put (blk_put (blk_put (blk_put (HG5.out) 0 (.int .i64 R') rfl) 1 (.slice B15 l15'.length d15) rfl) 2 (.int .i64 wt') rfl) 3 (.int .i64 ut') rfl) (by show g13 ≠ g14; omega) (.int .i64 cost)) (by show g13 ≠ g14; omega) (.bool bad))
  replace HG4 : Aside0 ((_ : World).heap[g14]? = some (.cells #[.int .i64 cost, .bool bad] 52 (0, 0))) := Aside0.mk (blk_put (blk_put (blk_far (p := ⟨g13, 3, none⟩) (blk_far (p := ⟨g13, 2, none⟩) (blk_far (p := ⟨g13, 1, none⟩) (blk_far (p := ⟨g13, 0, none⟩) (HG4.out) (by show g14 ≠ g13; omega) (.int .i64 R')) (by show g14 ≠ g13; omega) (.slice B15 l15'.length d15)) (by show g14 ≠ g13; omega) (.int .i64 wt')) (by show g14 ≠ g13; omega) (.int .i64 ut')) 0 (.int .i64 cost) rfl) 1 (.bool bad) rfl)
  clear HBA
  generalize (((((w11.setCell _ _).setCell _ _).setCell _ _).setCell _ _).setCell _ _).setCell _ _ = W12 at HS HQ HG5 HG4 ⊢
  clear HB5 HE5 HE4 FP HLT hne gc0 gc1 gc2 gc3 gf0 gf1 gf2 gf3 ic0 ic1 if0 if1 y_11 z0 z1 z2 z3 z4 z5 z6 z7 z8 z9 z10 z11 x14 x15 x16 x17
  have fg := HG5.out
  have g0 := blk_cell fg 0
  have g1 := blk_cell fg 1
  have g2 := blk_cell fg 2
  have g3 := blk_cell fg 3
  simp only [List.getElem?_toArray, List.getElem?_cons_zero, List.getElem?_cons_succ] at g0 g1 g2 g3
  have fy := HS.out.hY
  have y_14 := blk_cell fy 14
  have y_15 := blk_cell fy 15
  have y_16 := blk_cell fy 16
  have y_17 := blk_cell fy 17
  simp only [List.getElem?_toArray, List.getElem?_cons_zero, List.getElem?_cons_succ] at y_14 y_15 y_16 y_17
  have yf14 := blk_frozen fy 14
  have yf15 := blk_frozen fy 15
  have yf16 := blk_frozen fy 16
  have yf17 := blk_frozen fy 17
  clear fg fy
  have hn4 : g14 ≠ G := by intro h; have h1 := HG4.out; rw [h, HS.out.hY] at h1; cases h1
  go_upto_region 10 with (fail)
  replace HG4 := Aside0.mk (blk_far (p := ⟨G, 17, none⟩) (blk_far (p := ⟨G, 16, none⟩) (blk_far (p := ⟨G, 15, none⟩) (blk_far (p := ⟨G, 14, none⟩) (HG4.out) hn4 (.int .i64 R')) hn4 (.slice B15 l15'.length d15)) hn4 (.int .i64 wt')) hn4 (.int .i64 ut'))
  replace HQ := Aside0.mk (Kd.Q_set HQ.out HS.out.hY (by decide) 14 (.int .i64 R'))
  replace HS := Aside0.mk (HS.out.put (cs' := #[.int .i64 y0, .int .i64 y1, .slice A2 m2.length c2, .int .i64 y3, .int .i64 y4, .int .i64 y5, .int .i64 y6, .slice A7 m7.length c7, .int .i64 n0, .int .i64 n1, .bool n2, .int .i64 k0, .int .i64 k1, .bool k2, .int .i64 R', .slice A15 m15.length c15, .int .i64 y16, .int .i64 y17, .slice A18 m18.length c18]) 14 (.int .i64 R') rfl)
  replace HQ := Aside0.mk (Kd.Q_set HQ.out HS.out.hY (by decide) 15 (.slice B15 l15'.length d15))
  replace HS := Aside0.mk (HS.out.put (cs' := #[.int .i64 y0, .int .i64 y1, .slice A2 m2.length c2, .int .i64 y3, .int .i64 y4, .int .i64 y5, .int .i64 y6, .slice A7 m7.length c7, .int .i64 n0, .int .i64 n1, .bool n2, .int .i64 k0, .int .i64 k1, .bool k2, .int .i64 R', .slice B15 l15'.length d15, .int .i64 y16, .int .i64 y17, .slice A18 m18.length c18]) 15 (.slice B15 l15'.length d15) rfl)
  replace HQ := Aside0.mk (Kd.Q_set HQ.out HS.out.hY (by decide) 16 (.int .i64 wt'))
  replace HS := Aside0.mk (HS.out.put (cs' := #[.int .i64 y0, .int .i64 y1, .slice A2 m2.length c2, .int .i64 y3, .int .i64 y4, .int .i64 y5, .int .i64 y6, .slice A7 m7.length c7, .int .i64 n0, .int .i64 n1, .bool n2, .int .i64 k0, .int .i64 k1, .bool k2, .int .i64 R', .slice B15 l15'.length d15, .int .i64 wt', .int .i64 y17, .slice A18 m18.length c18]) 16 (.int .i64 wt') rfl)
  replace HQ := Aside0.mk (Kd.Q_set HQ.out HS.out.hY (by decide) 17 (.int .i64 ut'))
  replace HS := Aside0.mk (HS.out.put (cs' := #[.int .i64 y0, .int .i64 y1, .slice A2 m2.length c2, .int .i64 y3, .int .i64 y4, .int .i64 y5, .int .i64 y6, .slice A7 m7.length c7, .int .i64 n0, .int .i64 n1, .bool n2, .int .i64 k0, .int .i64 k1, .bool k2, .int .i64 R', .slice B15 l15'.length d15, .int .i64 wt', .int .i64 ut', .slice A18 m18.length c18]) 17 (.int .i64 ut') rfl)
  generalize (((W12.setCell _ _).setCell _ _).setCell _ _).setCell _ _ = W13 at HS HQ HG4 ⊢
  clear HG5 g0 g1 g2 g3 y_14 y_15 y_16 y_17 yf14 yf15 yf16 yf17
  have fc := HS.out.hC
  rw [HCC.out] at fc
  have z7 := blk_cell fc 7
  simp only [List.getElem?_toArray, List.getElem?_cons_zero, List.getElem?_cons_succ] at z7
  clear fc
  have fx := HS.out.hX
  rw [HCA.out] at fx
  have x18 := blk_cell fx 18
  simp only [List.getElem?_toArray, List.getElem?_cons_zero, List.getElem?_cons_succ] at x18
  clear fx
  have fg := HG4.out
  have g0 := blk_cell fg 0
  have g1 := blk_cell fg 1
  simp only [List.getElem?_toArray, List.getElem?_cons_zero, List.getElem?_cons_succ] at g0 g1
  clear fg
  go_upto_region 11 with (go_at_call 36; refine (governorref17_Add.calls _ _ _ _ _ _ _ _ (Kd.C_below HR18.out HS.out.hB) HC18.out FA.out).mono ?_; rintro e_ w14 ⟨v18, rfl, q18, hb⟩; obtain ⟨B18, d18, rfl, _⟩ := Kd.Q_slice q18; have HQ8 := Aside0.mk (Kd.Q_lower q18 HS.out.hB.size); replace HQ := Aside0.mk (Kd.Q_below HQ.out hb); replace HS := Aside0.mk (HS.out.below hb); clear hb q18; have fy := HS.out.hY; have y_18 := blk_cell fy 18; have yf18 := blk_frozen fy 18; simp only [List.getElem?_toArray, List.getElem?_cons_zero, List.getElem?_cons_succ] at y_18; clear fy)
  replace HQ := Aside0.mk (Kd.Q_set HQ.out HS.out.hY (by decide) 18 (.slice B18 l18'.length d18))
  replace HQ8 := Aside0.mk (Kd.Q_set HQ8.out HS.out.hY (by decide) 18 (.slice B18 l18'.length d18))
  replace HS := Aside0.mk (HS.out.put (cs' := #[.int .i64 y0, .int .i64 y1, .slice A2 m2.length c2, .int .i64 y3, .int .i64 y4, .int .i64 y5, .int .i64 y6, .slice A7 m7.length c7, .int .i64 n0, .int .i64 n1, .bool n2, .int .i64 k0, .int .i64 k1, .bool k2, .int .i64 R', .slice B15 l15'.length d15, .int .i64 wt', .int .i64 ut', .slice B18 l18'.length d18]) 18 (.slice B18 l18'.length d18) rfl)
  generalize w14.setCell _ _ = W15 at HS HQ HQ8 ⊢
  clear HG4 hn4 FA z7 x18 g0 g1 y_18 yf18
  obtain ⟨cs, hcs⟩ : ∃ cs : Array Value, cs = #[.int .i64 y0, .int .i64 y1, .slice A2 m2.length c2, .int .i64 y3, .int .i64 y4, .int .i64 y5, .int .i64 y6, .slice A7 m7.length c7, .int .i64 n0, .int .i64 n1, .bool n2, .int .i64 k0, .int .i64 k1, .bool k2, .int .i64 R', .slice B15 l15'.length d15, .int .i64 wt', .int .i64 ut', .slice B18 l18'.length d18] := ⟨_, rfl⟩
  rw [← hcs] at HS
  have HCS := Aside0.mk hcs
  clear hcs
  have hsz : cs.size = 19 := by rw [HCS.out]; rfl
  have hinfo : (Try.prog.info? 37).map (·.size) = some cs.size := by rw [HCS.out]; kernel_rfl
  have cp := cp_row (P := Try.prog) (cs := cs) HS.out.hZ (by rw [HCS.out, HCZ.out]; rfl) (by rw [HCS.out]; intro v hv; simp only [List.mem_cons, List.not_mem_nil, or_false] at hv; rcases hv with rfl | rfl | rfl | rfl | rfl | rfl | rfl | rfl | rfl | rfl | rfl | rfl | rfl | rfl | rfl | rfl | rfl | rfl | rfl <;> rfl)
  have hst := cp.1
  have HCP := Aside0.mk cp.2.1
  have HI := Aside0.mk hinfo
  clear cp hinfo
  have hne : G ≠ w.heap.size + 2 := by have h := HS.out.lt; omega
  go_wp2_with ((with_reducible refine gate_dst (N := 68) rfl ?_); refine load_pre rfl 37 (.tmp 9) rfl G rfl cs _ (range_row HS.out.hY) hu1 rfl HI.out ?_)
  have hB := Aside0.mk (below_cells (g := w.heap.size + 2) (vs := cs.toList) HS.out.hB (by omega))
  have V2 := Aside0.mk (Kd.R_cells (vs := cs.toList) HS.out.u2 HS.out.hZ (by decide))
  have V7 := Aside0.mk (Kd.R_cells (vs := cs.toList) HS.out.u7 HS.out.hZ (by decide))
  have V15 := Aside0.mk (Kd.Q_cells (vs := cs.toList) HQ.out HS.out.hZ (by decide))
  have V18 := Aside0.mk (Kd.Q_cells (vs := cs.toList) HQ8.out HS.out.hZ (by decide))
  generalize W15.setCells _ _ _ = W5 at HCP hB V2 V7 V15 V18 ⊢
  refine bodyPost_ret (results_cell_row rfl _ _ (w.heap.size + 2) 37 cs (0, 0) _ rfl HCP.out hu1 rfl HI.out) rfl ?_
  exact ⟨_, _, _, _, by rw [HCS.out], V2.out, V7.out, V15.out, V18.out, hB.out⟩
/-! ### governorref16_New: function 38 -/
/-! ### governorref18_New: function 17 -/
end Go.Proofs.Ytefgoffaidjiaaa.PAll
namespace Go.Proofs.Ytefgoffaidjiaaa.PAll
open Go.RowKit Go.Proofs.YtefgoffaidjiaaaW.PrintWords Go.Proofs.YtefgoffaidjiaaaW.PrintLast Go.Proofs.YtefgoffaidjiaaaW.PrintMore
set_option linter.unusedVariables false
set_option linter.unusedSimpArgs false
set_option maxHeartbeats 8000000 in
set_option maxRecDepth 100000 in
theorem rstep_w {k : Nat} {c : S23} {x y : S37} {d n : Int} {cs : Array Value} {w : World} (hx : k37.K w x cs.toList) (h : governorref18_Step.f k c.f0 c.f1 c.f2 c.f3 c.f4 c.f5 c.f6 c.f7 c.f8 c.f9 c.f10 c.f11 x.f0.f0 x.f0.f1 x.f0.f2 x.f0.f3 x.f0.f4 x.f0.f5 x.f0.f6 x.f0.f7 x.f1.f0 x.f1.f1 x.f1.f2 x.f2.f0 x.f2.f1 x.f2.f2 x.f3.f0 x.f3.f1 x.f3.f2 x.f3.f3 x.f4 d n = some (tup y)) :
    Calls Try.prog 15 #[.agg #[.int .i64 c.f0, .int .i64 c.f1, .int .i64 c.f2, .int .i64 c.f3, .int .i64 c.f4, .int .i64 c.f5, .int .i64 c.f6, .int .i64 c.f7, .int .i64 c.f8, .int .i64 c.f9, .int .i64 c.f10, .int .i64 c.f11], .agg cs, .int .i64 d, .int .i64 n] w fun e w' => ∃ cs' : Array Value, e = .returned (.agg cs') ∧ OwnX w.heap.size w' y cs' ∧ Below w.heap.size w w' := by
  obtain ⟨A2, c2, A7, c7, A15, c15, A18, c18, e, l2, g2, l7, g7, l15, g15, l18, g18⟩ := k37_open hx
  obtain rfl : cs = #[.int .i64 x.f0.f0, .int .i64 x.f0.f1, .slice A2 x.f0.f2.length c2, .int .i64 x.f0.f3, .int .i64 x.f0.f4, .int .i64 x.f0.f5, .int .i64 x.f0.f6, .slice A7 x.f0.f7.length c7, .int .i64 x.f1.f0, .int .i64 x.f1.f1, .bool x.f1.f2, .int .i64 x.f2.f0, .int .i64 x.f2.f1, .bool x.f2.f2, .int .i64 x.f3.f0, .slice A15 x.f3.f1.length c15, .int .i64 x.f3.f2, .int .i64 x.f3.f3, .slice A18 x.f4.length c18] := by cases cs; simpa using e
  refine (governorref18_Step.calls k _ _ _ _ _ _ _ _ _ _ _ _ _ _ _ _ _ _ _ _ _ _ _ _ _ _ _ _ _ _ _ _ _ _ _ _ _ _ _ _ _ _ _ _ _ _ _ _ _ _ _ _ _ _ _ _ _ _ _ _ w g2 l2 g7 l7 g15 l15 g18 l18 h).mono ?_
  rintro e w' ⟨v2, v7, v15, v18, rfl, q2, q7, q15, q18, hb⟩
  exact ⟨_, rfl, ⟨v2, v7, v15, v18, rfl, Kd.Q_of_R q2, Kd.Q_of_R q7, q15, q18⟩, hb⟩
theorem refSat_eq (a : Int) : governorref08_Sat.f a = some (satI a) := by
  unfold governorref08_Sat.f satI mx mn
  by_cases h1 : a > 1000000000
  · rw [if_pos h1]; congr 1; omega
  · rw [if_neg h1]
    by_cases h2 : a < -1000000000
    · rw [if_pos h2]; congr 1; omega
    · rw [if_neg h2]; congr 1; omega
theorem refMul_eq (a b : Int) : governorref08_Mul.f a b = fixed_Mul.f a b := by
  have hp := prod_in (satI_lo a) (satI_hi a) (satI_lo b) (satI_hi b)
  have hd := tdivB (b := 1000) (N := 1000000000000000000) hp.1 hp.2
  unfold governorref08_Mul.f fixed_Mul.f mulI
  simp only [refSat_eq, Option.bind_some]
  rw [wr (n := satI a * satI b) (by omega) (by omega), wr (by omega) (by omega)]
theorem refDiv_eq (k : Nat) (a b : Int) : governorref08_Div.f (k + 1 + 1) a b = fixed_Div.f a b := by
  have h0 := satI_lo a
  have h1 := satI_hi a
  unfold governorref08_Div.f fixed_Div.f
  simp only [refSat_eq, Option.bind_some]
  generalize satI a = x at h0 h1 ⊢
  generalize satI b = y
  unfold divI
  have hin := tdivB (b := y) (N := 1000000000000) (show -1000000000000 ≤ x * 1000 by omega) (by omega)
  by_cases c : y = 0
  · rw [if_pos c, if_pos c]
    by_cases c1 : x > 0
    · simp only [governorref08_Div.j0, c1, decide_true, reduceIte]
      rw [if_neg (by omega), satI_big (by omega)]
    · simp only [governorref08_Div.j0, c1, decide_false, Bool.false_eq_true, reduceIte]
      rw [if_pos c]
      by_cases c2 : x < 0
      · simp only [governorref08_Div.j1, c2, decide_true, reduceIte]
        rw [if_neg (by omega), satI_small (by omega)]
      · simp only [governorref08_Div.j1, c2, decide_false, Bool.false_eq_true, reduceIte]
        rw [if_pos c, if_pos (by omega)]
        rfl
  · rw [if_neg c, if_neg c]
    simp only [governorref08_Div.j0, governorref08_Div.j1, Bool.false_eq_true, reduceIte]
    rw [if_neg c, if_neg c]
    rw [wr (n := 1000 * x) (by omega) (by omega), Int.mul_comm 1000 x, wr (by omega) (by omega), refSat_eq]
    rfl
theorem refUp_eq (a : Int) : governorref08_Up.f a = some (upI (satI a)) := by
  have h0 := satI_lo a
  have h1 := satI_hi a
  unfold governorref08_Up.f
  simp only [refSat_eq, Option.bind_some]
  generalize satI a = x at h0 h1 ⊢
  have hin := tdivB (b := 1000) (N := 1000000000) h0 h1
  have hk : Int.tdiv x 1000 = if 0 ≤ x then x / 1000 else -((-x) / 1000) := by
    by_cases c : 0 ≤ x
    · rw [if_pos c, tdiv_pos c]
    · rw [if_neg c, tdiv_ng (by omega)]
  generalize Int.tdiv x 1000 = q at hin hk ⊢
  unfold upI
  rw [wr (n := q) (by omega) (by omega), wr (n := q * 1000) (by omega) (by omega), wr (n := q + 1) (by omega) (by omega)]
  by_cases c : q * 1000 < x
  · rw [if_pos c]; congr 1; omega
  · rw [if_neg c]; congr 1; omega
theorem refAdd_eq (a b : Int) : governorref08_Add.f a b = fixed_Add.f a b := by
  have h0 := satI_lo a
  have h1 := satI_hi a
  have h2 := satI_lo b
  have h3 := satI_hi b
  unfold governorref08_Add.f fixed_Add.f
  simp only [refSat_eq, Option.bind_some]
  rw [wr (by omega) (by omega)]
theorem refSub_eq (a b : Int) : governorref08_Sub.f a b = fixed_Sub.f a b := by
  have h0 := satI_lo a
  have h1 := satI_hi a
  have h2 := satI_lo b
  have h3 := satI_hi b
  unfold governorref08_Sub.f fixed_Sub.f
  simp only [refSat_eq, Option.bind_some]
  rw [wr (by omega) (by omega)]
theorem refNear_eq (a : Int) : governorref08_Near.f a = fixed_Near.f a := by
  have h0 := satI_lo a
  have h1 := satI_hi a
  unfold governorref08_Near.f fixed_Near.f
  simp only [refSat_eq, Option.bind_some]
  generalize satI a = x at h0 h1 ⊢
  rw [nearI_lin h0 h1]
  by_cases c : x < 0
  · rw [if_pos c, if_pos c, wr (n := -x) (by omega) (by omega), wr (n := -x + 500) (by omega) (by omega), tdiv_pos (by omega), wr (n := (-x + 500) / 1000) (by omega) (by omega), wr (by omega) (by omega)]
  · rw [if_neg c, if_neg c, wr (n := x + 500) (by omega) (by omega), tdiv_pos (by omega), wr (by omega) (by omega)]
theorem refAt_eq {p t : Int} (hp1 : 1 ≤ p) (hp2 : p ≤ 1099511627776) : governorref13_At.f p t = some (t % p) := by
  unfold governorref13_At.f
  rw [if_neg (by omega)]
  have hb := tmod_bounds t p (by omega)
  have he := tmod_emod t p
  by_cases h : Int.tmod t p < 0
  · rw [if_pos h, wr (by omega) (by omega), ← he]
    congr 1
    have h1 : (Int.tmod t p + p) % p = Int.tmod t p + p := Int.emod_eq_of_lt (by omega) (by omega)
    rw [← h1, Int.add_emod_right]
  · rw [if_neg h, ← he, Int.emod_eq_of_lt (by omega) (by omega)]
/-- THE REFERENCE's LOOP. -/
theorem ref_loop (l : List S58) (a : Int) (hl : l.length ≤ 8) (d : Nat) : ∀ (k i : Nat), i + d = l.length → d < k → governorref13_Want.l0 k l a (backS (l.take i) a) (i : Int) = some (backS l a) := by
  induction d with
  | zero =>
    intro k i hd hk
    obtain ⟨k, rfl⟩ : ∃ m, k = m + 1 := ⟨k - 1, by omega⟩
    simp only [governorref13_Want.l0]
    rw [if_neg (by omega), List.take_of_length_le (by omega)]
  | succ d ih =>
    intro k i hd hk
    obtain ⟨k, rfl⟩ : ∃ m, k = m + 1 := ⟨k - 1, by omega⟩
    have hi : i < l.length := by omega
    simp only [governorref13_Want.l0]
    rw [if_pos (by omega), if_pos (by omega), wr (by omega) (by omega), rd_at l i hi]
    have h := ih k (i + 1) (by omega) (by omega)
    rw [take_snoc l i hi, backS_snoc] at h
    rw [show ((i + 1 : Nat) : Int) = (i : Int) + 1 by omega] at h
    by_cases hc : l[i].f0 ≤ a
    · rw [if_pos hc] at h ⊢; exact h
    · rw [if_neg hc] at h ⊢; exact h
theorem schedRef_eq {p : Int} {l : List S58} {t : Int} {k : Nat} (hl : l.length ≤ 8) (hk : 20 ≤ k) (hp1 : 1 ≤ p) (hp2 : p ≤ 1099511627776) : governorref13_Want.f k p l t = some (backS l (t % p)) := by
  unfold governorref13_Want.f
  rw [refAt_eq hp1 hp2]
  have h := ref_loop l (t % p) hl l.length k 0 (by omega) (by omega)
  rw [List.take_zero, backS_nil] at h
  exact h
theorem refFind_loop {l : List S56} (hs : SortedS l) (hl : l.length ≤ 8) (u : Int) (d : Nat) : ∀ (k : Nat) (i acc : Int), 0 ≤ i → i + (d : Int) = (l.length : Int) → d < k → acc = (if findS l u < i then findS l u else i - 1) →
    governorref11_Find.l0 k l u acc i = some (findS l u) := by
  have hin := findS_in l u
  induction d with
  | zero =>
    intro k i acc h0 hd hk ha
    obtain ⟨k, rfl⟩ : ∃ m, k = m + 1 := ⟨k - 1, by omega⟩
    simp only [governorref11_Find.l0]
    rw [if_neg (by omega), ha, if_pos (by omega)]
  | succ d ih =>
    intro k i acc h0 hd hk ha
    obtain ⟨k, rfl⟩ : ∃ m, k = m + 1 := ⟨k - 1, by omega⟩
    simp only [governorref11_Find.l0]
    rw [if_pos (by omega), if_pos h0, wr (n := i + 1) (by omega) (by omega)]
    have hf := find_iff hs u i h0 (by omega)
    by_cases c : (rd_T56 l i).f0 ≤ u
    · rw [if_pos c]
      have := hf.1 c
      refine ih k (i + 1) i (by omega) (by omega) (by omega) ?_
      by_cases q : findS l u < i + 1
      · rw [if_pos q]; omega
      · rw [if_neg q]; omega
    · rw [if_neg c]
      have := mt hf.2 c
      refine ih k (i + 1) acc (by omega) (by omega) (by omega) ?_
      rw [ha, if_pos (by omega), if_pos (by omega)]
theorem refFind_eq {l : List S56} (R : BandsP l) (u : Int) (k : Nat) (hk : 20 ≤ k) : governorref11_Find.f k l u = some (findS l u) := by
  have n8 := R.n8
  have hin := findS_in l u
  exact refFind_loop (bands_sorted R) R.n8 u l.length k 0 (-1) (Int.le_refl _) (by omega) (by omega) (by by_cases q : findS l u < 0; · rw [if_pos q]; omega
                                                                                                         · rw [if_neg q]; omega)
theorem stepRef_eq {l : List S56} (R : BandsP l) (c u : Int) (k : Nat) (hk : 20 ≤ k) : governorref11_Want.f k l c u = step_Want.f l c u := by
  have hin := findS_in l u
  unfold governorref11_Want.f
  rw [refFind_eq R u k hk, stepWant_eq (bands_sorted R)]
  simp only [Option.bind_some]
  have e : mn (mx c 0) 1000 = cl0 c := by unfold cl0 mx mn; omega
  have e2 : ∀ n, mn (mx n 0) 1000 = cl0 n := fun n => by unfold cl0 mx mn; omega
  rw [e]
  by_cases q : findS l u ≥ 0
  · rw [if_pos q, if_pos q, if_pos q, if_pos (by omega), e2]
  · rw [if_neg q, if_neg q, e2, cl0_same (cl0_in c).1 (cl0_in c).2]
theorem refPid_eq (m t : Int) (lb : List S56) (kp ki kd x : Int) (lw : List S58) (s p : Int) (h : Bool) (u : Int) :
    governorref12_Next.f m t lb kp ki kd x lw s p h u = some (sumI s (errI t u), errI t u, true, pidN kp ki kd (errI t u) (sumI s (errI t u)) (chgI h p (errI t u))) := by
  have hA : ∀ a b, fixed_Add.f a b = some (satI (satI a + satI b)) := fun _ _ => rfl
  have hS : ∀ a b, fixed_Sub.f a b = some (satI (satI a - satI b)) := fun _ _ => rfl
  have hM : ∀ a b, fixed_Mul.f a b = some (satI (mulI (satI a) (satI b))) := fun _ _ => rfl
  have hN : ∀ a, fixed_Near.f a = some (nearI (satI a)) := fun _ => rfl
  have e : ∀ n, mn (mx n (-1000)) 1000 = mx (-1000) (mn 1000 n) := fun n => by unfold mx mn; omega
  unfold governorref12_Next.f
  cases h <;> simp only [refAdd_eq, refSub_eq, refMul_eq, refNear_eq, hA, hS, hM, hN, e, Option.bind_some, reduceIte, Bool.false_eq_true] <;> simp [sumI, errI, pidN, pidW, chgI]
theorem trackRef_eq (k t c u : Int) (n : Nat) (hn : 20 ≤ n) : governorref10_Want.f n t c u = some (FT (cl t 1 1000000000) (cl c 0 1000 * cl u 0 1000000000)) := by
  obtain ⟨n, rfl⟩ : ∃ m, n = m + 1 + 1 := ⟨n - 2, by omega⟩
  have hc := cl_in c 0 1000 (by decide)
  have hu := cl_in u 0 1000000000 (by decide)
  have ht := cl_in t 1 1000000000 (by decide)
  rw [← trackWant_eq]
  unfold governorref10_Want.f track_Want.f
  simp only [into_eq c 0 1000 (by decide), into64_eq u 0 1000000000 (by decide), into64_eq t 1 1000000000 (by decide), Option.bind_some]
  rw [show mn (mx c 0) 1000 = cl c 0 1000 from rfl, show mn (mx u 0) 1000000000 = cl u 0 1000000000 from rfl, show mn (mx t 1) 1000000000 = cl t 1 1000000000 from rfl]
  rw [wr (n := 1000 * cl c 0 1000) (by omega) (by omega), refMul_eq]
  have M : ∀ a b, fixed_Mul.f a b = some (satI (mulI (satI a) (satI b))) := fun _ _ => rfl
  have D : ∀ a b, fixed_Div.f a b = some (satI (divI (satI a) (satI b))) := fun _ _ => rfl
  have DR : ∀ a b, governorref08_Div.f (n + 1 + 1) a b = some (satI (divI (satI a) (satI b))) := fun a b => refDiv_eq n a b
  simp only [M, D, DR, refUp_eq, up_eq, Option.bind_some, into_eq _ 0 1000 (by decide)]
  rfl
theorem polRef_eq {kd : Int} {lb : List S56} {pe : Int} {ls : List S58} (R : PolP kd lb pe ls) (tg kp ki kdd s p : Int) (h : Bool) (c u t : Int) (k : Nat) (hk : 20 ≤ k) :
    governorref14_Next.f k kd tg lb kp ki kdd pe ls s p h c u t = some (polR kd tg lb kp ki kdd pe ls s p h (cl0 c) u t) := by
  have c0 := cl0_in c
  unfold governorref14_Next.f polR
  simp only [cl_cl0]
  by_cases h1 : kd = 1
  · rw [if_pos h1, if_pos h1]
    have b := trackF_in tg (cl0 c) u c0.1
    simp only [trackRef_eq 0 tg (cl0 c) u k hk, clT_cl0, cl0_cl0, Option.bind_some]
    rw [cl0_same b.1 b.2]
  · rw [if_neg h1, if_neg h1]
    by_cases h2 : kd = 2
    · rw [if_pos h2, if_pos h2]
      simp only [stepRef_eq (R.bands h2) (cl0 c) u k hk, stepWant_eq (bands_sorted (R.bands h2)), cl0_cl0, Option.bind_some]
      by_cases q : findS lb u ≥ 0
      · simp only [if_pos q, cl0_cl0]
      · simp only [if_neg q, cl0_cl0]
    · rw [if_neg h2, if_neg h2]
      by_cases h3 : kd = 3
      · rw [if_pos h3, if_pos h3]
        simp only [refPid_eq, Option.bind_some]
      · rw [if_neg h3, if_neg h3]
        by_cases h4 : kd = 4
        · have S := R.slots h4
          have b := backS_ok S (t % pe)
          rw [if_pos h4, if_pos h4]
          simp only [schedRef_eq S.n8 hk S.p1 S.p2, Option.bind_some]
          rw [cl0_same b.1 b.2]
        · rw [if_neg h4, if_neg h4, cl0_cl0]
theorem clamp_eq0 (a M : Int) (h : 0 ≤ M) : mx 0 (mn a M) = mn (mx a 0) M := by unfold mx mn; (repeat' split) <;> omega
/-! ### the reference's grow and shrink -/
theorem rsz_grow (d n R a wt ut : Int) (hd : 1 ≤ d) (hd8 : d ≤ 8) : ∀ (m : Nat) (l : List Int) (k : Nat), (d - (l.length : Int)).toNat = m → l.length ≤ 8 → m + 1 < k →
    governorref16_sized.l0 k d n l R ([] : List Int) wt ut = some (R, (if d - (l.length : Int) > 0 then l ++ List.replicate (d - (l.length : Int)).toNat 0 else l).set (d - 1).toNat (wrap64 (rd (if d - (l.length : Int) > 0 then l ++ List.replicate (d - (l.length : Int)).toNat 0 else l) (d - 1) + n)), wt, 0) := by
  intro m
  induction m with
  | zero =>
    intro l k hm hl hk
    obtain ⟨k, rfl⟩ : ∃ q, k = q + 1 := ⟨k - 1, by omega⟩
    rw [governorref16_sized.l0, if_neg (by omega), wr (n := d - 1) (by omega) (by omega), if_pos (by omega), if_pos (by omega), if_neg (show ¬ (d - (l.length : Int) > 0) by omega)]
  | succ m ih =>
    intro l k hm hl hk
    obtain ⟨k, rfl⟩ : ∃ q, k = q + 1 := ⟨k - 1, by omega⟩
    rw [governorref16_sized.l0, if_pos (by omega), if_pos (by omega), ih (l ++ [0]) k (by rw [List.length_append]; simp; omega) (by rw [List.length_append]; simp; omega) (by omega)]
    have e : (if d - ((l ++ [0]).length : Int) > 0 then (l ++ [0]) ++ List.replicate (d - ((l ++ [0]).length : Int)).toNat 0 else (l ++ [0])) = (if d - (l.length : Int) > 0 then l ++ List.replicate (d - (l.length : Int)).toNat 0 else l) := by
      have e1 : ((l ++ [0]).length : Int) = (l.length : Int) + 1 := by rw [List.length_append]; simp
      rw [e1, if_pos (show d - (l.length : Int) > 0 by omega)]
      have e2 : (d - (l.length : Int)).toNat = (d - ((l.length : Int) + 1)).toNat + 1 := by omega
      rw [e2, List.replicate_succ]
      by_cases c : d - ((l.length : Int) + 1) > 0
      · rw [if_pos c]; simp
      · rw [if_neg c, show (d - ((l.length : Int) + 1)).toNat = 0 by omega]; simp
    rw [e]
theorem rsz_shrink (l : List Int) (many R wt ut : Int) (l0 : List Int) (hl : l.length ≤ 8) : ∀ (m j k : Nat), m + j = l.length → m < k →
    governorref16_sized.l1 k (shr l many j).1 (shr l many j).2 ((l.length : Int) - 1 - (j : Int)) R l0 wt ut = some (wrap64 (R - (shr l many l.length).2), (shr l many l.length).1, wt, 0) := by
  intro m
  induction m with
  | zero =>
    intro j k hj hk
    obtain ⟨k, rfl⟩ : ∃ q, k = q + 1 := ⟨k - 1, by omega⟩
    rw [governorref16_sized.l1, if_neg (by omega), show j = l.length by omega]
  | succ m ih =>
    intro j k hj hk
    obtain ⟨k, rfl⟩ : ∃ q, k = q + 1 := ⟨k - 1, by omega⟩
    rw [governorref16_sized.l1, if_pos (by omega), if_pos (by omega), if_pos (by rw [shr_length]; omega)]
    have er : rd (shr l many j).1 ((l.length : Int) - 1 - (j : Int)) = rd l ((l.length : Int) - 1 - (j : Int)) := by
      rw [show (l.length : Int) - 1 - (j : Int) = ((l.length - 1 - j : Nat) : Int) by omega]
      exact shr_rest l many j _ (by omega)
    have e := ih (j + 1) k (by omega) (by omega)
    rw [er, wr (n := (l.length : Int) - 1 - (j : Int) - 1) (by omega) (by omega), show (l.length : Int) - 1 - (j : Int) - 1 = (l.length : Int) - 1 - ((j + 1 : Nat) : Int) by omega, show ((l.length : Int) - 1 - (j : Int)).toNat = l.length - 1 - j by omega]
    exact e
theorem rsized_eq {R d n wt ut : Int} {l : List Int} (h0 : 0 ≤ R) (hs : Small l) (hl : l.length ≤ 8) (hd0 : 0 ≤ d) (hd8 : d ≤ 8) (ha : R + l.sum ≤ 1000) (hn0 : 0 ≤ n) (hn : n ≤ 1000) (k : Nat) (hk : 24 ≤ k) :
    ∃ l', governorref16_sized.f k d R l wt ut n = some ((sizedL R d (n - (R + l.sum)) l).1, l', wt, 0) ∧ trimL l' = trimL (sizedL R d (n - (R + l.sum)) l).2 ∧ l'.length ≤ 8 := by
  have hsn := sum_nonneg hs
  have hal : allL R l = R + l.sum := allL_eq hs h0 (by omega) (by omega)
  obtain ⟨k, rfl⟩ : ∃ q, k = q + 1 := ⟨k - 1, by omega⟩
  have loops : ∀ (b : List Int) (x : Int), governorref16_sized.l0 k d x l R b wt ut = governorref16_sized.l0 k d x l R [] wt ut := fun b x => by
    have z : ∀ (k : Nat) (l : List Int), governorref16_sized.l0 k d x l R b wt ut = governorref16_sized.l0 k d x l R [] wt ut := by
      intro k
      induction k with
      | zero => intro l; rfl
      | succ k ih => intro l; simp only [governorref16_sized.l0, ih]
    exact z k l
  unfold governorref16_sized.f
  rw [show governorref16_All.f R l wt ut = some (allL R l) from by unfold governorref16_All.f; rw [if_pos (by omega)], hal]
  simp only [Option.bind_some, List.length_nil, List.nil_append, Nat.zero_add]
  rw [if_pos (by omega), wr (n := n - (R + l.sum)) (by omega) (by omega)]
  by_cases c1 : n - (R + l.sum) ≥ 0
  · rw [if_pos c1]
    by_cases c2 : d = 0
    · rw [governorref16_sized.j0, if_pos (by rw [c2]; rfl)]
      refine ⟨l, ?_, ?_, hl⟩
      · unfold sizedL
        by_cases c3 : 0 < n - (R + l.sum)
        · rw [if_pos c3, if_pos c2]
        · rw [if_neg c3, if_neg (by omega)]
          rw [wr (by omega) (by omega), show n - (R + l.sum) = 0 by omega, Int.add_zero]
      · unfold sizedL
        by_cases c3 : 0 < n - (R + l.sum)
        · rw [if_pos c3, if_pos c2]
        · rw [if_neg c3, if_neg (by omega)]
    · rw [governorref16_sized.j0, if_neg (by simp [c2]), if_pos c1, loops, rsz_grow d (n - (R + l.sum)) R 0 wt ut (by omega) hd8 _ l k rfl hl (by omega)]
      by_cases c3 : 0 < n - (R + l.sum)
      · have e : sizedL R d (n - (R + l.sum)) l = (R, growL d (n - (R + l.sum)) l) := by unfold sizedL; rw [if_pos c3, if_neg c2]
        rw [e]
        exact ⟨growL d (n - (R + l.sum)) l, rfl, rfl, (grow_spec hs hl (by omega) hd8 c1 (by omega)).len⟩
      · have e : sizedL R d (n - (R + l.sum)) l = (R, l) := by unfold sizedL; rw [if_neg c3, if_neg (by omega)]
        rw [e, show n - (R + l.sum) = 0 by omega]
        refine ⟨_, rfl, ?_, ?_⟩
        · obtain ⟨l2, hl2⟩ : ∃ l2, (if d - (l.length : Int) > 0 then l ++ List.replicate (d - (l.length : Int)).toNat 0 else l) = l2 := ⟨_, rfl⟩
          have h2 : Small l2 ∧ d ≤ (l2.length : Int) ∧ trimL l2 = trimL l := by
            rw [← hl2]
            by_cases c : d - (l.length : Int) > 0
            · rw [if_pos c]; exact ⟨small_append.2 ⟨hs, small_zeros _⟩, by rw [List.length_append, List.length_replicate]; omega, trimL_zeros _ _⟩
            · rw [if_neg c]; exact ⟨hs, by omega, rfl⟩
          rw [hl2]
          have hb := small_rd h2.1 (i := d - 1) (by omega) (by omega)
          rw [Int.add_zero, wr (by omega) (by omega)]
          have e3 : l2.set (d - 1).toNat (rd l2 (d - 1)) = l2 := by
            obtain ⟨q, hq⟩ : ∃ q : Nat, d - 1 = (q : Int) := ⟨(d - 1).toNat, by omega⟩
            rw [hq, Int.toNat_natCast, rd_get (by omega), List.set_getElem_self]
          rw [e3]
          exact h2.2.2
        · rw [List.length_set]
          split
          · rw [List.length_append, List.length_replicate]; omega
          · exact hl
  · rw [if_neg c1, governorref16_sized.j0, if_neg (by simp), if_neg c1, wr (n := -(n - (R + l.sum))) (by omega) (by omega), wr (n := (l.length : Int) - 1) (by omega) (by omega)]
    have e := rsz_shrink l (-(n - (R + l.sum))) R wt ut l hl l.length 0 k (by omega) (by omega)
    have e0 : (l.length : Int) - 1 = (l.length : Int) - 1 - ((0 : Nat) : Int) := by omega
    rw [e0]
    have e1 : governorref16_sized.l1 k l (-(n - (R + l.sum))) ((l.length : Int) - 1 - ((0 : Nat) : Int)) R l wt ut = _ := e
    rw [e1]
    have e2 : sizedL R d (n - (R + l.sum)) l = (wrap64 (R - (shr l (wrap64 (-(n - (R + l.sum)))) l.length).2), (shr l (wrap64 (-(n - (R + l.sum)))) l.length).1) := by unfold sizedL; rw [if_neg (by omega), if_pos (by omega)]
    rw [e2, wr (n := -(n - (R + l.sum))) (by omega) (by omega)]
    exact ⟨_, rfl, rfl, by rw [shr_length]; exact hl⟩
theorem rstep_eq {R wt ut delay cap slack : Int} {l : List Int} (P : PR R l wt ut) (C : CfP delay cap slack) (want dem c0 c1 c2 c3 c7 c8 c9 c10 c11 : Int) (k : Nat) (hk : 40 ≤ k) :
    governorref16_Step.f k c0 c1 c2 c3 cap delay slack c7 c8 c9 c10 c11 R l wt ut want dem = plant_Step.f c0 c1 c2 c3 cap delay slack c7 c8 c9 c10 c11 R l wt ut want dem := by
  rw [step_eq P C]
  obtain ⟨a1, a2, a3, a4, _⟩ := tick_spec P
  have hn := nW_in want
  have hall := P.all
  have hlen := P.len
  have S := stS_spec P C want
  have K := can_in P C want
  have T := todo_in P.w0 dem
  have hsn := sum_nonneg a2
  unfold governorref16_Step.f
  rw [if_pos (by omega)]
  obtain ⟨l', e1, e2, e3⟩ := rsized_eq (R := readyL R l) (l := l.drop 1) (d := delay) (n := nW want) (wt := wt) (ut := 0) a1 a2 a3 C.d0 C.d8 (by omega) hn.1 hn.2 k (by omega)
  rw [a4] at e1 e2
  rw [show sizedL (readyL R l) delay (nW want - (R + l.sum)) (l.drop 1) = stS R l delay want from rfl] at e1 e2
  rw [show mn (mx want 0) 1000 = nW want from (clamp_eq0 _ _ (by decide)).symm, e1]
  simp only [Option.bind_some]
  rw [if_pos (by omega)]
  have ed : mn (mx dem 0) 1000000 = demI dem := by unfold demI mx mn; (repeat' split) <;> omega
  have e4 : governorref08_Add.f wt (demI dem) = some (todoI wt dem) := by
    rw [refAdd_eq]
    show some (satI (satI wt + satI (demI dem))) = _
    rw [todo_eq P.w0 P.w1]
  rw [ed, e4]
  simp only [Option.bind_some]
  have e5 : mn (wrap64 ((stS R l delay want).1 * cap)) 1000000000 = canI R l delay want cap := by
    rw [show (stS R l delay want).1 * cap = canI R l delay want cap from rfl, wr (by omega) (by omega)]
    unfold mn
    split <;> omega
  rw [e5]
  obtain ⟨q, rfl⟩ : ∃ q, k = q + 1 + 1 := ⟨k - 2, by omega⟩
  rw [refDiv_eq]
  have e6 : fixed_Div.f (todoI wt dem) (canI R l delay want cap) = some (utilI R l delay want cap wt dem) := by
    show some (satI (divI (satI _) (satI _))) = _
    rw [satI_in (n := todoI wt dem) (by omega) (by omega), satI_in (n := canI R l delay want cap) (by omega) (by omega)]
    rfl
  rw [e6]
  simp only [Option.bind_some]
  rw [wr (n := todoI wt dem - canI R l delay want cap) (by omega) (by omega)]
  have e7 : mx (todoI wt dem - canI R l delay want cap) 0 = waitI R l delay want cap wt dem := by unfold waitI mx; (repeat' split) <;> omega
  rw [e7, e2, allL_eq (trimL_small S.sm) S.r0 (by have := S.r1; omega) (by have := trimL_length (stS R l delay want).2; have := S.len; omega), trimL_sum, S.all]
theorem radd_eq {w : Int} {l : List S52} (h : l.length ≤ 32) (w1 : 1 ≤ w) (w2 : w ≤ 32) (a : Int) (b : Bool) : governorref17_Add.f w l a b = some (addM w l ⟨a, b⟩) := by
  unfold governorref17_Add.f
  simp only [Option.bind_some, List.length_nil, List.nil_append, Nat.zero_add]
  rw [if_pos (by omega), if_pos (by simp; omega)]
  simp only [List.length_append, List.length_cons, List.length_nil, Nat.zero_add]
  have e : wrap64 (((l.length + 1 : Nat) : Int) - mn (mx w 0) ((l.length + 1 : Nat) : Int)) = ((((l.length : Int) + 1) - w).toNat : Int) := by
    rw [wr (by unfold mn mx; (repeat' split) <;> omega) (by unfold mn mx; (repeat' split) <;> omega)]
    unfold mn mx; (repeat' split) <;> omega
  rw [e, if_pos (by omega), if_pos (by omega)]
  rfl
theorem rstep_tells {c : S23} {x : S37} (C : CfgP c) (P : SimP x) (d now : Int) (n0 : 0 ≤ now) (n1 : now ≤ 1099511627776) (k : Nat) (hk : 40 ≤ k) :
    governorref18_Step.f k c.f0 c.f1 c.f2 c.f3 c.f4 c.f5 c.f6 c.f7 c.f8 c.f9 c.f10 c.f11 x.f0.f0 x.f0.f1 x.f0.f2 x.f0.f3 x.f0.f4 x.f0.f5 x.f0.f6 x.f0.f7 x.f1.f0 x.f1.f1 x.f1.f2 x.f2.f0 x.f2.f1 x.f2.f2 x.f3.f0 x.f3.f1 x.f3.f2 x.f3.f3 x.f4 d now = some (tup (stepS c x d now)) := by
  have h1 := P.pol.b8; have h2 := P.pol.s8; have h3 := P.pl.len; have h4 := P.ml
  unfold governorref18_Step.f stepS
  have ho : governorref18_Own.f x.f0.f0 x.f0.f1 x.f0.f2 x.f0.f3 x.f0.f4 x.f0.f5 x.f0.f6 x.f0.f7 x.f1.f0 x.f1.f1 x.f1.f2 x.f2.f0 x.f2.f1 x.f2.f2 x.f3.f0 x.f3.f1 x.f3.f2 x.f3.f3 x.f4 = some (tup x) := by
    unfold governorref18_Own.f
    rw [if_pos ⟨by omega, by omega, by omega, by omega⟩]
    rfl
  rw [ho]
  simp only [Option.bind_some]
  by_cases z : x.f0.f0 = 0
  · rw [if_pos (by simpa using z), if_pos z]
  · rw [if_neg (by simpa using z), if_neg z]
    have hcur : mn (mx x.f2.f0 c.f0) c.f1 = curI c x := by
      obtain ⟨q1, q2, q3, q4, q5, q6, q7⟩ := C.lim
      unfold curI mx mn; (repeat' split) <;> omega
    have hr : governorref15_Next.f c.f0 c.f1 c.f2 c.f3 c.f4 c.f5 c.f6 c.f7 c.f8 c.f9 c.f10 c.f11 x.f2.f0 x.f2.f1 x.f2.f2 (polS c x now).2.2.2 now = some (holdS c x (polS c x now).2.2.2 now) := rfl
    have hp : governorref14_Next.f k x.f0.f0 x.f0.f1 x.f0.f2 x.f0.f3 x.f0.f4 x.f0.f5 x.f0.f6 x.f0.f7 x.f1.f0 x.f1.f1 x.f1.f2 (curI c x) x.f3.f3 now = some (polS c x now) := polRef_eq P.pol x.f0.f1 x.f0.f3 x.f0.f4 x.f0.f5 x.f1.f0 x.f1.f1 x.f1.f2 (curI c x) x.f3.f3 now k (by omega)
    unfold governorref15_Into.f
    simp only [Option.bind_some]
    rw [hcur, hp]
    simp only [Option.bind_some]
    rw [hr]
    simp only [Option.bind_some]
    rw [rstep_eq P.pl C.pl _ _ _ _ _ _ _ _ _ _ _ k hk, step_eq P.pl C.pl]
    simp only [Option.bind_some]
    rw [radd_eq h4 C.w1 C.w2]
    rfl
end Go.Proofs.Ytefgoffaidjiaaa.PAll
