-- laid by a program of this session (tprint.py) out of the translation and of texts typed by hand; Lean checks it
import Derived.Test.YtgeldfjpafimpaaPAllx0
import Derived.Shelf.Abstract
namespace Go.Proofs.Ytgeldfjpafimpaa.PAll
open Go.RowKit Go.Proofs.YtgeldfjpafimpaaW.PrintWords Go.Proofs.YtgeldfjpafimpaaW.PrintLast Go.Proofs.YtgeldfjpafimpaaW.PrintMore
attribute [local go_sem] max2_int min2_int max_two min_two max_three min_three max_four min_four   -- for this text's walks alone
set_option linter.unusedVariables false
set_option linter.unusedSimpArgs false

/-! ### api_Band_int64: function 85 -/
def SortedS (l : List S83) : Prop := l.length ≤ 1000 ∧ l.Pairwise (fun a b => a.f0 < b.f0)
instance sortedDec (l : List S83) : Decidable (SortedS l) := inferInstanceAs (Decidable (_ ∧ _))
def findS (l : List S83) (u : Int) : Int := ((l.filter (fun b => decide (b.f0 ≤ u))).length : Int) - 1
def cutS (l : List S83) (u i j : Int) : Prop := (∀ m : Nat, (m : Int) < i → ∀ h : m < l.length, l[m].f0 ≤ u) ∧ (∀ m : Nat, j ≤ (m : Int) → ∀ h : m < l.length, u < l[m].f0)
theorem cutS_start (l : List S83) (u : Int) : cutS l u 0 (l.length : Int) := ⟨fun m h => by omega, fun m h h2 => by omega⟩
theorem rdS_at (l : List S83) (i : Int) (h0 : 0 ≤ i) (h : i < (l.length : Int)) : rd_T83 l i = l[i.toNat]'(by omega) := by
  have hi : i.toNat < l.length := by omega
  simp [rd_T83, hi]
theorem sortedS_le {l : List S83} (hs : SortedS l) (a b : Nat) (h : a < b) (hb : b < l.length) : l[a].f0 < l[b].f0 :=
  List.pairwise_iff_getElem.1 hs.2 a b (by omega) hb h
theorem cutS_le {l : List S83} {u i j h : Int} (hs : SortedS l) (hc : cutS l u i j) (h0 : 0 ≤ h) (hl : h < (l.length : Int)) (hle : (rd_T83 l h).f0 ≤ u) : cutS l u (h + 1) j := by
  rw [rdS_at l h h0 hl] at hle
  refine ⟨fun m hm hml => ?_, hc.2⟩
  by_cases e : m = h.toNat
  · subst e; exact hle
  · have := sortedS_le hs m h.toNat (by omega) (by omega)
    omega
theorem cutS_gt {l : List S83} {u i j h : Int} (hs : SortedS l) (hc : cutS l u i j) (h0 : 0 ≤ h) (hl : h < (l.length : Int)) (hgt : u < (rd_T83 l h).f0) : cutS l u i h := by
  rw [rdS_at l h h0 hl] at hgt
  refine ⟨hc.1, fun m hm hml => ?_⟩
  by_cases e : m = h.toNat
  · subst e; exact hgt
  · have := sortedS_le hs h.toNat m (by omega) (by omega)
    omega
theorem cutS_end {l : List S83} {u i : Int} (hc : cutS l u i i) (h0 : 0 ≤ i) (hl : i ≤ (l.length : Int)) : findS l u = i - 1 := by
  have e : (l.filter (fun b => decide (b.f0 ≤ u))) = l.take i.toNat := by
    have h1 : l = l.take i.toNat ++ l.drop i.toNat := (List.take_append_drop _ _).symm
    have h2 : (l.take i.toNat).filter (fun b => decide (b.f0 ≤ u)) = l.take i.toNat := by
      rw [List.filter_eq_self]
      intro a ha
      obtain ⟨m, hm, rfl⟩ := List.mem_iff_getElem.1 ha
      rw [List.length_take] at hm
      rw [List.getElem_take]
      exact decide_eq_true (hc.1 m (by omega) (by omega))
    have h3 : (l.drop i.toNat).filter (fun b => decide (b.f0 ≤ u)) = [] := by
      rw [List.filter_eq_nil_iff]
      intro a ha
      obtain ⟨m, hm, rfl⟩ := List.mem_iff_getElem.1 ha
      rw [List.length_drop] at hm
      rw [List.getElem_drop]
      have := hc.2 (i.toNat + m) (by omega) (by omega)
      simp; omega
    calc l.filter (fun b => decide (b.f0 ≤ u)) = (l.take i.toNat ++ l.drop i.toNat).filter (fun b => decide (b.f0 ≤ u)) := by rw [← h1]
      _ = l.take i.toNat := by rw [List.filter_append, h2, h3, List.append_nil]
  unfold findS
  rw [e, List.length_take]
  omega
set_option maxHeartbeats 2000000 in
theorem stepCmp_le (a d u : Int) (w : World) (h : a ≤ u) : Calls Try.prog 86 #[.agg #[.int .i64 a, .int .i64 d], .int .i64 u] w fun e w' => e = .returned (.int .i64 (-1)) ∧ Below w.heap.size w w' := by
  have hu := Try.underlying83
  go_enter Try.func86, Try.ntmps86
  go_wp2
  go_ret
  exact ⟨rfl, (Below.refl _ w).alloc (Nat.le_refl _) _⟩
set_option maxHeartbeats 2000000 in
theorem stepCmp_gt (a d u : Int) (w : World) (h : u < a) : Calls Try.prog 86 #[.agg #[.int .i64 a, .int .i64 d], .int .i64 u] w fun e w' => e = .returned (.int .i64 1) ∧ Below w.heap.size w w' := by
  have hu := Try.underlying83
  have hb : decide (a ≤ u) = false := decide_eq_false (by omega)
  go_enter Try.func86, Try.ntmps86
  go_wp2
  go_ret
  exact ⟨rfl, (Below.refl _ w).alloc (Nat.le_refl _) _⟩
set_option maxRecDepth 100000 in
set_option maxHeartbeats 4000000 in
theorem bs_any (A : Option Addr) (c : Nat) (l : List S83) (u : Int) (w : World) (hr0 : Kd.C k83 w A l.length l) (hs0 : SortedS l) :
    Calls Try.prog 85 #[.slice A l.length c, .int .i64 u, .func (.func 86) #[] #[]] w fun e w' => e = .returned (.tuple #[.int .i64 (findS l u + 1), .bool false]) ∧ Below w.heap.size w w' := by
  have hu := Try.underlying83
  have HR := Aside0.mk hr0
  have hs := Aside0.mk hs0
  have hl := hs0.1
  have hl0 : (0 : Int) ≤ (l.length : Int) := by omega
  have hl1 : (l.length : Int) ≤ 1000 := by omega
  clear hr0 hs0
  go_enter Try.func85, Try.ntmps85
  go_wp2
  go_loopw [9, 10] (fun vi vj wr => ∃ i j : Int, 0 ≤ i ∧ i ≤ j ∧ j ≤ (l.length : Int) ∧ vi = .int .i64 i ∧ vj = .int .i64 j ∧ Aside0 (cutS l u i j) ∧ Below w.heap.size w wr) (fun vi vj _ => (intOf vj - intOf vi).toNat)
  case atStart => exact ⟨0, (l.length : Int), by omega, hl0, Int.le_refl _, rfl, rfl, ⟨cutS_start l u⟩, Below.refl _ _⟩
  case round =>
    obtain ⟨i, j, h0, hij, hj, rfl, rfl, hc, hb⟩ := hrel
    by_cases hlt : i < j
    · have hm0 : 0 ≤ (i + j) / 2 := by omega
      have hm1 : (i + j) / 2 < (l.length : Int) := by omega
      have hm2 : i ≤ (i + j) / 2 := by omega
      have hm3 : (i + j) / 2 < j := by omega
      obtain ⟨m, hm⟩ : ∃ m, (i + j) / 2 = m := ⟨_, rfl⟩
      rw [hm] at hm0 hm1 hm2 hm3
      obtain ⟨ad, e, hc0, hc1⟩ := at_T83 (Kd.C_below HR.out hb) m hm0 hm1
      cases e
      by_cases hcmp : (rd_T83 l m).f0 ≤ u
      · go_wp2_with (go_at_call 86; ((with_reducible refine (stepCmp_le _ _ _ _ hcmp).mono ?_)); rintro e w' ⟨rfl, hb2⟩; have hbb := Aside0.mk (Below.trans hb (hb2.mono hb.size)))
        go_roundw
        case rel => exact ⟨m + 1, j, by omega, by omega, hj, by first | rfl | simp, rfl, ⟨cutS_le hs.out hc.out hm0 hm1 hcmp⟩, hbb.out⟩
        case measure => simp [intOf]; omega
      · have hcmp : u < (rd_T83 l m).f0 := by omega
        go_wp2_with (go_at_call 86; ((with_reducible refine (stepCmp_gt _ _ _ _ hcmp).mono ?_)); rintro e w' ⟨rfl, hb2⟩; have hbb := Aside0.mk (Below.trans hb (hb2.mono hb.size)))
        go_roundw
        case rel => exact ⟨i, m, h0, hm2, by omega, rfl, by first | rfl | simp, ⟨cutS_gt hs.out hc.out hm0 hm1 hcmp⟩, hbb.out⟩
        case measure => simp [intOf]; omega
    · obtain rfl : i = j := by omega
      have hend := cutS_end hc.out h0 hj
      by_cases hn : i < (l.length : Int)
      · obtain ⟨ad, e, hc0, hc1⟩ := at_T83 (Kd.C_below HR.out hb) i h0 hn
        cases e
        have hcmp : u < (rd_T83 l i).f0 := by rw [rdS_at l i h0 hn]; exact hc.out.2 i.toNat (by omega) (by omega)
        have HE := Aside0.mk hend
        clear hend
        go_wp2_with (go_at_call 86; ((with_reducible refine (stepCmp_gt _ _ _ _ hcmp).mono ?_)); rintro e w' ⟨rfl, hb2⟩; have hbb := Aside0.mk (Below.trans hb (hb2.mono hb.size)))
        go_ret2
        exact ⟨by rw [HE.out, show i - 1 + 1 = i by omega]; rfl, hbb.out⟩
      · have HE := Aside0.mk hend
        clear hend
        go_wp2
        go_ret2
        exact ⟨by rw [HE.out, show i - 1 + 1 = i by omega]; rfl, hb⟩

end Go.Proofs.Ytgeldfjpafimpaa.PAll
