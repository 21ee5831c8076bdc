/- The law SchedSlots (P13.3): from where a slot begins to where the next one does, or the period ends, its N is wanted: for every period and row of slots that may be, every slot and every time. -/
import Derived.Test.YtnipomnkjegebaaCSched
import Derived.Test.YtnipomnkjegebaaPAllx0
import Derived.Test.YtnipomnkjegebaaPAllx3
import Derived.Test.YtnipomnkjegebaaPAllx8
import Derived.Test.YtnipomnkjegebaaWkSchedSlots
namespace Go.Proofs.Ytnipomnkjegebaa.Pure
open Go.RowKit Go.Proofs.Ytnipomnkjegebaa.PAll Go.Proofs.YtnipomnkjegebaaW.PrintWords Go.Proofs.YtnipomnkjegebaaW.PrintLast Go.Proofs.YtnipomnkjegebaaW.PrintMore
set_option linter.unusedVariables false
set_option linter.unusedSimpArgs false
theorem slots_mono {p : Int} {l : List S31} (R : RightP p l) (i : Nat) (d : Nat) : ∀ (h : i + d < l.length), l[i].f0 ≤ l[i + d].f0 := by
  induction d with
  | zero => intro h; exact Int.le_refl _
  | succ d ih =>
    intro h
    have h1 := ih (by omega)
    have h2 := R.up ((i + d + 1 : Nat) : Int) (by omega) (by omega)
    rw [show ((i + d + 1 : Nat) : Int) - 1 = ((i + d : Nat) : Int) by omega, rd_at l (i + d) (by omega), rd_at l (i + d + 1) (by omega)] at h2
    have h3 : l[i + (d + 1)] = l[i + d + 1] := rfl
    rw [h3]
    omega
theorem back_slot {p : Int} {l : List S31} (R : RightP p l) (k : Nat) (hk : k < l.length) (a : Int) (h0 : l[k].f0 ≤ a) (h1 : ∀ h : k + 1 < l.length, a < l[k + 1].f0) (d : Nat) : ∀ (h : k + 1 + d ≤ l.length), backS (l.take (k + 1 + d)) a = l[k].f1 := by
  induction d with
  | zero =>
    intro h
    rw [show k + 1 + 0 = k + 1 from rfl, take_snoc l k hk, backS_snoc, if_pos h0]
  | succ d ih =>
    intro h
    have h2 := slots_mono R (k + 1) d (by omega)
    have h3 := h1 (by omega)
    rw [show k + 1 + (d + 1) = (k + 1 + d) + 1 by omega, take_snoc l (k + 1 + d) (by omega), backS_snoc, if_neg (by omega)]
    exact ih (by omega)
theorem back_at {p : Int} {l : List S31} (R : RightP p l) (k : Nat) (hk : k < l.length) (a : Int) (h0 : l[k].f0 ≤ a) (h1 : ∀ h : k + 1 < l.length, a < l[k + 1].f0) : backS l a = l[k].f1 := by
  have h := back_slot R k hk a h0 h1 (l.length - (k + 1)) (by omega)
  rwa [show k + 1 + (l.length - (k + 1)) = l.length by omega, List.take_length] at h
theorem slots_j0 {p : Int} {l : List S31} (R : RightP p l) (k : Nat) (hk : k < l.length) (e t : Int) (h1 : l[k].f0 < e) (h2 : e ≤ p) (h3 : ∀ h : k + 1 < l.length, e = l[k + 1].f0) (n : Nat) :
    governorlaw13_SchedSlots.j0 (n + 1) p l t true (k : Int) e = some true := by
  have p1 := R.p1
  have p2 := R.p2
  have hin := emod_in t p p1
  have hlo := R.lo (k : Int) (by omega) (by omega)
  rw [rd_at l k hk] at hlo
  simp only [governorlaw13_SchedSlots.j0, at_eq p1 p2, want_eq p1 p2, rd_at l k hk, Option.bind_some, reduceIte]
  rw [if_pos (by omega), if_pos (by omega), Int.emod_eq_of_lt (a := l[k].f0) (by omega) (by omega), wr (n := e - 1) (by omega) (by omega), Int.emod_eq_of_lt (a := e - 1) (by omega) (by omega)]
  rw [back_at R k hk l[k].f0 (Int.le_refl _) (fun h => by have := h3 h; omega), back_at R k hk (e - 1) (by omega) (fun h => by have := h3 h; omega)]
  simp only [reduceIte]
  by_cases c1 : t % p ≥ l[k].f0
  · rw [if_pos c1]
    by_cases c2 : t % p < e
    · rw [if_pos c2, back_at R k hk (t % p) (by omega) (fun h => by have := h3 h; omega)]
      simp
    · rw [if_neg c2]
  · rw [if_neg c1]
theorem SchedSlots : governorlaw13_SchedSlots.Pure := by
  intro p l a t hp hl hs ha ht
  refine ⟨30, ?_⟩
  unfold governorlaw13_SchedSlots.f
  obtain ⟨b, hb, hP⟩ := right_tells l p 30 (by omega)
  rw [schedHead, hb]
  simp only [Option.bind_some]
  cases b with
  | false => rfl
  | true =>
    have R := hP rfl
    have n1 := R.n1
    have n8 := R.n8
    have a8 := wfu8 ha
    have hk := tmod_bounds a (l.length : Int) (by omega)
    have hk0 : 0 ≤ Int.tmod a (l.length : Int) := Int.tmod_nonneg _ a8.1
    obtain ⟨k, hkk⟩ : ∃ k : Nat, Int.tmod a (l.length : Int) = (k : Int) := ⟨(Int.tmod a (l.length : Int)).toNat, by omega⟩
    rw [if_pos rfl, wr (n := a) (by omega) (by omega), hkk, wr (n := (k : Int) + 1) (by omega) (by omega), if_neg (by omega)]
    have hkl : k < l.length := by omega
    have hlo := R.lo (k : Int) (by omega) (by omega)
    rw [rd_at l k hkl] at hlo
    by_cases c : (k : Int) + 1 < (l.length : Int)
    · rw [if_pos c, if_pos (by omega)]
      have h2 := R.up ((k + 1 : Nat) : Int) (by omega) (by omega)
      have h3 := R.lo ((k + 1 : Nat) : Int) (by omega) (by omega)
      rw [rd_at l (k + 1) (by omega)] at h3
      rw [show ((k + 1 : Nat) : Int) - 1 = ((k : Nat) : Int) by omega, rd_at l k hkl, rd_at l (k + 1) (by omega)] at h2
      rw [show (k : Int) + 1 = ((k + 1 : Nat) : Int) by omega, rd_at l (k + 1) (by omega)]
      exact slots_j0 R k hkl _ t h2 (by omega) (fun _ => rfl) 29
    · rw [if_neg c]
      exact slots_j0 R k hkl p t (by omega) (Int.le_refl _) (fun h => by omega) 29
end Go.Proofs.Ytnipomnkjegebaa.Pure
