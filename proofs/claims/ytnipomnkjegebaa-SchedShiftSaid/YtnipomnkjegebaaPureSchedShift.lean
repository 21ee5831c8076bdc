/- The law SchedShift (P13.2): a time and one more are in places one behind the other, but at a period's end, where the first place is next: for every period and row of slots that may be, and every 32 bit time. -/
import Derived.Test.YtnipomnkjegebaaCSched
import Derived.Test.YtnipomnkjegebaaPAllx0
import Derived.Test.YtnipomnkjegebaaPAllx10
import Derived.Test.YtnipomnkjegebaaWkSchedShift
namespace Go.Proofs.Ytnipomnkjegebaa.Pure
open Go.RowKit Go.Proofs.Ytnipomnkjegebaa.PAll Go.Proofs.YtnipomnkjegebaaW.PrintWords Go.Proofs.YtnipomnkjegebaaW.PrintLast Go.Proofs.YtnipomnkjegebaaW.PrintMore
set_option linter.unusedVariables false
set_option linter.unusedSimpArgs false
theorem SchedShift : governorlaw13_SchedShift.Pure := by
  intro p l t hp hl hs ht
  refine ⟨30, ?_⟩
  unfold governorlaw13_SchedShift.f
  obtain ⟨b, hb, hP⟩ := right_tells l p 30 (by omega)
  rw [schedHead, hb]
  simp only [Option.bind_some]
  cases b with
  | false => rfl
  | true =>
    have R := hP rfl
    have t32 := wf32 ht
    have p1 := R.p1
    have p2 := R.p2
    have hin := emod_in t p p1
    rw [if_pos rfl, wr (n := t) (by omega) (by omega), wr (n := t + 1) (by omega) (by omega)]
    simp only [at_eq p1 p2, want_eq p1 p2, Int.emod_emod_of_dvd t (Int.dvd_refl p), Option.bind_some, reduceIte, beq_self_eq_true]
    rw [wr (n := t % p + 1) (by omega) (by omega), wr (n := p - 1) (by omega) (by omega)]
    by_cases h : t % p = p - 1
    · have h1 : (t + 1) % p = 0 := by
        have e := Int.mul_ediv_add_emod t p
        rw [show t + 1 = p * (t / p + 1) by rw [Int.mul_add]; omega]
        exact Int.mul_emod_right p _
      by_cases hz : (t + 1) % p = t % p + 1
      · rw [if_pos hz]
      · rw [if_neg hz, if_pos h, if_pos h1]
    · have h1 : (t + 1) % p = t % p + 1 := by
        have e := Int.mul_ediv_add_emod t p
        rw [show t + 1 = (t % p + 1) + p * (t / p) by omega, Int.add_mul_emod_self_left]
        exact Int.emod_eq_of_lt (by omega) (by omega)
      rw [if_pos h1]
end Go.Proofs.Ytnipomnkjegebaa.Pure
