/- The law SchedPeriod (P13.2): what is wanted is wanted again a period later, and any number of periods; a time is in its period: for every period and row of slots that may be, every 32 bit time and 16 bit number. -/
import Derived.Test.YtnipomnkjegebaaCSched
import Derived.Test.YtnipomnkjegebaaPAllx0
import Derived.Test.YtnipomnkjegebaaPAllx7
import Derived.Test.YtnipomnkjegebaaWkSchedPeriod
namespace Go.Proofs.Ytnipomnkjegebaa.Pure
open Go.RowKit Go.Proofs.Ytnipomnkjegebaa.PAll Go.Proofs.YtnipomnkjegebaaW.PrintWords Go.Proofs.YtnipomnkjegebaaW.PrintLast Go.Proofs.YtnipomnkjegebaaW.PrintMore
set_option linter.unusedVariables false
set_option linter.unusedSimpArgs false
theorem SchedPeriod : governorlaw13_SchedPeriod.Pure := by
  intro p l t m hp hl hs ht hm
  refine ⟨30, ?_⟩
  unfold governorlaw13_SchedPeriod.f
  obtain ⟨b, hb, hP⟩ := right_tells l p 30 (by omega)
  rw [schedHead, hb]
  simp only [Option.bind_some]
  cases b with
  | false => rfl
  | true =>
    have R := hP rfl
    have t32 := wf32 ht
    have m16 := wf16 hm
    have p1 := R.p1
    have p2 := R.p2
    have hlo : m * p ≤ 32767 * p := Int.mul_le_mul_of_nonneg_right (by omega) (by omega)
    have hhi : (-32768) * p ≤ m * p := Int.mul_le_mul_of_nonneg_right (by omega) (by omega)
    have hin := emod_in t p p1
    have h0 : t - t % p = p * (t / p) := by have := Int.mul_ediv_add_emod t p; omega
    rw [if_pos rfl, wr (n := t) (by omega) (by omega), wr (n := m) (by omega) (by omega), wr (n := m * p) (by omega) (by omega), wr (n := t + m * p) (by omega) (by omega)]
    simp only [at_eq p1 p2, want_eq p1 p2, Int.add_mul_emod_self_right, Option.bind_some, reduceIte]
    rw [if_pos hin.1, if_pos hin.2, if_neg (by omega), wr (n := t - t % p) (by omega) (by omega), h0, Int.mul_tmod_right]
    rfl
end Go.Proofs.Ytnipomnkjegebaa.Pure
