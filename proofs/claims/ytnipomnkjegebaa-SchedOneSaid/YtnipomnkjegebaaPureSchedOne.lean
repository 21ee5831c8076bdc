/- The law SchedOne (P13.1): with one slot its N is wanted at all times; with a slot more at the end as ahead of that: for every period and row of slots that may be, and every time. -/
import Derived.Test.YtnipomnkjegebaaCSched
import Derived.Test.YtnipomnkjegebaaPAllx0
import Derived.Test.YtnipomnkjegebaaPAllx3
import Derived.Test.YtnipomnkjegebaaPAllx9
import Derived.Test.YtnipomnkjegebaaWkSchedOne
namespace Go.Proofs.Ytnipomnkjegebaa.Pure
open Go.RowKit Go.Proofs.Ytnipomnkjegebaa.PAll Go.Proofs.YtnipomnkjegebaaW.PrintWords Go.Proofs.YtnipomnkjegebaaW.PrintLast Go.Proofs.YtnipomnkjegebaaW.PrintMore
set_option linter.unusedVariables false
set_option linter.unusedSimpArgs false
theorem SchedOne : governorlaw13_SchedOne.Pure := by
  intro p l t hp hl hs ht
  refine ⟨30, ?_⟩
  unfold governorlaw13_SchedOne.f
  obtain ⟨b, hb, hP⟩ := right_tells l p 30 (by omega)
  rw [schedHead, hb]
  simp only [Option.bind_some]
  cases b with
  | false => rfl
  | true =>
    have R := hP rfl
    have p1 := R.p1
    have p2 := R.p2
    have n1 := R.n1
    have n8 := R.n8
    have hin := emod_in t p p1
    have h0 := R.z
    rw [show (0 : Int) = ((0 : Nat) : Int) from rfl, rd_at l 0 (by omega)] at h0
    have e1 : backS (l.take 1) (t % p) = l[0].f1 := by
      have := take_snoc l 0 (by omega)
      rw [List.take_zero, List.nil_append] at this
      rw [show (1 : Nat) = 0 + 1 from rfl, this]
      have h := backS_snoc [] l[0] (t % p)
      rw [List.nil_append] at h
      rw [h, if_pos (by omega)]
    have r0 : rd_T31 l 0 = l[0] := rd_at l 0 (by omega)
    have wn : wrap64 ((l.length : Int) - 1) = ((l.length - 1 : Nat) : Int) := by rw [wr (by omega) (by omega)]; omega
    have rn : rd_T31 l ((l.length - 1 : Nat) : Int) = l[l.length - 1] := rd_at l (l.length - 1) (by omega)
    rw [wn, r0, rn]
    simp only [at_eq p1 p2, want_eq p1 p2, Option.bind_some, reduceIte, e1, Int.toNat_natCast]
    rw [if_pos (by omega), if_pos (by omega), if_pos (by omega), if_pos (by omega)]
    have hlen : (l.take (l.length - 1)).length = l.length - 1 := by rw [List.length_take]; omega
    by_cases c : ((l.take (l.length - 1)).length : Int) = 0
    · rw [if_pos c]
    · rw [if_neg c, if_pos (by omega)]
      by_cases c2 : t % p < l[l.length - 1].f0
      · rw [if_pos c2]
        have h := backS_snoc (l.take (l.length - 1)) l[l.length - 1] (t % p)
        rw [← take_snoc l (l.length - 1) (by omega), show l.length - 1 + 1 = l.length by omega, List.take_length, if_neg (by omega)] at h
        rw [h]
        simp
      · rw [if_neg c2]
end Go.Proofs.Ytnipomnkjegebaa.Pure
