/- The law PolicyRow (P14.1): behind any loads, one by one, a policy carries on what the document says, and wants as many. -/
import Derived.Test.YtgeldfjpafimpaaCPolAll
import Derived.Test.YtgeldfjpafimpaaCPolHead
import Derived.Test.YtgeldfjpafimpaaCWords
import Derived.Test.YtgeldfjpafimpaaPAllx0
import Derived.Test.YtgeldfjpafimpaaPAllx54
import Derived.Test.YtgeldfjpafimpaaWkPolicyRow
namespace Go.Proofs.Ytgeldfjpafimpaa.Pure
open Go.RowKit Go.Proofs.Ytgeldfjpafimpaa.PAll Go.Proofs.YtgeldfjpafimpaaW.PrintWords Go.Proofs.YtgeldfjpafimpaaW.PrintLast Go.Proofs.YtgeldfjpafimpaaW.PrintMore
set_option linter.unusedVariables false
set_option linter.unusedSimpArgs false
theorem row_loop {kd : Int} {lb : List S83} {pe : Int} {ls : List S71} (R : PolP kd lb pe ls) (tg kp ki kdd t : Int) (us : List Int) (hl : us.length ≤ 300) (d : Nat) : ∀ (k : Nat) (c i s p : Int) (h : Bool), 0 ≤ i → i + (d : Int) = (us.length : Int) → d + 21 < k →
    governorlaw14_PolicyRow.l0 k us t true c c i kd tg lb kp ki kdd pe ls s p h s p h = some true := by
  induction d with
  | zero =>
    intro k c i s p h h0 hd hk
    obtain ⟨k, rfl⟩ : ∃ m, k = m + 1 := ⟨k - 1, by omega⟩
    simp only [governorlaw14_PolicyRow.l0]
    rw [if_neg (by omega)]
  | succ d ih =>
    intro k c i s p h h0 hd hk
    obtain ⟨k, rfl⟩ : ∃ m, k = m + 1 := ⟨k - 1, by omega⟩
    have h1 := fun s p h c u t => polNext_eq R tg kp ki kdd s p h c u t k (by omega)
    have h2 := fun s p h c u t => polRef_eq R tg kp ki kdd s p h c u t k (by omega)
    simp only [governorlaw14_PolicyRow.l0, h1, h2, Option.bind_some, beq_self_eq_true, Bool.not_true, Bool.or_self, Bool.false_eq_true, reduceIte]
    rw [if_pos (by omega), if_pos h0, wr (n := i + 1) (by omega) (by omega)]
    exact ih k _ (i + 1) _ _ _ (by omega) (by omega) (by omega)
theorem PolicyRow : governorlaw14_PolicyRow.Pure := by
  intro kd tg lb kp ki kdd pe ls c us t
  intros
  suffices hs : ∀ n : Nat, 400 ≤ n → governorlaw14_PolicyRow.f (30 + n) kd tg lb kp ki kdd pe ls c us t = some true from ⟨30 + 400, hs 400 (Nat.le_refl _)⟩
  intro n hn
  unfold governorlaw14_PolicyRow.f
  obtain ⟨b, hb, hP⟩ := polRight_tells kd tg lb kp ki kdd pe ls (30 + n) (by omega)
  rw [polHeadk, hb]
  obtain ⟨m, hm⟩ : ∃ m, 30 + n = m + 1 := ⟨29 + n, by omega⟩
  rw [hm]
  simp only [Option.bind_some, governorlaw14_PolicyRow.j0]
  cases b with
  | false => rfl
  | true =>
    have R := hP rfl
    simp only [reduceIte]
    by_cases c3 : (us.length : Int) > 300
    · simp only [decide_eq_true c3, reduceIte]
    · simp only [decide_eq_false c3, Bool.false_eq_true, reduceIte]
      exact row_loop R tg kp ki kdd t us (by omega) us.length m _ 0 0 0 false (by omega) (by omega) (by omega)
end Go.Proofs.Ytgeldfjpafimpaa.Pure
