/-
  No cell of these rows narrows 'for every input' (looked for: loops, veiled, ifaces, maps, wideKeys, modest, calm, conditions, laid).
  DERIVED. THE GIVEN ROWS OF THIS SEAT. 12 by the template 'for every input the law returns true; each argument reads behind the call as it read before'; 0 by the template 'total and deterministic' (their statements: YtnipomnkjegebaaTotals.lean).
  GIVEN WITH THE SEED: the statements are not yours to turn. If you find one false, say at which input.
  Laid BY PROGRAM, IN A SANDBOX (cutbox-rows.mjs): the forced cells as the released guide's own fill.sh prints them over the translation ea392cf88ddb4e03… (all of the seat's roots in one cut). By AI agents, Wed Nov 11 2026. No macro, syntax, notation, axiom, sorry.
-/
import Derived.Test.YtnipomnkjegebaaChecked
import GoSem.Claim
import GoSem.ClaimJoined
import GoSem.ClaimMapViews
import Derived.JoinedTies
import Derived.KernelRfl
namespace Go.Proofs.Ytnipomnkjegebaa
/- THE CELL 'sum', in the pinned program and in every row, IS THE sha256 OF THE DUMP (.gsa) THAT YtnipomnkjegebaaProg.lean LOADS. Nothing in Lean hashes anything: it is a label: what it is worth is what the hold of that sum in a sandbox is worth. -/
noncomputable def Try.pinned : Pinned := { name := "ytnipomnkjegebaa", sum := "ea392cf88ddb4e039322b6e9742b4cf87ded34967c655ef9c261a1336222652e", checked := Try.checked }
namespace Rows
def none {H : Type} : Left H := { results := [], args := [] }

/-- 'governorlaw13.SchedTells': WHATEVER THE INPUT: true; the input reads as it did. -/
def schedTellsSpec : ChangeSpec := { name := "schedTells", fn := fun _ => fun
  | [d1, d2, d3] => { results := [.lit (.bool true)], args := [d1, d2, d3] }
  | _ => none }
def schedTellsRow : OpenClaim := { program := "ytnipomnkjegebaa", sum := "ea392cf88ddb4e039322b6e9742b4cf87ded34967c655ef9c261a1336222652e", func := "governor/governorlaw13.SchedTells", spec := "schedTells", unfollowed := true, recurses := true, apart := false }
def SchedTellsSaid : Prop := schedTellsRow.holds Try.pinned (OpenSpec.ofChange schedTellsSpec)

/-- ITS FALSE NEIGHBOUR: 'it returns false'. Refute it at one input. -/
def schedTellsWrong : ChangeSpec := { name := "schedTells", fn := fun _ => fun
  | [d1, d2, d3] => { results := [.lit (.bool false)], args := [d1, d2, d3] }
  | _ => none }
def SchedTellsWrongFalsely : Prop := schedTellsRow.holds Try.pinned (OpenSpec.ofChange schedTellsWrong)

/-- 'governorlaw13.SchedPeriod': WHATEVER THE INPUT: true; the input reads as it did. -/
def schedPeriodSpec : ChangeSpec := { name := "schedPeriod", fn := fun _ => fun
  | [d1, d2, d3, d4] => { results := [.lit (.bool true)], args := [d1, d2, d3, d4] }
  | _ => none }
def schedPeriodRow : OpenClaim := { program := "ytnipomnkjegebaa", sum := "ea392cf88ddb4e039322b6e9742b4cf87ded34967c655ef9c261a1336222652e", func := "governor/governorlaw13.SchedPeriod", spec := "schedPeriod", unfollowed := true, recurses := true, apart := false }
def SchedPeriodSaid : Prop := schedPeriodRow.holds Try.pinned (OpenSpec.ofChange schedPeriodSpec)

/-- ITS FALSE NEIGHBOUR: 'it returns false'. Refute it at one input. -/
def schedPeriodWrong : ChangeSpec := { name := "schedPeriod", fn := fun _ => fun
  | [d1, d2, d3, d4] => { results := [.lit (.bool false)], args := [d1, d2, d3, d4] }
  | _ => none }
def SchedPeriodWrongFalsely : Prop := schedPeriodRow.holds Try.pinned (OpenSpec.ofChange schedPeriodWrong)

/-- 'governorlaw13.SchedSlots': WHATEVER THE INPUT: true; the input reads as it did. -/
def schedSlotsSpec : ChangeSpec := { name := "schedSlots", fn := fun _ => fun
  | [d1, d2, d3, d4] => { results := [.lit (.bool true)], args := [d1, d2, d3, d4] }
  | _ => none }
def schedSlotsRow : OpenClaim := { program := "ytnipomnkjegebaa", sum := "ea392cf88ddb4e039322b6e9742b4cf87ded34967c655ef9c261a1336222652e", func := "governor/governorlaw13.SchedSlots", spec := "schedSlots", unfollowed := true, recurses := true, apart := false }
def SchedSlotsSaid : Prop := schedSlotsRow.holds Try.pinned (OpenSpec.ofChange schedSlotsSpec)

/-- ITS FALSE NEIGHBOUR: 'it returns false'. Refute it at one input. -/
def schedSlotsWrong : ChangeSpec := { name := "schedSlots", fn := fun _ => fun
  | [d1, d2, d3, d4] => { results := [.lit (.bool false)], args := [d1, d2, d3, d4] }
  | _ => none }
def SchedSlotsWrongFalsely : Prop := schedSlotsRow.holds Try.pinned (OpenSpec.ofChange schedSlotsWrong)

/-- 'governorlaw13.SchedOne': WHATEVER THE INPUT: true; the input reads as it did. -/
def schedOneSpec : ChangeSpec := { name := "schedOne", fn := fun _ => fun
  | [d1, d2, d3] => { results := [.lit (.bool true)], args := [d1, d2, d3] }
  | _ => none }
def schedOneRow : OpenClaim := { program := "ytnipomnkjegebaa", sum := "ea392cf88ddb4e039322b6e9742b4cf87ded34967c655ef9c261a1336222652e", func := "governor/governorlaw13.SchedOne", spec := "schedOne", unfollowed := true, recurses := true, apart := false }
def SchedOneSaid : Prop := schedOneRow.holds Try.pinned (OpenSpec.ofChange schedOneSpec)

/-- ITS FALSE NEIGHBOUR: 'it returns false'. Refute it at one input. -/
def schedOneWrong : ChangeSpec := { name := "schedOne", fn := fun _ => fun
  | [d1, d2, d3] => { results := [.lit (.bool false)], args := [d1, d2, d3] }
  | _ => none }
def SchedOneWrongFalsely : Prop := schedOneRow.holds Try.pinned (OpenSpec.ofChange schedOneWrong)

/-- 'governorlaw13.SchedSame': WHATEVER THE INPUT: true; the input reads as it did. -/
def schedSameSpec : ChangeSpec := { name := "schedSame", fn := fun _ => fun
  | [d1, d2, d3, d4] => { results := [.lit (.bool true)], args := [d1, d2, d3, d4] }
  | _ => none }
def schedSameRow : OpenClaim := { program := "ytnipomnkjegebaa", sum := "ea392cf88ddb4e039322b6e9742b4cf87ded34967c655ef9c261a1336222652e", func := "governor/governorlaw13.SchedSame", spec := "schedSame", unfollowed := true, recurses := true, apart := false }
def SchedSameSaid : Prop := schedSameRow.holds Try.pinned (OpenSpec.ofChange schedSameSpec)

/-- ITS FALSE NEIGHBOUR: 'it returns false'. Refute it at one input. -/
def schedSameWrong : ChangeSpec := { name := "schedSame", fn := fun _ => fun
  | [d1, d2, d3, d4] => { results := [.lit (.bool false)], args := [d1, d2, d3, d4] }
  | _ => none }
def SchedSameWrongFalsely : Prop := schedSameRow.holds Try.pinned (OpenSpec.ofChange schedSameWrong)

/-- 'governorlaw13.SchedShift': WHATEVER THE INPUT: true; the input reads as it did. -/
def schedShiftSpec : ChangeSpec := { name := "schedShift", fn := fun _ => fun
  | [d1, d2, d3] => { results := [.lit (.bool true)], args := [d1, d2, d3] }
  | _ => none }
def schedShiftRow : OpenClaim := { program := "ytnipomnkjegebaa", sum := "ea392cf88ddb4e039322b6e9742b4cf87ded34967c655ef9c261a1336222652e", func := "governor/governorlaw13.SchedShift", spec := "schedShift", unfollowed := true, recurses := true, apart := false }
def SchedShiftSaid : Prop := schedShiftRow.holds Try.pinned (OpenSpec.ofChange schedShiftSpec)

/-- ITS FALSE NEIGHBOUR: 'it returns false'. Refute it at one input. -/
def schedShiftWrong : ChangeSpec := { name := "schedShift", fn := fun _ => fun
  | [d1, d2, d3] => { results := [.lit (.bool false)], args := [d1, d2, d3] }
  | _ => none }
def SchedShiftWrongFalsely : Prop := schedShiftRow.holds Try.pinned (OpenSpec.ofChange schedShiftWrong)

/-- 'governorlaw15.LimitTells': WHATEVER THE INPUT: true; the input reads as it did. -/
def limitTellsSpec : ChangeSpec := { name := "limitTells", fn := fun _ => fun
  | [d1, d2, d3, d4] => { results := [.lit (.bool true)], args := [d1, d2, d3, d4] }
  | _ => none }
def limitTellsRow : OpenClaim := { program := "ytnipomnkjegebaa", sum := "ea392cf88ddb4e039322b6e9742b4cf87ded34967c655ef9c261a1336222652e", func := "governor/governorlaw15.LimitTells", spec := "limitTells", apart := false }
def LimitTellsSaid : Prop := limitTellsRow.holds Try.pinned (OpenSpec.ofChange limitTellsSpec)

/-- ITS FALSE NEIGHBOUR: 'it returns false'. Refute it at one input. -/
def limitTellsWrong : ChangeSpec := { name := "limitTells", fn := fun _ => fun
  | [d1, d2, d3, d4] => { results := [.lit (.bool false)], args := [d1, d2, d3, d4] }
  | _ => none }
def LimitTellsWrongFalsely : Prop := limitTellsRow.holds Try.pinned (OpenSpec.ofChange limitTellsWrong)

/-- 'governorlaw15.LimitBounds': WHATEVER THE INPUT: true; the input reads as it did. -/
def limitBoundsSpec : ChangeSpec := { name := "limitBounds", fn := fun _ => fun
  | [d1, d2, d3, d4] => { results := [.lit (.bool true)], args := [d1, d2, d3, d4] }
  | _ => none }
def limitBoundsRow : OpenClaim := { program := "ytnipomnkjegebaa", sum := "ea392cf88ddb4e039322b6e9742b4cf87ded34967c655ef9c261a1336222652e", func := "governor/governorlaw15.LimitBounds", spec := "limitBounds", apart := false }
def LimitBoundsSaid : Prop := limitBoundsRow.holds Try.pinned (OpenSpec.ofChange limitBoundsSpec)

/-- ITS FALSE NEIGHBOUR: 'it returns false'. Refute it at one input. -/
def limitBoundsWrong : ChangeSpec := { name := "limitBounds", fn := fun _ => fun
  | [d1, d2, d3, d4] => { results := [.lit (.bool false)], args := [d1, d2, d3, d4] }
  | _ => none }
def LimitBoundsWrongFalsely : Prop := limitBoundsRow.holds Try.pinned (OpenSpec.ofChange limitBoundsWrong)

/-- 'governorlaw15.LimitStable': WHATEVER THE INPUT: true; the input reads as it did. -/
def limitStableSpec : ChangeSpec := { name := "limitStable", fn := fun _ => fun
  | [d1, d2, d3, d4] => { results := [.lit (.bool true)], args := [d1, d2, d3, d4] }
  | _ => none }
def limitStableRow : OpenClaim := { program := "ytnipomnkjegebaa", sum := "ea392cf88ddb4e039322b6e9742b4cf87ded34967c655ef9c261a1336222652e", func := "governor/governorlaw15.LimitStable", spec := "limitStable", apart := false }
def LimitStableSaid : Prop := limitStableRow.holds Try.pinned (OpenSpec.ofChange limitStableSpec)

/-- ITS FALSE NEIGHBOUR: 'it returns false'. Refute it at one input. -/
def limitStableWrong : ChangeSpec := { name := "limitStable", fn := fun _ => fun
  | [d1, d2, d3, d4] => { results := [.lit (.bool false)], args := [d1, d2, d3, d4] }
  | _ => none }
def LimitStableWrongFalsely : Prop := limitStableRow.holds Try.pinned (OpenSpec.ofChange limitStableWrong)

/-- 'governorlaw15.LimitWanted': WHATEVER THE INPUT: true; the input reads as it did. -/
def limitWantedSpec : ChangeSpec := { name := "limitWanted", fn := fun _ => fun
  | [d1, d2, d3, d4] => { results := [.lit (.bool true)], args := [d1, d2, d3, d4] }
  | _ => none }
def limitWantedRow : OpenClaim := { program := "ytnipomnkjegebaa", sum := "ea392cf88ddb4e039322b6e9742b4cf87ded34967c655ef9c261a1336222652e", func := "governor/governorlaw15.LimitWanted", spec := "limitWanted", apart := false }
def LimitWantedSaid : Prop := limitWantedRow.holds Try.pinned (OpenSpec.ofChange limitWantedSpec)

/-- ITS FALSE NEIGHBOUR: 'it returns false'. Refute it at one input. -/
def limitWantedWrong : ChangeSpec := { name := "limitWanted", fn := fun _ => fun
  | [d1, d2, d3, d4] => { results := [.lit (.bool false)], args := [d1, d2, d3, d4] }
  | _ => none }
def LimitWantedWrongFalsely : Prop := limitWantedRow.holds Try.pinned (OpenSpec.ofChange limitWantedWrong)

/-- 'governorlaw15.LimitOrder': WHATEVER THE INPUT: true; the input reads as it did. -/
def limitOrderSpec : ChangeSpec := { name := "limitOrder", fn := fun _ => fun
  | [d1, d2, d3, d4, d5] => { results := [.lit (.bool true)], args := [d1, d2, d3, d4, d5] }
  | _ => none }
def limitOrderRow : OpenClaim := { program := "ytnipomnkjegebaa", sum := "ea392cf88ddb4e039322b6e9742b4cf87ded34967c655ef9c261a1336222652e", func := "governor/governorlaw15.LimitOrder", spec := "limitOrder", apart := false }
def LimitOrderSaid : Prop := limitOrderRow.holds Try.pinned (OpenSpec.ofChange limitOrderSpec)

/-- ITS FALSE NEIGHBOUR: 'it returns false'. Refute it at one input. -/
def limitOrderWrong : ChangeSpec := { name := "limitOrder", fn := fun _ => fun
  | [d1, d2, d3, d4, d5] => { results := [.lit (.bool false)], args := [d1, d2, d3, d4, d5] }
  | _ => none }
def LimitOrderWrongFalsely : Prop := limitOrderRow.holds Try.pinned (OpenSpec.ofChange limitOrderWrong)

/-- 'governorlaw15.LimitReach': WHATEVER THE INPUT: true; the input reads as it did. -/
def limitReachSpec : ChangeSpec := { name := "limitReach", fn := fun _ => fun
  | [d1, d2, d3] => { results := [.lit (.bool true)], args := [d1, d2, d3] }
  | _ => none }
def limitReachRow : OpenClaim := { program := "ytnipomnkjegebaa", sum := "ea392cf88ddb4e039322b6e9742b4cf87ded34967c655ef9c261a1336222652e", func := "governor/governorlaw15.LimitReach", spec := "limitReach", apart := false }
def LimitReachSaid : Prop := limitReachRow.holds Try.pinned (OpenSpec.ofChange limitReachSpec)

/-- ITS FALSE NEIGHBOUR: 'it returns false'. Refute it at one input. -/
def limitReachWrong : ChangeSpec := { name := "limitReach", fn := fun _ => fun
  | [d1, d2, d3] => { results := [.lit (.bool false)], args := [d1, d2, d3] }
  | _ => none }
def LimitReachWrongFalsely : Prop := limitReachRow.holds Try.pinned (OpenSpec.ofChange limitReachWrong)

/- THE SECOND FORM. 'bulk': how many values and letters a reading holds, each counted each time it is reached (what is shared counts as often as it is met; a slice's spare places count too). A statement '..UptoSaid' is the law's where the arguments, and the package variables that the reading takes, are together of bulk at most 1048576: NARROWER than '..Said'. Prove '..Said' where nothing that the law and all that it calls make is longer than what came in: it says more and counts as full. Else prove '..UptoSaid'. A law counts once. -/
mutual
def uptoBulk {H : Type} : DataW H → Nat
  | .lit (.string bytes) => bytes.length + 1
  | .lit _ => 1
  | .nil => 1
  | .ptr d => uptoBulk d + 1
  | .slice elems spare => uptoBulkAll elems + uptoBulkAll spare + 1
  | .agg parts => uptoBulkAll parts + 1
  | .iface _ d => uptoBulk d + 1
  | .map entries => uptoBulkEntries entries + 1
  | .held _ => 1
def uptoBulkAll {H : Type} : List (DataW H) → Nat
  | [] => 0
  | d :: r => uptoBulk d + uptoBulkAll r
def uptoBulkEntries {H : Type} : List (Lit × DataW H) → Nat
  | [] => 0
  | x :: r => uptoBulkEntry x + uptoBulkEntries r
def uptoBulkEntry {H : Type} : Lit × DataW H → Nat
  | (.string bytes, d) => bytes.length + uptoBulk d + 1
  | (_, d) => uptoBulk d + 1
 end
def uptoSmall : (H : Type) → List (DataW H) → Bool := fun _ ds => decide (uptoBulkAll ds ≤ 1048576)
def OpenSpec.upto (s : _root_.Go.ChangeSpec) : _root_.Go.OpenSpec := { _root_.Go.OpenSpec.ofChange s with cond := some uptoSmall }

/-- 'governorlaw13.SchedTells', WHERE WHAT IT READS IS OF BULK AT MOST 1048576: true; the input reads as it did. -/
def schedTellsUptoRow : OpenClaim := { program := "ytnipomnkjegebaa", sum := "ea392cf88ddb4e039322b6e9742b4cf87ded34967c655ef9c261a1336222652e", func := "governor/governorlaw13.SchedTells", spec := "schedTells", unfollowed := true, recurses := true, apart := false, narrowed := true }
def SchedTellsUptoSaid : Prop := schedTellsUptoRow.holds Try.pinned (OpenSpec.upto schedTellsSpec)

/-- 'governorlaw13.SchedPeriod', WHERE WHAT IT READS IS OF BULK AT MOST 1048576: true; the input reads as it did. -/
def schedPeriodUptoRow : OpenClaim := { program := "ytnipomnkjegebaa", sum := "ea392cf88ddb4e039322b6e9742b4cf87ded34967c655ef9c261a1336222652e", func := "governor/governorlaw13.SchedPeriod", spec := "schedPeriod", unfollowed := true, recurses := true, apart := false, narrowed := true }
def SchedPeriodUptoSaid : Prop := schedPeriodUptoRow.holds Try.pinned (OpenSpec.upto schedPeriodSpec)

/-- 'governorlaw13.SchedSlots', WHERE WHAT IT READS IS OF BULK AT MOST 1048576: true; the input reads as it did. -/
def schedSlotsUptoRow : OpenClaim := { program := "ytnipomnkjegebaa", sum := "ea392cf88ddb4e039322b6e9742b4cf87ded34967c655ef9c261a1336222652e", func := "governor/governorlaw13.SchedSlots", spec := "schedSlots", unfollowed := true, recurses := true, apart := false, narrowed := true }
def SchedSlotsUptoSaid : Prop := schedSlotsUptoRow.holds Try.pinned (OpenSpec.upto schedSlotsSpec)

/-- 'governorlaw13.SchedOne', WHERE WHAT IT READS IS OF BULK AT MOST 1048576: true; the input reads as it did. -/
def schedOneUptoRow : OpenClaim := { program := "ytnipomnkjegebaa", sum := "ea392cf88ddb4e039322b6e9742b4cf87ded34967c655ef9c261a1336222652e", func := "governor/governorlaw13.SchedOne", spec := "schedOne", unfollowed := true, recurses := true, apart := false, narrowed := true }
def SchedOneUptoSaid : Prop := schedOneUptoRow.holds Try.pinned (OpenSpec.upto schedOneSpec)

/-- 'governorlaw13.SchedSame', WHERE WHAT IT READS IS OF BULK AT MOST 1048576: true; the input reads as it did. -/
def schedSameUptoRow : OpenClaim := { program := "ytnipomnkjegebaa", sum := "ea392cf88ddb4e039322b6e9742b4cf87ded34967c655ef9c261a1336222652e", func := "governor/governorlaw13.SchedSame", spec := "schedSame", unfollowed := true, recurses := true, apart := false, narrowed := true }
def SchedSameUptoSaid : Prop := schedSameUptoRow.holds Try.pinned (OpenSpec.upto schedSameSpec)

/-- 'governorlaw13.SchedShift', WHERE WHAT IT READS IS OF BULK AT MOST 1048576: true; the input reads as it did. -/
def schedShiftUptoRow : OpenClaim := { program := "ytnipomnkjegebaa", sum := "ea392cf88ddb4e039322b6e9742b4cf87ded34967c655ef9c261a1336222652e", func := "governor/governorlaw13.SchedShift", spec := "schedShift", unfollowed := true, recurses := true, apart := false, narrowed := true }
def SchedShiftUptoSaid : Prop := schedShiftUptoRow.holds Try.pinned (OpenSpec.upto schedShiftSpec)

/-- 'governorlaw15.LimitTells', WHERE WHAT IT READS IS OF BULK AT MOST 1048576: true; the input reads as it did. -/
def limitTellsUptoRow : OpenClaim := { program := "ytnipomnkjegebaa", sum := "ea392cf88ddb4e039322b6e9742b4cf87ded34967c655ef9c261a1336222652e", func := "governor/governorlaw15.LimitTells", spec := "limitTells", apart := false, narrowed := true }
def LimitTellsUptoSaid : Prop := limitTellsUptoRow.holds Try.pinned (OpenSpec.upto limitTellsSpec)

/-- 'governorlaw15.LimitBounds', WHERE WHAT IT READS IS OF BULK AT MOST 1048576: true; the input reads as it did. -/
def limitBoundsUptoRow : OpenClaim := { program := "ytnipomnkjegebaa", sum := "ea392cf88ddb4e039322b6e9742b4cf87ded34967c655ef9c261a1336222652e", func := "governor/governorlaw15.LimitBounds", spec := "limitBounds", apart := false, narrowed := true }
def LimitBoundsUptoSaid : Prop := limitBoundsUptoRow.holds Try.pinned (OpenSpec.upto limitBoundsSpec)

/-- 'governorlaw15.LimitStable', WHERE WHAT IT READS IS OF BULK AT MOST 1048576: true; the input reads as it did. -/
def limitStableUptoRow : OpenClaim := { program := "ytnipomnkjegebaa", sum := "ea392cf88ddb4e039322b6e9742b4cf87ded34967c655ef9c261a1336222652e", func := "governor/governorlaw15.LimitStable", spec := "limitStable", apart := false, narrowed := true }
def LimitStableUptoSaid : Prop := limitStableUptoRow.holds Try.pinned (OpenSpec.upto limitStableSpec)

/-- 'governorlaw15.LimitWanted', WHERE WHAT IT READS IS OF BULK AT MOST 1048576: true; the input reads as it did. -/
def limitWantedUptoRow : OpenClaim := { program := "ytnipomnkjegebaa", sum := "ea392cf88ddb4e039322b6e9742b4cf87ded34967c655ef9c261a1336222652e", func := "governor/governorlaw15.LimitWanted", spec := "limitWanted", apart := false, narrowed := true }
def LimitWantedUptoSaid : Prop := limitWantedUptoRow.holds Try.pinned (OpenSpec.upto limitWantedSpec)

/-- 'governorlaw15.LimitOrder', WHERE WHAT IT READS IS OF BULK AT MOST 1048576: true; the input reads as it did. -/
def limitOrderUptoRow : OpenClaim := { program := "ytnipomnkjegebaa", sum := "ea392cf88ddb4e039322b6e9742b4cf87ded34967c655ef9c261a1336222652e", func := "governor/governorlaw15.LimitOrder", spec := "limitOrder", apart := false, narrowed := true }
def LimitOrderUptoSaid : Prop := limitOrderUptoRow.holds Try.pinned (OpenSpec.upto limitOrderSpec)

/-- 'governorlaw15.LimitReach', WHERE WHAT IT READS IS OF BULK AT MOST 1048576: true; the input reads as it did. -/
def limitReachUptoRow : OpenClaim := { program := "ytnipomnkjegebaa", sum := "ea392cf88ddb4e039322b6e9742b4cf87ded34967c655ef9c261a1336222652e", func := "governor/governorlaw15.LimitReach", spec := "limitReach", apart := false, narrowed := true }
def LimitReachUptoSaid : Prop := limitReachUptoRow.holds Try.pinned (OpenSpec.upto limitReachSpec)

end Rows
end Go.Proofs.Ytnipomnkjegebaa
