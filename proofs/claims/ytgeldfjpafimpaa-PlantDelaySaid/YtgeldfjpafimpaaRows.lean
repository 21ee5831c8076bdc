/-
  No cell of these rows narrows 'for every input' (looked for: loops, veiled, ifaces, maps, wideKeys, modest, calm, conditions, laid).
  DERIVED. THE GIVEN ROWS OF THIS SEAT. 12 by the template 'for every input the law returns true; each argument reads behind the call as it read before'; 0 by the template 'total and deterministic' (their statements: YtgeldfjpafimpaaTotals.lean).
  GIVEN WITH THE SEED: the statements are not yours to turn. If you find one false, say at which input.
  Laid BY PROGRAM, IN A SANDBOX (cutbox-rows.mjs): the forced cells as the released guide's own fill.sh prints them over the translation 4a4ab00b58cd9a0e… (all of the seat's roots in one cut). By AI agents, Wed Nov 11 2026. No macro, syntax, notation, axiom, sorry.
-/
import Derived.Test.YtgeldfjpafimpaaChecked
import GoSem.Claim
import GoSem.ClaimJoined
import GoSem.ClaimMapViews
import Derived.JoinedTies
import Derived.KernelRfl
namespace Go.Proofs.Ytgeldfjpafimpaa
/- THE CELL 'sum', in the pinned program and in every row, IS THE sha256 OF THE DUMP (.gsa) THAT YtgeldfjpafimpaaProg.lean LOADS. Nothing in Lean hashes anything: it is a label: what it is worth is what the hold of that sum in a sandbox is worth. -/
noncomputable def Try.pinned : Pinned := { name := "ytgeldfjpafimpaa", sum := "4a4ab00b58cd9a0e7d1e73cda2843486edaf34b36ca8a46ca2a518e6de547a35", checked := Try.checked }
namespace Rows
def none {H : Type} : Left H := { results := [], args := [] }

/-- 'governorlaw16.PlantTells': WHATEVER THE INPUT: true; the input reads as it did. -/
def plantTellsSpec : ChangeSpec := { name := "plantTells", fn := fun _ => fun
  | [d1, d2, d3, d4] => { results := [.lit (.bool true)], args := [d1, d2, d3, d4] }
  | _ => none }
def plantTellsRow : OpenClaim := { program := "ytgeldfjpafimpaa", sum := "4a4ab00b58cd9a0e7d1e73cda2843486edaf34b36ca8a46ca2a518e6de547a35", func := "governor/governorlaw16.PlantTells", spec := "plantTells", unfollowed := true, recurses := true, apart := false }
def PlantTellsSaid : Prop := plantTellsRow.holds Try.pinned (OpenSpec.ofChange plantTellsSpec)

/-- ITS FALSE NEIGHBOUR: 'it returns false'. Refute it at one input. -/
def plantTellsWrong : ChangeSpec := { name := "plantTells", fn := fun _ => fun
  | [d1, d2, d3, d4] => { results := [.lit (.bool false)], args := [d1, d2, d3, d4] }
  | _ => none }
def PlantTellsWrongFalsely : Prop := plantTellsRow.holds Try.pinned (OpenSpec.ofChange plantTellsWrong)

/-- 'governorlaw16.PlantMany': WHATEVER THE INPUT: true; the input reads as it did. -/
def plantManySpec : ChangeSpec := { name := "plantMany", fn := fun _ => fun
  | [d1, d2, d3, d4] => { results := [.lit (.bool true)], args := [d1, d2, d3, d4] }
  | _ => none }
def plantManyRow : OpenClaim := { program := "ytgeldfjpafimpaa", sum := "4a4ab00b58cd9a0e7d1e73cda2843486edaf34b36ca8a46ca2a518e6de547a35", func := "governor/governorlaw16.PlantMany", spec := "plantMany", unfollowed := true, recurses := true, apart := false }
def PlantManySaid : Prop := plantManyRow.holds Try.pinned (OpenSpec.ofChange plantManySpec)

/-- ITS FALSE NEIGHBOUR: 'it returns false'. Refute it at one input. -/
def plantManyWrong : ChangeSpec := { name := "plantMany", fn := fun _ => fun
  | [d1, d2, d3, d4] => { results := [.lit (.bool false)], args := [d1, d2, d3, d4] }
  | _ => none }
def PlantManyWrongFalsely : Prop := plantManyRow.holds Try.pinned (OpenSpec.ofChange plantManyWrong)

/-- 'governorlaw16.PlantDelay': WHATEVER THE INPUT: true; the input reads as it did. -/
def plantDelaySpec : ChangeSpec := { name := "plantDelay", fn := fun _ => fun
  | [d1, d2, d3, d4] => { results := [.lit (.bool true)], args := [d1, d2, d3, d4] }
  | _ => none }
def plantDelayRow : OpenClaim := { program := "ytgeldfjpafimpaa", sum := "4a4ab00b58cd9a0e7d1e73cda2843486edaf34b36ca8a46ca2a518e6de547a35", func := "governor/governorlaw16.PlantDelay", spec := "plantDelay", unfollowed := true, recurses := true, apart := false }
def PlantDelaySaid : Prop := plantDelayRow.holds Try.pinned (OpenSpec.ofChange plantDelaySpec)

/-- ITS FALSE NEIGHBOUR: 'it returns false'. Refute it at one input. -/
def plantDelayWrong : ChangeSpec := { name := "plantDelay", fn := fun _ => fun
  | [d1, d2, d3, d4] => { results := [.lit (.bool false)], args := [d1, d2, d3, d4] }
  | _ => none }
def PlantDelayWrongFalsely : Prop := plantDelayRow.holds Try.pinned (OpenSpec.ofChange plantDelayWrong)

/-- 'governorlaw16.PlantWork': WHATEVER THE INPUT: true; the input reads as it did. -/
def plantWorkSpec : ChangeSpec := { name := "plantWork", fn := fun _ => fun
  | [d1, d2, d3, d4] => { results := [.lit (.bool true)], args := [d1, d2, d3, d4] }
  | _ => none }
def plantWorkRow : OpenClaim := { program := "ytgeldfjpafimpaa", sum := "4a4ab00b58cd9a0e7d1e73cda2843486edaf34b36ca8a46ca2a518e6de547a35", func := "governor/governorlaw16.PlantWork", spec := "plantWork", unfollowed := true, recurses := true, apart := false }
def PlantWorkSaid : Prop := plantWorkRow.holds Try.pinned (OpenSpec.ofChange plantWorkSpec)

/-- ITS FALSE NEIGHBOUR: 'it returns false'. Refute it at one input. -/
def plantWorkWrong : ChangeSpec := { name := "plantWork", fn := fun _ => fun
  | [d1, d2, d3, d4] => { results := [.lit (.bool false)], args := [d1, d2, d3, d4] }
  | _ => none }
def PlantWorkWrongFalsely : Prop := plantWorkRow.holds Try.pinned (OpenSpec.ofChange plantWorkWrong)

/-- 'governorlaw16.PlantLess': WHATEVER THE INPUT: true; the input reads as it did. -/
def plantLessSpec : ChangeSpec := { name := "plantLess", fn := fun _ => fun
  | [d1, d2, d3] => { results := [.lit (.bool true)], args := [d1, d2, d3] }
  | _ => none }
def plantLessRow : OpenClaim := { program := "ytgeldfjpafimpaa", sum := "4a4ab00b58cd9a0e7d1e73cda2843486edaf34b36ca8a46ca2a518e6de547a35", func := "governor/governorlaw16.PlantLess", spec := "plantLess", unfollowed := true, recurses := true, apart := false }
def PlantLessSaid : Prop := plantLessRow.holds Try.pinned (OpenSpec.ofChange plantLessSpec)

/-- ITS FALSE NEIGHBOUR: 'it returns false'. Refute it at one input. -/
def plantLessWrong : ChangeSpec := { name := "plantLess", fn := fun _ => fun
  | [d1, d2, d3] => { results := [.lit (.bool false)], args := [d1, d2, d3] }
  | _ => none }
def PlantLessWrongFalsely : Prop := plantLessRow.holds Try.pinned (OpenSpec.ofChange plantLessWrong)

/-- 'governorlaw16.PlantOwn': WHATEVER THE INPUT: true; the input reads as it did. -/
def plantOwnSpec : ChangeSpec := { name := "plantOwn", fn := fun _ => fun
  | [d1, d2, d3, d4] => { results := [.lit (.bool true)], args := [d1, d2, d3, d4] }
  | _ => none }
def plantOwnRow : OpenClaim := { program := "ytgeldfjpafimpaa", sum := "4a4ab00b58cd9a0e7d1e73cda2843486edaf34b36ca8a46ca2a518e6de547a35", func := "governor/governorlaw16.PlantOwn", spec := "plantOwn", unfollowed := true, recurses := true, apart := false }
def PlantOwnSaid : Prop := plantOwnRow.holds Try.pinned (OpenSpec.ofChange plantOwnSpec)

/-- ITS FALSE NEIGHBOUR: 'it returns false'. Refute it at one input. -/
def plantOwnWrong : ChangeSpec := { name := "plantOwn", fn := fun _ => fun
  | [d1, d2, d3, d4] => { results := [.lit (.bool false)], args := [d1, d2, d3, d4] }
  | _ => none }
def PlantOwnWrongFalsely : Prop := plantOwnRow.holds Try.pinned (OpenSpec.ofChange plantOwnWrong)

/-- 'governorlaw14.PolicyTells': WHATEVER THE INPUT: true; the input reads as it did. -/
def policyTellsSpec : ChangeSpec := { name := "policyTells", fn := fun _ => fun
  | [d1, d2, d3, d4, d5] => { results := [.lit (.bool true)], args := [d1, d2, d3, d4, d5] }
  | _ => none }
def policyTellsRow : OpenClaim := { program := "ytgeldfjpafimpaa", sum := "4a4ab00b58cd9a0e7d1e73cda2843486edaf34b36ca8a46ca2a518e6de547a35", func := "governor/governorlaw14.PolicyTells", spec := "policyTells", unfollowed := true, recurses := true, apart := false }
def PolicyTellsSaid : Prop := policyTellsRow.holds Try.pinned (OpenSpec.ofChange policyTellsSpec)

/-- ITS FALSE NEIGHBOUR: 'it returns false'. Refute it at one input. -/
def policyTellsWrong : ChangeSpec := { name := "policyTells", fn := fun _ => fun
  | [d1, d2, d3, d4, d5] => { results := [.lit (.bool false)], args := [d1, d2, d3, d4, d5] }
  | _ => none }
def PolicyTellsWrongFalsely : Prop := policyTellsRow.holds Try.pinned (OpenSpec.ofChange policyTellsWrong)

/-- 'governorlaw14.PolicyBounds': WHATEVER THE INPUT: true; the input reads as it did. -/
def policyBoundsSpec : ChangeSpec := { name := "policyBounds", fn := fun _ => fun
  | [d1, d2, d3, d4, d5] => { results := [.lit (.bool true)], args := [d1, d2, d3, d4, d5] }
  | _ => none }
def policyBoundsRow : OpenClaim := { program := "ytgeldfjpafimpaa", sum := "4a4ab00b58cd9a0e7d1e73cda2843486edaf34b36ca8a46ca2a518e6de547a35", func := "governor/governorlaw14.PolicyBounds", spec := "policyBounds", unfollowed := true, recurses := true, apart := false }
def PolicyBoundsSaid : Prop := policyBoundsRow.holds Try.pinned (OpenSpec.ofChange policyBoundsSpec)

/-- ITS FALSE NEIGHBOUR: 'it returns false'. Refute it at one input. -/
def policyBoundsWrong : ChangeSpec := { name := "policyBounds", fn := fun _ => fun
  | [d1, d2, d3, d4, d5] => { results := [.lit (.bool false)], args := [d1, d2, d3, d4, d5] }
  | _ => none }
def PolicyBoundsWrongFalsely : Prop := policyBoundsRow.holds Try.pinned (OpenSpec.ofChange policyBoundsWrong)

/-- 'governorlaw14.PolicyKinds': WHATEVER THE INPUT: true; the input reads as it did. -/
def policyKindsSpec : ChangeSpec := { name := "policyKinds", fn := fun _ => fun
  | [d1, d2, d3, d4, d5] => { results := [.lit (.bool true)], args := [d1, d2, d3, d4, d5] }
  | _ => none }
def policyKindsRow : OpenClaim := { program := "ytgeldfjpafimpaa", sum := "4a4ab00b58cd9a0e7d1e73cda2843486edaf34b36ca8a46ca2a518e6de547a35", func := "governor/governorlaw14.PolicyKinds", spec := "policyKinds", unfollowed := true, recurses := true, apart := false }
def PolicyKindsSaid : Prop := policyKindsRow.holds Try.pinned (OpenSpec.ofChange policyKindsSpec)

/-- ITS FALSE NEIGHBOUR: 'it returns false'. Refute it at one input. -/
def policyKindsWrong : ChangeSpec := { name := "policyKinds", fn := fun _ => fun
  | [d1, d2, d3, d4, d5] => { results := [.lit (.bool false)], args := [d1, d2, d3, d4, d5] }
  | _ => none }
def PolicyKindsWrongFalsely : Prop := policyKindsRow.holds Try.pinned (OpenSpec.ofChange policyKindsWrong)

/-- 'governorlaw14.PolicyTime': WHATEVER THE INPUT: true; the input reads as it did. -/
def policyTimeSpec : ChangeSpec := { name := "policyTime", fn := fun _ => fun
  | [d1, d2, d3, d4, d5, d6] => { results := [.lit (.bool true)], args := [d1, d2, d3, d4, d5, d6] }
  | _ => none }
def policyTimeRow : OpenClaim := { program := "ytgeldfjpafimpaa", sum := "4a4ab00b58cd9a0e7d1e73cda2843486edaf34b36ca8a46ca2a518e6de547a35", func := "governor/governorlaw14.PolicyTime", spec := "policyTime", unfollowed := true, recurses := true, apart := false }
def PolicyTimeSaid : Prop := policyTimeRow.holds Try.pinned (OpenSpec.ofChange policyTimeSpec)

/-- ITS FALSE NEIGHBOUR: 'it returns false'. Refute it at one input. -/
def policyTimeWrong : ChangeSpec := { name := "policyTime", fn := fun _ => fun
  | [d1, d2, d3, d4, d5, d6] => { results := [.lit (.bool false)], args := [d1, d2, d3, d4, d5, d6] }
  | _ => none }
def PolicyTimeWrongFalsely : Prop := policyTimeRow.holds Try.pinned (OpenSpec.ofChange policyTimeWrong)

/-- 'governorlaw14.PolicyRow': WHATEVER THE INPUT: true; the input reads as it did. -/
def policyRowSpec : ChangeSpec := { name := "policyRow", fn := fun _ => fun
  | [d1, d2, d3, d4] => { results := [.lit (.bool true)], args := [d1, d2, d3, d4] }
  | _ => none }
def policyRowRow : OpenClaim := { program := "ytgeldfjpafimpaa", sum := "4a4ab00b58cd9a0e7d1e73cda2843486edaf34b36ca8a46ca2a518e6de547a35", func := "governor/governorlaw14.PolicyRow", spec := "policyRow", unfollowed := true, recurses := true, apart := false }
def PolicyRowSaid : Prop := policyRowRow.holds Try.pinned (OpenSpec.ofChange policyRowSpec)

/-- ITS FALSE NEIGHBOUR: 'it returns false'. Refute it at one input. -/
def policyRowWrong : ChangeSpec := { name := "policyRow", fn := fun _ => fun
  | [d1, d2, d3, d4] => { results := [.lit (.bool false)], args := [d1, d2, d3, d4] }
  | _ => none }
def PolicyRowWrongFalsely : Prop := policyRowRow.holds Try.pinned (OpenSpec.ofChange policyRowWrong)

/-- 'governorlaw14.PolicyMany': WHATEVER THE INPUT: true; the input reads as it did. -/
def policyManySpec : ChangeSpec := { name := "policyMany", fn := fun _ => fun
  | [d1, d2, d3, d4, d5] => { results := [.lit (.bool true)], args := [d1, d2, d3, d4, d5] }
  | _ => none }
def policyManyRow : OpenClaim := { program := "ytgeldfjpafimpaa", sum := "4a4ab00b58cd9a0e7d1e73cda2843486edaf34b36ca8a46ca2a518e6de547a35", func := "governor/governorlaw14.PolicyMany", spec := "policyMany", unfollowed := true, recurses := true, apart := false }
def PolicyManySaid : Prop := policyManyRow.holds Try.pinned (OpenSpec.ofChange policyManySpec)

/-- ITS FALSE NEIGHBOUR: 'it returns false'. Refute it at one input. -/
def policyManyWrong : ChangeSpec := { name := "policyMany", fn := fun _ => fun
  | [d1, d2, d3, d4, d5] => { results := [.lit (.bool false)], args := [d1, d2, d3, d4, d5] }
  | _ => none }
def PolicyManyWrongFalsely : Prop := policyManyRow.holds Try.pinned (OpenSpec.ofChange policyManyWrong)

/- THE SECOND FORM. 'bulk': how many values and letters a reading holds, each counted each time it is reached (what is shared counts as often as it is met; a slice's spare places count too). A statement '..UptoSaid' is the law's where the arguments, and the package variables that the reading takes, are together of bulk at most 1048576: NARROWER than '..Said'. Prove '..Said' where nothing that the law and all that it calls make is longer than what came in: it says more and counts as full. Else prove '..UptoSaid'. A law counts once. -/
mutual
def uptoBulk {H : Type} : DataW H → Nat
  | .lit (.string bytes) => bytes.length + 1
  | .lit _ => 1
  | .nil => 1
  | .ptr d => uptoBulk d + 1
  | .slice elems spare => uptoBulkAll elems + uptoBulkAll spare + 1
  | .agg parts => uptoBulkAll parts + 1
  | .iface _ d => uptoBulk d + 1
  | .map entries => uptoBulkEntries entries + 1
  | .held _ => 1
def uptoBulkAll {H : Type} : List (DataW H) → Nat
  | [] => 0
  | d :: r => uptoBulk d + uptoBulkAll r
def uptoBulkEntries {H : Type} : List (Lit × DataW H) → Nat
  | [] => 0
  | x :: r => uptoBulkEntry x + uptoBulkEntries r
def uptoBulkEntry {H : Type} : Lit × DataW H → Nat
  | (.string bytes, d) => bytes.length + uptoBulk d + 1
  | (_, d) => uptoBulk d + 1
 end
def uptoSmall : (H : Type) → List (DataW H) → Bool := fun _ ds => decide (uptoBulkAll ds ≤ 1048576)
def OpenSpec.upto (s : _root_.Go.ChangeSpec) : _root_.Go.OpenSpec := { _root_.Go.OpenSpec.ofChange s with cond := some uptoSmall }

/-- 'governorlaw16.PlantTells', WHERE WHAT IT READS IS OF BULK AT MOST 1048576: true; the input reads as it did. -/
def plantTellsUptoRow : OpenClaim := { program := "ytgeldfjpafimpaa", sum := "4a4ab00b58cd9a0e7d1e73cda2843486edaf34b36ca8a46ca2a518e6de547a35", func := "governor/governorlaw16.PlantTells", spec := "plantTells", unfollowed := true, recurses := true, apart := false, narrowed := true }
def PlantTellsUptoSaid : Prop := plantTellsUptoRow.holds Try.pinned (OpenSpec.upto plantTellsSpec)

/-- 'governorlaw16.PlantMany', WHERE WHAT IT READS IS OF BULK AT MOST 1048576: true; the input reads as it did. -/
def plantManyUptoRow : OpenClaim := { program := "ytgeldfjpafimpaa", sum := "4a4ab00b58cd9a0e7d1e73cda2843486edaf34b36ca8a46ca2a518e6de547a35", func := "governor/governorlaw16.PlantMany", spec := "plantMany", unfollowed := true, recurses := true, apart := false, narrowed := true }
def PlantManyUptoSaid : Prop := plantManyUptoRow.holds Try.pinned (OpenSpec.upto plantManySpec)

/-- 'governorlaw16.PlantDelay', WHERE WHAT IT READS IS OF BULK AT MOST 1048576: true; the input reads as it did. -/
def plantDelayUptoRow : OpenClaim := { program := "ytgeldfjpafimpaa", sum := "4a4ab00b58cd9a0e7d1e73cda2843486edaf34b36ca8a46ca2a518e6de547a35", func := "governor/governorlaw16.PlantDelay", spec := "plantDelay", unfollowed := true, recurses := true, apart := false, narrowed := true }
def PlantDelayUptoSaid : Prop := plantDelayUptoRow.holds Try.pinned (OpenSpec.upto plantDelaySpec)

/-- 'governorlaw16.PlantWork', WHERE WHAT IT READS IS OF BULK AT MOST 1048576: true; the input reads as it did. -/
def plantWorkUptoRow : OpenClaim := { program := "ytgeldfjpafimpaa", sum := "4a4ab00b58cd9a0e7d1e73cda2843486edaf34b36ca8a46ca2a518e6de547a35", func := "governor/governorlaw16.PlantWork", spec := "plantWork", unfollowed := true, recurses := true, apart := false, narrowed := true }
def PlantWorkUptoSaid : Prop := plantWorkUptoRow.holds Try.pinned (OpenSpec.upto plantWorkSpec)

/-- 'governorlaw16.PlantLess', WHERE WHAT IT READS IS OF BULK AT MOST 1048576: true; the input reads as it did. -/
def plantLessUptoRow : OpenClaim := { program := "ytgeldfjpafimpaa", sum := "4a4ab00b58cd9a0e7d1e73cda2843486edaf34b36ca8a46ca2a518e6de547a35", func := "governor/governorlaw16.PlantLess", spec := "plantLess", unfollowed := true, recurses := true, apart := false, narrowed := true }
def PlantLessUptoSaid : Prop := plantLessUptoRow.holds Try.pinned (OpenSpec.upto plantLessSpec)

/-- 'governorlaw16.PlantOwn', WHERE WHAT IT READS IS OF BULK AT MOST 1048576: true; the input reads as it did. -/
def plantOwnUptoRow : OpenClaim := { program := "ytgeldfjpafimpaa", sum := "4a4ab00b58cd9a0e7d1e73cda2843486edaf34b36ca8a46ca2a518e6de547a35", func := "governor/governorlaw16.PlantOwn", spec := "plantOwn", unfollowed := true, recurses := true, apart := false, narrowed := true }
def PlantOwnUptoSaid : Prop := plantOwnUptoRow.holds Try.pinned (OpenSpec.upto plantOwnSpec)

/-- 'governorlaw14.PolicyTells', WHERE WHAT IT READS IS OF BULK AT MOST 1048576: true; the input reads as it did. -/
def policyTellsUptoRow : OpenClaim := { program := "ytgeldfjpafimpaa", sum := "4a4ab00b58cd9a0e7d1e73cda2843486edaf34b36ca8a46ca2a518e6de547a35", func := "governor/governorlaw14.PolicyTells", spec := "policyTells", unfollowed := true, recurses := true, apart := false, narrowed := true }
def PolicyTellsUptoSaid : Prop := policyTellsUptoRow.holds Try.pinned (OpenSpec.upto policyTellsSpec)

/-- 'governorlaw14.PolicyBounds', WHERE WHAT IT READS IS OF BULK AT MOST 1048576: true; the input reads as it did. -/
def policyBoundsUptoRow : OpenClaim := { program := "ytgeldfjpafimpaa", sum := "4a4ab00b58cd9a0e7d1e73cda2843486edaf34b36ca8a46ca2a518e6de547a35", func := "governor/governorlaw14.PolicyBounds", spec := "policyBounds", unfollowed := true, recurses := true, apart := false, narrowed := true }
def PolicyBoundsUptoSaid : Prop := policyBoundsUptoRow.holds Try.pinned (OpenSpec.upto policyBoundsSpec)

/-- 'governorlaw14.PolicyKinds', WHERE WHAT IT READS IS OF BULK AT MOST 1048576: true; the input reads as it did. -/
def policyKindsUptoRow : OpenClaim := { program := "ytgeldfjpafimpaa", sum := "4a4ab00b58cd9a0e7d1e73cda2843486edaf34b36ca8a46ca2a518e6de547a35", func := "governor/governorlaw14.PolicyKinds", spec := "policyKinds", unfollowed := true, recurses := true, apart := false, narrowed := true }
def PolicyKindsUptoSaid : Prop := policyKindsUptoRow.holds Try.pinned (OpenSpec.upto policyKindsSpec)

/-- 'governorlaw14.PolicyTime', WHERE WHAT IT READS IS OF BULK AT MOST 1048576: true; the input reads as it did. -/
def policyTimeUptoRow : OpenClaim := { program := "ytgeldfjpafimpaa", sum := "4a4ab00b58cd9a0e7d1e73cda2843486edaf34b36ca8a46ca2a518e6de547a35", func := "governor/governorlaw14.PolicyTime", spec := "policyTime", unfollowed := true, recurses := true, apart := false, narrowed := true }
def PolicyTimeUptoSaid : Prop := policyTimeUptoRow.holds Try.pinned (OpenSpec.upto policyTimeSpec)

/-- 'governorlaw14.PolicyRow', WHERE WHAT IT READS IS OF BULK AT MOST 1048576: true; the input reads as it did. -/
def policyRowUptoRow : OpenClaim := { program := "ytgeldfjpafimpaa", sum := "4a4ab00b58cd9a0e7d1e73cda2843486edaf34b36ca8a46ca2a518e6de547a35", func := "governor/governorlaw14.PolicyRow", spec := "policyRow", unfollowed := true, recurses := true, apart := false, narrowed := true }
def PolicyRowUptoSaid : Prop := policyRowUptoRow.holds Try.pinned (OpenSpec.upto policyRowSpec)

/-- 'governorlaw14.PolicyMany', WHERE WHAT IT READS IS OF BULK AT MOST 1048576: true; the input reads as it did. -/
def policyManyUptoRow : OpenClaim := { program := "ytgeldfjpafimpaa", sum := "4a4ab00b58cd9a0e7d1e73cda2843486edaf34b36ca8a46ca2a518e6de547a35", func := "governor/governorlaw14.PolicyMany", spec := "policyMany", unfollowed := true, recurses := true, apart := false, narrowed := true }
def PolicyManyUptoSaid : Prop := policyManyUptoRow.holds Try.pinned (OpenSpec.upto policyManySpec)

end Rows
end Go.Proofs.Ytgeldfjpafimpaa
