/-
  No cell of these rows narrows 'for every input' (looked for: loops, veiled, ifaces, maps, wideKeys, modest, calm, conditions, laid).
  DERIVED. THE GIVEN ROWS OF THIS SEAT. 12 by the template 'for every input the law returns true; each argument reads behind the call as it read before'; 0 by the template 'total and deterministic' (their statements: YtmdkcadngkbphaaTotals.lean).
  GIVEN WITH THE SEED: the statements are not yours to turn. If you find one false, say at which input.
  Laid BY PROGRAM, IN A SANDBOX (cutbox-rows.mjs): the forced cells as the released guide's own fill.sh prints them over the translation 8d50cac0698e732b… (all of the seat's roots in one cut). By AI agents, Wed Nov 11 2026. No macro, syntax, notation, axiom, sorry.
-/
import Derived.Test.YtmdkcadngkbphaaChecked
import GoSem.Claim
import GoSem.ClaimJoined
import GoSem.ClaimMapViews
import Derived.JoinedTies
import Derived.KernelRfl
namespace Go.Proofs.Ytmdkcadngkbphaa
/- THE CELL 'sum', in the pinned program and in every row, IS THE sha256 OF THE DUMP (.gsa) THAT YtmdkcadngkbphaaProg.lean LOADS. Nothing in Lean hashes anything: it is a label: what it is worth is what the hold of that sum in a sandbox is worth. -/
noncomputable def Try.pinned : Pinned := { name := "ytmdkcadngkbphaa", sum := "8d50cac0698e732b91e3edfe7690752921aa49ce6fa88149ca94bbd2720ee0d5", checked := Try.checked }
namespace Rows
def none {H : Type} : Left H := { results := [], args := [] }

/-- 'governorlaw10.TrackTells': WHATEVER THE INPUT: true; the input reads as it did. -/
def trackTellsSpec : ChangeSpec := { name := "trackTells", fn := fun _ => fun
  | [d1, d2, d3] => { results := [.lit (.bool true)], args := [d1, d2, d3] }
  | _ => none }
def trackTellsRow : OpenClaim := { program := "ytmdkcadngkbphaa", sum := "8d50cac0698e732b91e3edfe7690752921aa49ce6fa88149ca94bbd2720ee0d5", func := "governor/governorlaw10.TrackTells", spec := "trackTells", unfollowed := true, recurses := true, apart := false }
def TrackTellsSaid : Prop := trackTellsRow.holds Try.pinned (OpenSpec.ofChange trackTellsSpec)

/-- ITS FALSE NEIGHBOUR: 'it returns false'. Refute it at one input. -/
def trackTellsWrong : ChangeSpec := { name := "trackTells", fn := fun _ => fun
  | [d1, d2, d3] => { results := [.lit (.bool false)], args := [d1, d2, d3] }
  | _ => none }
def TrackTellsWrongFalsely : Prop := trackTellsRow.holds Try.pinned (OpenSpec.ofChange trackTellsWrong)

/-- 'governorlaw10.TrackGrows': WHATEVER THE INPUT: true; the input reads as it did. -/
def trackGrowsSpec : ChangeSpec := { name := "trackGrows", fn := fun _ => fun
  | [d1, d2, d3, d4] => { results := [.lit (.bool true)], args := [d1, d2, d3, d4] }
  | _ => none }
def trackGrowsRow : OpenClaim := { program := "ytmdkcadngkbphaa", sum := "8d50cac0698e732b91e3edfe7690752921aa49ce6fa88149ca94bbd2720ee0d5", func := "governor/governorlaw10.TrackGrows", spec := "trackGrows", unfollowed := true, recurses := true, apart := false }
def TrackGrowsSaid : Prop := trackGrowsRow.holds Try.pinned (OpenSpec.ofChange trackGrowsSpec)

/-- ITS FALSE NEIGHBOUR: 'it returns false'. Refute it at one input. -/
def trackGrowsWrong : ChangeSpec := { name := "trackGrows", fn := fun _ => fun
  | [d1, d2, d3, d4] => { results := [.lit (.bool false)], args := [d1, d2, d3, d4] }
  | _ => none }
def TrackGrowsWrongFalsely : Prop := trackGrowsRow.holds Try.pinned (OpenSpec.ofChange trackGrowsWrong)

/-- 'governorlaw10.TrackRests': WHATEVER THE INPUT: true; the input reads as it did. -/
def trackRestsSpec : ChangeSpec := { name := "trackRests", fn := fun _ => fun
  | [d1, d2] => { results := [.lit (.bool true)], args := [d1, d2] }
  | _ => none }
def trackRestsRow : OpenClaim := { program := "ytmdkcadngkbphaa", sum := "8d50cac0698e732b91e3edfe7690752921aa49ce6fa88149ca94bbd2720ee0d5", func := "governor/governorlaw10.TrackRests", spec := "trackRests", unfollowed := true, recurses := true, apart := false }
def TrackRestsSaid : Prop := trackRestsRow.holds Try.pinned (OpenSpec.ofChange trackRestsSpec)

/-- ITS FALSE NEIGHBOUR: 'it returns false'. Refute it at one input. -/
def trackRestsWrong : ChangeSpec := { name := "trackRests", fn := fun _ => fun
  | [d1, d2] => { results := [.lit (.bool false)], args := [d1, d2] }
  | _ => none }
def TrackRestsWrongFalsely : Prop := trackRestsRow.holds Try.pinned (OpenSpec.ofChange trackRestsWrong)

/-- 'governorlaw10.TrackEnough': WHATEVER THE INPUT: true; the input reads as it did. -/
def trackEnoughSpec : ChangeSpec := { name := "trackEnough", fn := fun _ => fun
  | [d1, d2, d3] => { results := [.lit (.bool true)], args := [d1, d2, d3] }
  | _ => none }
def trackEnoughRow : OpenClaim := { program := "ytmdkcadngkbphaa", sum := "8d50cac0698e732b91e3edfe7690752921aa49ce6fa88149ca94bbd2720ee0d5", func := "governor/governorlaw10.TrackEnough", spec := "trackEnough", unfollowed := true, recurses := true, apart := false }
def TrackEnoughSaid : Prop := trackEnoughRow.holds Try.pinned (OpenSpec.ofChange trackEnoughSpec)

/-- ITS FALSE NEIGHBOUR: 'it returns false'. Refute it at one input. -/
def trackEnoughWrong : ChangeSpec := { name := "trackEnough", fn := fun _ => fun
  | [d1, d2, d3] => { results := [.lit (.bool false)], args := [d1, d2, d3] }
  | _ => none }
def TrackEnoughWrongFalsely : Prop := trackEnoughRow.holds Try.pinned (OpenSpec.ofChange trackEnoughWrong)

/-- 'governorlaw10.TrackNothing': WHATEVER THE INPUT: true; the input reads as it did. -/
def trackNothingSpec : ChangeSpec := { name := "trackNothing", fn := fun _ => fun
  | [d1, d2, d3] => { results := [.lit (.bool true)], args := [d1, d2, d3] }
  | _ => none }
def trackNothingRow : OpenClaim := { program := "ytmdkcadngkbphaa", sum := "8d50cac0698e732b91e3edfe7690752921aa49ce6fa88149ca94bbd2720ee0d5", func := "governor/governorlaw10.TrackNothing", spec := "trackNothing", unfollowed := true, recurses := true, apart := false }
def TrackNothingSaid : Prop := trackNothingRow.holds Try.pinned (OpenSpec.ofChange trackNothingSpec)

/-- ITS FALSE NEIGHBOUR: 'it returns false'. Refute it at one input. -/
def trackNothingWrong : ChangeSpec := { name := "trackNothing", fn := fun _ => fun
  | [d1, d2, d3] => { results := [.lit (.bool false)], args := [d1, d2, d3] }
  | _ => none }
def TrackNothingWrongFalsely : Prop := trackNothingRow.holds Try.pinned (OpenSpec.ofChange trackNothingWrong)

/-- 'governorlaw10.TrackTwice': WHATEVER THE INPUT: true; the input reads as it did. -/
def trackTwiceSpec : ChangeSpec := { name := "trackTwice", fn := fun _ => fun
  | [d1, d2, d3] => { results := [.lit (.bool true)], args := [d1, d2, d3] }
  | _ => none }
def trackTwiceRow : OpenClaim := { program := "ytmdkcadngkbphaa", sum := "8d50cac0698e732b91e3edfe7690752921aa49ce6fa88149ca94bbd2720ee0d5", func := "governor/governorlaw10.TrackTwice", spec := "trackTwice", unfollowed := true, recurses := true, apart := false }
def TrackTwiceSaid : Prop := trackTwiceRow.holds Try.pinned (OpenSpec.ofChange trackTwiceSpec)

/-- ITS FALSE NEIGHBOUR: 'it returns false'. Refute it at one input. -/
def trackTwiceWrong : ChangeSpec := { name := "trackTwice", fn := fun _ => fun
  | [d1, d2, d3] => { results := [.lit (.bool false)], args := [d1, d2, d3] }
  | _ => none }
def TrackTwiceWrongFalsely : Prop := trackTwiceRow.holds Try.pinned (OpenSpec.ofChange trackTwiceWrong)

/-- 'governorlaw08.FixedTells': WHATEVER THE INPUT: true; the input reads as it did. -/
def fixedTellsSpec : ChangeSpec := { name := "fixedTells", fn := fun _ => fun
  | [d1, d2, d3] => { results := [.lit (.bool true)], args := [d1, d2, d3] }
  | _ => none }
def fixedTellsRow : OpenClaim := { program := "ytmdkcadngkbphaa", sum := "8d50cac0698e732b91e3edfe7690752921aa49ce6fa88149ca94bbd2720ee0d5", func := "governor/governorlaw08.FixedTells", spec := "fixedTells", unfollowed := true, recurses := true, apart := false }
def FixedTellsSaid : Prop := fixedTellsRow.holds Try.pinned (OpenSpec.ofChange fixedTellsSpec)

/-- ITS FALSE NEIGHBOUR: 'it returns false'. Refute it at one input. -/
def fixedTellsWrong : ChangeSpec := { name := "fixedTells", fn := fun _ => fun
  | [d1, d2, d3] => { results := [.lit (.bool false)], args := [d1, d2, d3] }
  | _ => none }
def FixedTellsWrongFalsely : Prop := fixedTellsRow.holds Try.pinned (OpenSpec.ofChange fixedTellsWrong)

/-- 'governorlaw08.FixedBounds': WHATEVER THE INPUT: true; the input reads as it did. -/
def fixedBoundsSpec : ChangeSpec := { name := "fixedBounds", fn := fun _ => fun
  | [d1, d2, d3] => { results := [.lit (.bool true)], args := [d1, d2, d3] }
  | _ => none }
def fixedBoundsRow : OpenClaim := { program := "ytmdkcadngkbphaa", sum := "8d50cac0698e732b91e3edfe7690752921aa49ce6fa88149ca94bbd2720ee0d5", func := "governor/governorlaw08.FixedBounds", spec := "fixedBounds", unfollowed := true, recurses := true, apart := false }
def FixedBoundsSaid : Prop := fixedBoundsRow.holds Try.pinned (OpenSpec.ofChange fixedBoundsSpec)

/-- ITS FALSE NEIGHBOUR: 'it returns false'. Refute it at one input. -/
def fixedBoundsWrong : ChangeSpec := { name := "fixedBounds", fn := fun _ => fun
  | [d1, d2, d3] => { results := [.lit (.bool false)], args := [d1, d2, d3] }
  | _ => none }
def FixedBoundsWrongFalsely : Prop := fixedBoundsRow.holds Try.pinned (OpenSpec.ofChange fixedBoundsWrong)

/-- 'governorlaw08.FixedTurns': WHATEVER THE INPUT: true; the input reads as it did. -/
def fixedTurnsSpec : ChangeSpec := { name := "fixedTurns", fn := fun _ => fun
  | [d1, d2] => { results := [.lit (.bool true)], args := [d1, d2] }
  | _ => none }
def fixedTurnsRow : OpenClaim := { program := "ytmdkcadngkbphaa", sum := "8d50cac0698e732b91e3edfe7690752921aa49ce6fa88149ca94bbd2720ee0d5", func := "governor/governorlaw08.FixedTurns", spec := "fixedTurns", unfollowed := true, recurses := true, apart := false }
def FixedTurnsSaid : Prop := fixedTurnsRow.holds Try.pinned (OpenSpec.ofChange fixedTurnsSpec)

/-- ITS FALSE NEIGHBOUR: 'it returns false'. Refute it at one input. -/
def fixedTurnsWrong : ChangeSpec := { name := "fixedTurns", fn := fun _ => fun
  | [d1, d2] => { results := [.lit (.bool false)], args := [d1, d2] }
  | _ => none }
def FixedTurnsWrongFalsely : Prop := fixedTurnsRow.holds Try.pinned (OpenSpec.ofChange fixedTurnsWrong)

/-- 'governorlaw08.FixedOrder': WHATEVER THE INPUT: true; the input reads as it did. -/
def fixedOrderSpec : ChangeSpec := { name := "fixedOrder", fn := fun _ => fun
  | [d1, d2, d3] => { results := [.lit (.bool true)], args := [d1, d2, d3] }
  | _ => none }
def fixedOrderRow : OpenClaim := { program := "ytmdkcadngkbphaa", sum := "8d50cac0698e732b91e3edfe7690752921aa49ce6fa88149ca94bbd2720ee0d5", func := "governor/governorlaw08.FixedOrder", spec := "fixedOrder", unfollowed := true, recurses := true, apart := false }
def FixedOrderSaid : Prop := fixedOrderRow.holds Try.pinned (OpenSpec.ofChange fixedOrderSpec)

/-- ITS FALSE NEIGHBOUR: 'it returns false'. Refute it at one input. -/
def fixedOrderWrong : ChangeSpec := { name := "fixedOrder", fn := fun _ => fun
  | [d1, d2, d3] => { results := [.lit (.bool false)], args := [d1, d2, d3] }
  | _ => none }
def FixedOrderWrongFalsely : Prop := fixedOrderRow.holds Try.pinned (OpenSpec.ofChange fixedOrderWrong)

/-- 'governorlaw08.FixedWhole': WHATEVER THE INPUT: true; the input reads as it did. -/
def fixedWholeSpec : ChangeSpec := { name := "fixedWhole", fn := fun _ => fun
  | [d] => { results := [.lit (.bool true)], args := [d] }
  | _ => none }
def fixedWholeRow : OpenClaim := { program := "ytmdkcadngkbphaa", sum := "8d50cac0698e732b91e3edfe7690752921aa49ce6fa88149ca94bbd2720ee0d5", func := "governor/governorlaw08.FixedWhole", spec := "fixedWhole", unfollowed := true, recurses := true, apart := false }
def FixedWholeSaid : Prop := fixedWholeRow.holds Try.pinned (OpenSpec.ofChange fixedWholeSpec)

/-- ITS FALSE NEIGHBOUR: 'it returns false'. Refute it at one input. -/
def fixedWholeWrong : ChangeSpec := { name := "fixedWhole", fn := fun _ => fun
  | [d] => { results := [.lit (.bool false)], args := [d] }
  | _ => none }
def FixedWholeWrongFalsely : Prop := fixedWholeRow.holds Try.pinned (OpenSpec.ofChange fixedWholeWrong)

/-- 'governorlaw08.FixedBack': WHATEVER THE INPUT: true; the input reads as it did. -/
def fixedBackSpec : ChangeSpec := { name := "fixedBack", fn := fun _ => fun
  | [d1, d2] => { results := [.lit (.bool true)], args := [d1, d2] }
  | _ => none }
def fixedBackRow : OpenClaim := { program := "ytmdkcadngkbphaa", sum := "8d50cac0698e732b91e3edfe7690752921aa49ce6fa88149ca94bbd2720ee0d5", func := "governor/governorlaw08.FixedBack", spec := "fixedBack", unfollowed := true, recurses := true, apart := false }
def FixedBackSaid : Prop := fixedBackRow.holds Try.pinned (OpenSpec.ofChange fixedBackSpec)

/-- ITS FALSE NEIGHBOUR: 'it returns false'. Refute it at one input. -/
def fixedBackWrong : ChangeSpec := { name := "fixedBack", fn := fun _ => fun
  | [d1, d2] => { results := [.lit (.bool false)], args := [d1, d2] }
  | _ => none }
def FixedBackWrongFalsely : Prop := fixedBackRow.holds Try.pinned (OpenSpec.ofChange fixedBackWrong)

/- THE SECOND FORM. 'bulk': how many values and letters a reading holds, each counted each time it is reached (what is shared counts as often as it is met; a slice's spare places count too). A statement '..UptoSaid' is the law's where the arguments, and the package variables that the reading takes, are together of bulk at most 1048576: NARROWER than '..Said'. Prove '..Said' where nothing that the law and all that it calls make is longer than what came in: it says more and counts as full. Else prove '..UptoSaid'. A law counts once. -/
mutual
def uptoBulk {H : Type} : DataW H → Nat
  | .lit (.string bytes) => bytes.length + 1
  | .lit _ => 1
  | .nil => 1
  | .ptr d => uptoBulk d + 1
  | .slice elems spare => uptoBulkAll elems + uptoBulkAll spare + 1
  | .agg parts => uptoBulkAll parts + 1
  | .iface _ d => uptoBulk d + 1
  | .map entries => uptoBulkEntries entries + 1
  | .held _ => 1
def uptoBulkAll {H : Type} : List (DataW H) → Nat
  | [] => 0
  | d :: r => uptoBulk d + uptoBulkAll r
def uptoBulkEntries {H : Type} : List (Lit × DataW H) → Nat
  | [] => 0
  | x :: r => uptoBulkEntry x + uptoBulkEntries r
def uptoBulkEntry {H : Type} : Lit × DataW H → Nat
  | (.string bytes, d) => bytes.length + uptoBulk d + 1
  | (_, d) => uptoBulk d + 1
 end
def uptoSmall : (H : Type) → List (DataW H) → Bool := fun _ ds => decide (uptoBulkAll ds ≤ 1048576)
def OpenSpec.upto (s : _root_.Go.ChangeSpec) : _root_.Go.OpenSpec := { _root_.Go.OpenSpec.ofChange s with cond := some uptoSmall }

/-- 'governorlaw10.TrackTells', WHERE WHAT IT READS IS OF BULK AT MOST 1048576: true; the input reads as it did. -/
def trackTellsUptoRow : OpenClaim := { program := "ytmdkcadngkbphaa", sum := "8d50cac0698e732b91e3edfe7690752921aa49ce6fa88149ca94bbd2720ee0d5", func := "governor/governorlaw10.TrackTells", spec := "trackTells", unfollowed := true, recurses := true, apart := false, narrowed := true }
def TrackTellsUptoSaid : Prop := trackTellsUptoRow.holds Try.pinned (OpenSpec.upto trackTellsSpec)

/-- 'governorlaw10.TrackGrows', WHERE WHAT IT READS IS OF BULK AT MOST 1048576: true; the input reads as it did. -/
def trackGrowsUptoRow : OpenClaim := { program := "ytmdkcadngkbphaa", sum := "8d50cac0698e732b91e3edfe7690752921aa49ce6fa88149ca94bbd2720ee0d5", func := "governor/governorlaw10.TrackGrows", spec := "trackGrows", unfollowed := true, recurses := true, apart := false, narrowed := true }
def TrackGrowsUptoSaid : Prop := trackGrowsUptoRow.holds Try.pinned (OpenSpec.upto trackGrowsSpec)

/-- 'governorlaw10.TrackRests', WHERE WHAT IT READS IS OF BULK AT MOST 1048576: true; the input reads as it did. -/
def trackRestsUptoRow : OpenClaim := { program := "ytmdkcadngkbphaa", sum := "8d50cac0698e732b91e3edfe7690752921aa49ce6fa88149ca94bbd2720ee0d5", func := "governor/governorlaw10.TrackRests", spec := "trackRests", unfollowed := true, recurses := true, apart := false, narrowed := true }
def TrackRestsUptoSaid : Prop := trackRestsUptoRow.holds Try.pinned (OpenSpec.upto trackRestsSpec)

/-- 'governorlaw10.TrackEnough', WHERE WHAT IT READS IS OF BULK AT MOST 1048576: true; the input reads as it did. -/
def trackEnoughUptoRow : OpenClaim := { program := "ytmdkcadngkbphaa", sum := "8d50cac0698e732b91e3edfe7690752921aa49ce6fa88149ca94bbd2720ee0d5", func := "governor/governorlaw10.TrackEnough", spec := "trackEnough", unfollowed := true, recurses := true, apart := false, narrowed := true }
def TrackEnoughUptoSaid : Prop := trackEnoughUptoRow.holds Try.pinned (OpenSpec.upto trackEnoughSpec)

/-- 'governorlaw10.TrackNothing', WHERE WHAT IT READS IS OF BULK AT MOST 1048576: true; the input reads as it did. -/
def trackNothingUptoRow : OpenClaim := { program := "ytmdkcadngkbphaa", sum := "8d50cac0698e732b91e3edfe7690752921aa49ce6fa88149ca94bbd2720ee0d5", func := "governor/governorlaw10.TrackNothing", spec := "trackNothing", unfollowed := true, recurses := true, apart := false, narrowed := true }
def TrackNothingUptoSaid : Prop := trackNothingUptoRow.holds Try.pinned (OpenSpec.upto trackNothingSpec)

/-- 'governorlaw10.TrackTwice', WHERE WHAT IT READS IS OF BULK AT MOST 1048576: true; the input reads as it did. -/
def trackTwiceUptoRow : OpenClaim := { program := "ytmdkcadngkbphaa", sum := "8d50cac0698e732b91e3edfe7690752921aa49ce6fa88149ca94bbd2720ee0d5", func := "governor/governorlaw10.TrackTwice", spec := "trackTwice", unfollowed := true, recurses := true, apart := false, narrowed := true }
def TrackTwiceUptoSaid : Prop := trackTwiceUptoRow.holds Try.pinned (OpenSpec.upto trackTwiceSpec)

/-- 'governorlaw08.FixedTells', WHERE WHAT IT READS IS OF BULK AT MOST 1048576: true; the input reads as it did. -/
def fixedTellsUptoRow : OpenClaim := { program := "ytmdkcadngkbphaa", sum := "8d50cac0698e732b91e3edfe7690752921aa49ce6fa88149ca94bbd2720ee0d5", func := "governor/governorlaw08.FixedTells", spec := "fixedTells", unfollowed := true, recurses := true, apart := false, narrowed := true }
def FixedTellsUptoSaid : Prop := fixedTellsUptoRow.holds Try.pinned (OpenSpec.upto fixedTellsSpec)

/-- 'governorlaw08.FixedBounds', WHERE WHAT IT READS IS OF BULK AT MOST 1048576: true; the input reads as it did. -/
def fixedBoundsUptoRow : OpenClaim := { program := "ytmdkcadngkbphaa", sum := "8d50cac0698e732b91e3edfe7690752921aa49ce6fa88149ca94bbd2720ee0d5", func := "governor/governorlaw08.FixedBounds", spec := "fixedBounds", unfollowed := true, recurses := true, apart := false, narrowed := true }
def FixedBoundsUptoSaid : Prop := fixedBoundsUptoRow.holds Try.pinned (OpenSpec.upto fixedBoundsSpec)

/-- 'governorlaw08.FixedTurns', WHERE WHAT IT READS IS OF BULK AT MOST 1048576: true; the input reads as it did. -/
def fixedTurnsUptoRow : OpenClaim := { program := "ytmdkcadngkbphaa", sum := "8d50cac0698e732b91e3edfe7690752921aa49ce6fa88149ca94bbd2720ee0d5", func := "governor/governorlaw08.FixedTurns", spec := "fixedTurns", unfollowed := true, recurses := true, apart := false, narrowed := true }
def FixedTurnsUptoSaid : Prop := fixedTurnsUptoRow.holds Try.pinned (OpenSpec.upto fixedTurnsSpec)

/-- 'governorlaw08.FixedOrder', WHERE WHAT IT READS IS OF BULK AT MOST 1048576: true; the input reads as it did. -/
def fixedOrderUptoRow : OpenClaim := { program := "ytmdkcadngkbphaa", sum := "8d50cac0698e732b91e3edfe7690752921aa49ce6fa88149ca94bbd2720ee0d5", func := "governor/governorlaw08.FixedOrder", spec := "fixedOrder", unfollowed := true, recurses := true, apart := false, narrowed := true }
def FixedOrderUptoSaid : Prop := fixedOrderUptoRow.holds Try.pinned (OpenSpec.upto fixedOrderSpec)

/-- 'governorlaw08.FixedWhole', WHERE WHAT IT READS IS OF BULK AT MOST 1048576: true; the input reads as it did. -/
def fixedWholeUptoRow : OpenClaim := { program := "ytmdkcadngkbphaa", sum := "8d50cac0698e732b91e3edfe7690752921aa49ce6fa88149ca94bbd2720ee0d5", func := "governor/governorlaw08.FixedWhole", spec := "fixedWhole", unfollowed := true, recurses := true, apart := false, narrowed := true }
def FixedWholeUptoSaid : Prop := fixedWholeUptoRow.holds Try.pinned (OpenSpec.upto fixedWholeSpec)

/-- 'governorlaw08.FixedBack', WHERE WHAT IT READS IS OF BULK AT MOST 1048576: true; the input reads as it did. -/
def fixedBackUptoRow : OpenClaim := { program := "ytmdkcadngkbphaa", sum := "8d50cac0698e732b91e3edfe7690752921aa49ce6fa88149ca94bbd2720ee0d5", func := "governor/governorlaw08.FixedBack", spec := "fixedBack", unfollowed := true, recurses := true, apart := false, narrowed := true }
def FixedBackUptoSaid : Prop := fixedBackUptoRow.holds Try.pinned (OpenSpec.upto fixedBackSpec)

end Rows
end Go.Proofs.Ytmdkcadngkbphaa
