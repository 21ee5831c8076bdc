/-
  No cell of these rows narrows 'for every input' (looked for: loops, veiled, ifaces, maps, wideKeys, modest, calm, conditions, laid).
  DERIVED. THE GIVEN ROWS OF THIS SEAT. 6 by the template 'for every input the law returns true; each argument reads behind the call as it read before'; 0 by the template 'total and deterministic' (their statements: YtefgoffaidjiaaaTotals.lean).
  GIVEN WITH THE SEED: the statements are not yours to turn. If you find one false, say at which input.
  Laid BY PROGRAM, IN A SANDBOX (cutbox-rows.mjs): the forced cells as the released guide's own fill.sh prints them over the translation 4e366f74b04b6cd3… (all of the seat's roots in one cut). By AI agents, Wed Nov 11 2026. No macro, syntax, notation, axiom, sorry.
-/
import Derived.Test.YtefgoffaidjiaaaChecked
import GoSem.Claim
import GoSem.ClaimJoined
import GoSem.ClaimMapViews
import Derived.JoinedTies
import Derived.KernelRfl
namespace Go.Proofs.Ytefgoffaidjiaaa
/- THE CELL 'sum', in the pinned program and in every row, IS THE sha256 OF THE DUMP (.gsa) THAT YtefgoffaidjiaaaProg.lean LOADS. Nothing in Lean hashes anything: it is a label: what it is worth is what the hold of that sum in a sandbox is worth. -/
noncomputable def Try.pinned : Pinned := { name := "ytefgoffaidjiaaa", sum := "4e366f74b04b6cd3a5845112a5f44142b85faf92627c3d8f826d7a94dd91f1f7", checked := Try.checked }
namespace Rows
def none {H : Type} : Left H := { results := [], args := [] }

/-- 'governorlaw18.FleetTells': WHATEVER THE INPUT: true; the input reads as it did. -/
def fleetTellsSpec : ChangeSpec := { name := "fleetTells", fn := fun _ => fun
  | [d1, d2, d3, d4] => { results := [.lit (.bool true)], args := [d1, d2, d3, d4] }
  | _ => none }
def fleetTellsRow : OpenClaim := { program := "ytefgoffaidjiaaa", sum := "4e366f74b04b6cd3a5845112a5f44142b85faf92627c3d8f826d7a94dd91f1f7", func := "governor/governorlaw18.FleetTells", spec := "fleetTells", unfollowed := true, recurses := true, apart := false }
def FleetTellsSaid : Prop := fleetTellsRow.holds Try.pinned (OpenSpec.ofChange fleetTellsSpec)

/-- ITS FALSE NEIGHBOUR: 'it returns false'. Refute it at one input. -/
def fleetTellsWrong : ChangeSpec := { name := "fleetTells", fn := fun _ => fun
  | [d1, d2, d3, d4] => { results := [.lit (.bool false)], args := [d1, d2, d3, d4] }
  | _ => none }
def FleetTellsWrongFalsely : Prop := fleetTellsRow.holds Try.pinned (OpenSpec.ofChange fleetTellsWrong)

/-- 'governorlaw18.FleetBounds': WHATEVER THE INPUT: true; the input reads as it did. -/
def fleetBoundsSpec : ChangeSpec := { name := "fleetBounds", fn := fun _ => fun
  | [d1, d2, d3, d4] => { results := [.lit (.bool true)], args := [d1, d2, d3, d4] }
  | _ => none }
def fleetBoundsRow : OpenClaim := { program := "ytefgoffaidjiaaa", sum := "4e366f74b04b6cd3a5845112a5f44142b85faf92627c3d8f826d7a94dd91f1f7", func := "governor/governorlaw18.FleetBounds", spec := "fleetBounds", unfollowed := true, recurses := true, apart := false }
def FleetBoundsSaid : Prop := fleetBoundsRow.holds Try.pinned (OpenSpec.ofChange fleetBoundsSpec)

/-- ITS FALSE NEIGHBOUR: 'it returns false'. Refute it at one input. -/
def fleetBoundsWrong : ChangeSpec := { name := "fleetBounds", fn := fun _ => fun
  | [d1, d2, d3, d4] => { results := [.lit (.bool false)], args := [d1, d2, d3, d4] }
  | _ => none }
def FleetBoundsWrongFalsely : Prop := fleetBoundsRow.holds Try.pinned (OpenSpec.ofChange fleetBoundsWrong)

/-- 'governorlaw18.FleetRow': WHATEVER THE INPUT: true; the input reads as it did. -/
def fleetRowSpec : ChangeSpec := { name := "fleetRow", fn := fun _ => fun
  | [d1, d2, d3, d4, d5] => { results := [.lit (.bool true)], args := [d1, d2, d3, d4, d5] }
  | _ => none }
def fleetRowRow : OpenClaim := { program := "ytefgoffaidjiaaa", sum := "4e366f74b04b6cd3a5845112a5f44142b85faf92627c3d8f826d7a94dd91f1f7", func := "governor/governorlaw18.FleetRow", spec := "fleetRow", unfollowed := true, recurses := true, apart := false }
def FleetRowSaid : Prop := fleetRowRow.holds Try.pinned (OpenSpec.ofChange fleetRowSpec)

/-- ITS FALSE NEIGHBOUR: 'it returns false'. Refute it at one input. -/
def fleetRowWrong : ChangeSpec := { name := "fleetRow", fn := fun _ => fun
  | [d1, d2, d3, d4, d5] => { results := [.lit (.bool false)], args := [d1, d2, d3, d4, d5] }
  | _ => none }
def FleetRowWrongFalsely : Prop := fleetRowRow.holds Try.pinned (OpenSpec.ofChange fleetRowWrong)

/-- 'governorlaw18.FleetOwn': WHATEVER THE INPUT: true; the input reads as it did. -/
def fleetOwnSpec : ChangeSpec := { name := "fleetOwn", fn := fun _ => fun
  | [d1, d2, d3, d4] => { results := [.lit (.bool true)], args := [d1, d2, d3, d4] }
  | _ => none }
def fleetOwnRow : OpenClaim := { program := "ytefgoffaidjiaaa", sum := "4e366f74b04b6cd3a5845112a5f44142b85faf92627c3d8f826d7a94dd91f1f7", func := "governor/governorlaw18.FleetOwn", spec := "fleetOwn", unfollowed := true, recurses := true, apart := false }
def FleetOwnSaid : Prop := fleetOwnRow.holds Try.pinned (OpenSpec.ofChange fleetOwnSpec)

/-- ITS FALSE NEIGHBOUR: 'it returns false'. Refute it at one input. -/
def fleetOwnWrong : ChangeSpec := { name := "fleetOwn", fn := fun _ => fun
  | [d1, d2, d3, d4] => { results := [.lit (.bool false)], args := [d1, d2, d3, d4] }
  | _ => none }
def FleetOwnWrongFalsely : Prop := fleetOwnRow.holds Try.pinned (OpenSpec.ofChange fleetOwnWrong)

/-- 'governorlaw18.FleetBegins': WHATEVER THE INPUT: true; the input reads as it did. -/
def fleetBeginsSpec : ChangeSpec := { name := "fleetBegins", fn := fun _ => fun
  | [d1, d2, d3] => { results := [.lit (.bool true)], args := [d1, d2, d3] }
  | _ => none }
def fleetBeginsRow : OpenClaim := { program := "ytefgoffaidjiaaa", sum := "4e366f74b04b6cd3a5845112a5f44142b85faf92627c3d8f826d7a94dd91f1f7", func := "governor/governorlaw18.FleetBegins", spec := "fleetBegins", unfollowed := true, recurses := true, apart := false }
def FleetBeginsSaid : Prop := fleetBeginsRow.holds Try.pinned (OpenSpec.ofChange fleetBeginsSpec)

/-- ITS FALSE NEIGHBOUR: 'it returns false'. Refute it at one input. -/
def fleetBeginsWrong : ChangeSpec := { name := "fleetBegins", fn := fun _ => fun
  | [d1, d2, d3] => { results := [.lit (.bool false)], args := [d1, d2, d3] }
  | _ => none }
def FleetBeginsWrongFalsely : Prop := fleetBeginsRow.holds Try.pinned (OpenSpec.ofChange fleetBeginsWrong)

/-- 'governorlaw18.FleetWork': WHATEVER THE INPUT: true; the input reads as it did. -/
def fleetWorkSpec : ChangeSpec := { name := "fleetWork", fn := fun _ => fun
  | [d1, d2, d3, d4, d5] => { results := [.lit (.bool true)], args := [d1, d2, d3, d4, d5] }
  | _ => none }
def fleetWorkRow : OpenClaim := { program := "ytefgoffaidjiaaa", sum := "4e366f74b04b6cd3a5845112a5f44142b85faf92627c3d8f826d7a94dd91f1f7", func := "governor/governorlaw18.FleetWork", spec := "fleetWork", unfollowed := true, recurses := true, apart := false }
def FleetWorkSaid : Prop := fleetWorkRow.holds Try.pinned (OpenSpec.ofChange fleetWorkSpec)

/-- ITS FALSE NEIGHBOUR: 'it returns false'. Refute it at one input. -/
def fleetWorkWrong : ChangeSpec := { name := "fleetWork", fn := fun _ => fun
  | [d1, d2, d3, d4, d5] => { results := [.lit (.bool false)], args := [d1, d2, d3, d4, d5] }
  | _ => none }
def FleetWorkWrongFalsely : Prop := fleetWorkRow.holds Try.pinned (OpenSpec.ofChange fleetWorkWrong)

/- THE SECOND FORM. 'bulk': how many values and letters a reading holds, each counted each time it is reached (what is shared counts as often as it is met; a slice's spare places count too). A statement '..UptoSaid' is the law's where the arguments, and the package variables that the reading takes, are together of bulk at most 1048576: NARROWER than '..Said'. Prove '..Said' where nothing that the law and all that it calls make is longer than what came in: it says more and counts as full. Else prove '..UptoSaid'. A law counts once. -/
mutual
def uptoBulk {H : Type} : DataW H → Nat
  | .lit (.string bytes) => bytes.length + 1
  | .lit _ => 1
  | .nil => 1
  | .ptr d => uptoBulk d + 1
  | .slice elems spare => uptoBulkAll elems + uptoBulkAll spare + 1
  | .agg parts => uptoBulkAll parts + 1
  | .iface _ d => uptoBulk d + 1
  | .map entries => uptoBulkEntries entries + 1
  | .held _ => 1
def uptoBulkAll {H : Type} : List (DataW H) → Nat
  | [] => 0
  | d :: r => uptoBulk d + uptoBulkAll r
def uptoBulkEntries {H : Type} : List (Lit × DataW H) → Nat
  | [] => 0
  | x :: r => uptoBulkEntry x + uptoBulkEntries r
def uptoBulkEntry {H : Type} : Lit × DataW H → Nat
  | (.string bytes, d) => bytes.length + uptoBulk d + 1
  | (_, d) => uptoBulk d + 1
 end
def uptoSmall : (H : Type) → List (DataW H) → Bool := fun _ ds => decide (uptoBulkAll ds ≤ 1048576)
def OpenSpec.upto (s : _root_.Go.ChangeSpec) : _root_.Go.OpenSpec := { _root_.Go.OpenSpec.ofChange s with cond := some uptoSmall }

/-- 'governorlaw18.FleetTells', WHERE WHAT IT READS IS OF BULK AT MOST 1048576: true; the input reads as it did. -/
def fleetTellsUptoRow : OpenClaim := { program := "ytefgoffaidjiaaa", sum := "4e366f74b04b6cd3a5845112a5f44142b85faf92627c3d8f826d7a94dd91f1f7", func := "governor/governorlaw18.FleetTells", spec := "fleetTells", unfollowed := true, recurses := true, apart := false, narrowed := true }
def FleetTellsUptoSaid : Prop := fleetTellsUptoRow.holds Try.pinned (OpenSpec.upto fleetTellsSpec)

/-- 'governorlaw18.FleetBounds', WHERE WHAT IT READS IS OF BULK AT MOST 1048576: true; the input reads as it did. -/
def fleetBoundsUptoRow : OpenClaim := { program := "ytefgoffaidjiaaa", sum := "4e366f74b04b6cd3a5845112a5f44142b85faf92627c3d8f826d7a94dd91f1f7", func := "governor/governorlaw18.FleetBounds", spec := "fleetBounds", unfollowed := true, recurses := true, apart := false, narrowed := true }
def FleetBoundsUptoSaid : Prop := fleetBoundsUptoRow.holds Try.pinned (OpenSpec.upto fleetBoundsSpec)

/-- 'governorlaw18.FleetRow', WHERE WHAT IT READS IS OF BULK AT MOST 1048576: true; the input reads as it did. -/
def fleetRowUptoRow : OpenClaim := { program := "ytefgoffaidjiaaa", sum := "4e366f74b04b6cd3a5845112a5f44142b85faf92627c3d8f826d7a94dd91f1f7", func := "governor/governorlaw18.FleetRow", spec := "fleetRow", unfollowed := true, recurses := true, apart := false, narrowed := true }
def FleetRowUptoSaid : Prop := fleetRowUptoRow.holds Try.pinned (OpenSpec.upto fleetRowSpec)

/-- 'governorlaw18.FleetOwn', WHERE WHAT IT READS IS OF BULK AT MOST 1048576: true; the input reads as it did. -/
def fleetOwnUptoRow : OpenClaim := { program := "ytefgoffaidjiaaa", sum := "4e366f74b04b6cd3a5845112a5f44142b85faf92627c3d8f826d7a94dd91f1f7", func := "governor/governorlaw18.FleetOwn", spec := "fleetOwn", unfollowed := true, recurses := true, apart := false, narrowed := true }
def FleetOwnUptoSaid : Prop := fleetOwnUptoRow.holds Try.pinned (OpenSpec.upto fleetOwnSpec)

/-- 'governorlaw18.FleetBegins', WHERE WHAT IT READS IS OF BULK AT MOST 1048576: true; the input reads as it did. -/
def fleetBeginsUptoRow : OpenClaim := { program := "ytefgoffaidjiaaa", sum := "4e366f74b04b6cd3a5845112a5f44142b85faf92627c3d8f826d7a94dd91f1f7", func := "governor/governorlaw18.FleetBegins", spec := "fleetBegins", unfollowed := true, recurses := true, apart := false, narrowed := true }
def FleetBeginsUptoSaid : Prop := fleetBeginsUptoRow.holds Try.pinned (OpenSpec.upto fleetBeginsSpec)

/-- 'governorlaw18.FleetWork', WHERE WHAT IT READS IS OF BULK AT MOST 1048576: true; the input reads as it did. -/
def fleetWorkUptoRow : OpenClaim := { program := "ytefgoffaidjiaaa", sum := "4e366f74b04b6cd3a5845112a5f44142b85faf92627c3d8f826d7a94dd91f1f7", func := "governor/governorlaw18.FleetWork", spec := "fleetWork", unfollowed := true, recurses := true, apart := false, narrowed := true }
def FleetWorkUptoSaid : Prop := fleetWorkUptoRow.holds Try.pinned (OpenSpec.upto fleetWorkSpec)

end Rows
end Go.Proofs.Ytefgoffaidjiaaa
