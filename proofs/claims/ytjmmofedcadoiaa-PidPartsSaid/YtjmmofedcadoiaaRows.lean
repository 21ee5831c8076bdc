/-
  No cell of these rows narrows 'for every input' (looked for: loops, veiled, ifaces, maps, wideKeys, modest, calm, conditions, laid).
  DERIVED. THE GIVEN ROWS OF THIS SEAT. 12 by the template 'for every input the law returns true; each argument reads behind the call as it read before'; 0 by the template 'total and deterministic' (their statements: YtjmmofedcadoiaaTotals.lean).
  GIVEN WITH THE SEED: the statements are not yours to turn. If you find one false, say at which input.
  Laid BY PROGRAM, IN A SANDBOX (cutbox-rows.mjs): the forced cells as the released guide's own fill.sh prints them over the translation 64698a5371c419a6… (all of the seat's roots in one cut). By AI agents, Wed Nov 11 2026. No macro, syntax, notation, axiom, sorry.
-/
import Derived.Test.YtjmmofedcadoiaaChecked
import GoSem.Claim
import GoSem.ClaimJoined
import GoSem.ClaimMapViews
import Derived.JoinedTies
import Derived.KernelRfl
namespace Go.Proofs.Ytjmmofedcadoiaa
/- THE CELL 'sum', in the pinned program and in every row, IS THE sha256 OF THE DUMP (.gsa) THAT YtjmmofedcadoiaaProg.lean LOADS. Nothing in Lean hashes anything: it is a label: what it is worth is what the hold of that sum in a sandbox is worth. -/
noncomputable def Try.pinned : Pinned := { name := "ytjmmofedcadoiaa", sum := "64698a5371c419a641fc1d6a2162cbfd951abc27f64cb0f7a571fe1b9e278db2", checked := Try.checked }
namespace Rows
def none {H : Type} : Left H := { results := [], args := [] }

/-- 'governorlaw11.StepTells': WHATEVER THE INPUT: true; the input reads as it did. -/
def stepTellsSpec : ChangeSpec := { name := "stepTells", fn := fun _ => fun
  | [d1, d2, d3] => { results := [.lit (.bool true)], args := [d1, d2, d3] }
  | _ => none }
def stepTellsRow : OpenClaim := { program := "ytjmmofedcadoiaa", sum := "64698a5371c419a641fc1d6a2162cbfd951abc27f64cb0f7a571fe1b9e278db2", func := "governor/governorlaw11.StepTells", spec := "stepTells", unfollowed := true, recurses := true, apart := false }
def StepTellsSaid : Prop := stepTellsRow.holds Try.pinned (OpenSpec.ofChange stepTellsSpec)

/-- ITS FALSE NEIGHBOUR: 'it returns false'. Refute it at one input. -/
def stepTellsWrong : ChangeSpec := { name := "stepTells", fn := fun _ => fun
  | [d1, d2, d3] => { results := [.lit (.bool false)], args := [d1, d2, d3] }
  | _ => none }
def StepTellsWrongFalsely : Prop := stepTellsRow.holds Try.pinned (OpenSpec.ofChange stepTellsWrong)

/-- 'governorlaw11.StepFinds': WHATEVER THE INPUT: true; the input reads as it did. -/
def stepFindsSpec : ChangeSpec := { name := "stepFinds", fn := fun _ => fun
  | [d1, d2] => { results := [.lit (.bool true)], args := [d1, d2] }
  | _ => none }
def stepFindsRow : OpenClaim := { program := "ytjmmofedcadoiaa", sum := "64698a5371c419a641fc1d6a2162cbfd951abc27f64cb0f7a571fe1b9e278db2", func := "governor/governorlaw11.StepFinds", spec := "stepFinds", unfollowed := true, recurses := true, apart := false }
def StepFindsSaid : Prop := stepFindsRow.holds Try.pinned (OpenSpec.ofChange stepFindsSpec)

/-- ITS FALSE NEIGHBOUR: 'it returns false'. Refute it at one input. -/
def stepFindsWrong : ChangeSpec := { name := "stepFinds", fn := fun _ => fun
  | [d1, d2] => { results := [.lit (.bool false)], args := [d1, d2] }
  | _ => none }
def StepFindsWrongFalsely : Prop := stepFindsRow.holds Try.pinned (OpenSpec.ofChange stepFindsWrong)

/-- 'governorlaw11.StepEdges': WHATEVER THE INPUT: true; the input reads as it did. -/
def stepEdgesSpec : ChangeSpec := { name := "stepEdges", fn := fun _ => fun
  | [d1, d2] => { results := [.lit (.bool true)], args := [d1, d2] }
  | _ => none }
def stepEdgesRow : OpenClaim := { program := "ytjmmofedcadoiaa", sum := "64698a5371c419a641fc1d6a2162cbfd951abc27f64cb0f7a571fe1b9e278db2", func := "governor/governorlaw11.StepEdges", spec := "stepEdges", unfollowed := true, recurses := true, apart := false }
def StepEdgesSaid : Prop := stepEdgesRow.holds Try.pinned (OpenSpec.ofChange stepEdgesSpec)

/-- ITS FALSE NEIGHBOUR: 'it returns false'. Refute it at one input. -/
def stepEdgesWrong : ChangeSpec := { name := "stepEdges", fn := fun _ => fun
  | [d1, d2] => { results := [.lit (.bool false)], args := [d1, d2] }
  | _ => none }
def StepEdgesWrongFalsely : Prop := stepEdgesRow.holds Try.pinned (OpenSpec.ofChange stepEdgesWrong)

/-- 'governorlaw11.StepDeltas': WHATEVER THE INPUT: true; the input reads as it did. -/
def stepDeltasSpec : ChangeSpec := { name := "stepDeltas", fn := fun _ => fun
  | [d1, d2, d3] => { results := [.lit (.bool true)], args := [d1, d2, d3] }
  | _ => none }
def stepDeltasRow : OpenClaim := { program := "ytjmmofedcadoiaa", sum := "64698a5371c419a641fc1d6a2162cbfd951abc27f64cb0f7a571fe1b9e278db2", func := "governor/governorlaw11.StepDeltas", spec := "stepDeltas", unfollowed := true, recurses := true, apart := false }
def StepDeltasSaid : Prop := stepDeltasRow.holds Try.pinned (OpenSpec.ofChange stepDeltasSpec)

/-- ITS FALSE NEIGHBOUR: 'it returns false'. Refute it at one input. -/
def stepDeltasWrong : ChangeSpec := { name := "stepDeltas", fn := fun _ => fun
  | [d1, d2, d3] => { results := [.lit (.bool false)], args := [d1, d2, d3] }
  | _ => none }
def StepDeltasWrongFalsely : Prop := stepDeltasRow.holds Try.pinned (OpenSpec.ofChange stepDeltasWrong)

/-- 'governorlaw11.StepGrows': WHATEVER THE INPUT: true; the input reads as it did. -/
def stepGrowsSpec : ChangeSpec := { name := "stepGrows", fn := fun _ => fun
  | [d1, d2, d3, d4] => { results := [.lit (.bool true)], args := [d1, d2, d3, d4] }
  | _ => none }
def stepGrowsRow : OpenClaim := { program := "ytjmmofedcadoiaa", sum := "64698a5371c419a641fc1d6a2162cbfd951abc27f64cb0f7a571fe1b9e278db2", func := "governor/governorlaw11.StepGrows", spec := "stepGrows", unfollowed := true, recurses := true, apart := false }
def StepGrowsSaid : Prop := stepGrowsRow.holds Try.pinned (OpenSpec.ofChange stepGrowsSpec)

/-- ITS FALSE NEIGHBOUR: 'it returns false'. Refute it at one input. -/
def stepGrowsWrong : ChangeSpec := { name := "stepGrows", fn := fun _ => fun
  | [d1, d2, d3, d4] => { results := [.lit (.bool false)], args := [d1, d2, d3, d4] }
  | _ => none }
def StepGrowsWrongFalsely : Prop := stepGrowsRow.holds Try.pinned (OpenSpec.ofChange stepGrowsWrong)

/-- 'governorlaw11.StepAlone': WHATEVER THE INPUT: true; the input reads as it did. -/
def stepAloneSpec : ChangeSpec := { name := "stepAlone", fn := fun _ => fun
  | [d1, d2, d3] => { results := [.lit (.bool true)], args := [d1, d2, d3] }
  | _ => none }
def stepAloneRow : OpenClaim := { program := "ytjmmofedcadoiaa", sum := "64698a5371c419a641fc1d6a2162cbfd951abc27f64cb0f7a571fe1b9e278db2", func := "governor/governorlaw11.StepAlone", spec := "stepAlone", unfollowed := true, recurses := true, apart := false }
def StepAloneSaid : Prop := stepAloneRow.holds Try.pinned (OpenSpec.ofChange stepAloneSpec)

/-- ITS FALSE NEIGHBOUR: 'it returns false'. Refute it at one input. -/
def stepAloneWrong : ChangeSpec := { name := "stepAlone", fn := fun _ => fun
  | [d1, d2, d3] => { results := [.lit (.bool false)], args := [d1, d2, d3] }
  | _ => none }
def StepAloneWrongFalsely : Prop := stepAloneRow.holds Try.pinned (OpenSpec.ofChange stepAloneWrong)

/-- 'governorlaw12.PidTells': WHATEVER THE INPUT: true; the input reads as it did. -/
def pidTellsSpec : ChangeSpec := { name := "pidTells", fn := fun _ => fun
  | [d1, d2, d3, d4, d5, d6] => { results := [.lit (.bool true)], args := [d1, d2, d3, d4, d5, d6] }
  | _ => none }
def pidTellsRow : OpenClaim := { program := "ytjmmofedcadoiaa", sum := "64698a5371c419a641fc1d6a2162cbfd951abc27f64cb0f7a571fe1b9e278db2", func := "governor/governorlaw12.PidTells", spec := "pidTells", unfollowed := true, recurses := true, apart := false }
def PidTellsSaid : Prop := pidTellsRow.holds Try.pinned (OpenSpec.ofChange pidTellsSpec)

/-- ITS FALSE NEIGHBOUR: 'it returns false'. Refute it at one input. -/
def pidTellsWrong : ChangeSpec := { name := "pidTells", fn := fun _ => fun
  | [d1, d2, d3, d4, d5, d6] => { results := [.lit (.bool false)], args := [d1, d2, d3, d4, d5, d6] }
  | _ => none }
def PidTellsWrongFalsely : Prop := pidTellsRow.holds Try.pinned (OpenSpec.ofChange pidTellsWrong)

/-- 'governorlaw12.PidBounds': WHATEVER THE INPUT: true; the input reads as it did. -/
def pidBoundsSpec : ChangeSpec := { name := "pidBounds", fn := fun _ => fun
  | [d1, d2, d3] => { results := [.lit (.bool true)], args := [d1, d2, d3] }
  | _ => none }
def pidBoundsRow : OpenClaim := { program := "ytjmmofedcadoiaa", sum := "64698a5371c419a641fc1d6a2162cbfd951abc27f64cb0f7a571fe1b9e278db2", func := "governor/governorlaw12.PidBounds", spec := "pidBounds", unfollowed := true, recurses := true, apart := false }
def PidBoundsSaid : Prop := pidBoundsRow.holds Try.pinned (OpenSpec.ofChange pidBoundsSpec)

/-- ITS FALSE NEIGHBOUR: 'it returns false'. Refute it at one input. -/
def pidBoundsWrong : ChangeSpec := { name := "pidBounds", fn := fun _ => fun
  | [d1, d2, d3] => { results := [.lit (.bool false)], args := [d1, d2, d3] }
  | _ => none }
def PidBoundsWrongFalsely : Prop := pidBoundsRow.holds Try.pinned (OpenSpec.ofChange pidBoundsWrong)

/-- 'governorlaw12.PidParts': WHATEVER THE INPUT: true; the input reads as it did. -/
def pidPartsSpec : ChangeSpec := { name := "pidParts", fn := fun _ => fun
  | [d1, d2, d3, d4] => { results := [.lit (.bool true)], args := [d1, d2, d3, d4] }
  | _ => none }
def pidPartsRow : OpenClaim := { program := "ytjmmofedcadoiaa", sum := "64698a5371c419a641fc1d6a2162cbfd951abc27f64cb0f7a571fe1b9e278db2", func := "governor/governorlaw12.PidParts", spec := "pidParts", unfollowed := true, recurses := true, apart := false }
def PidPartsSaid : Prop := pidPartsRow.holds Try.pinned (OpenSpec.ofChange pidPartsSpec)

/-- ITS FALSE NEIGHBOUR: 'it returns false'. Refute it at one input. -/
def pidPartsWrong : ChangeSpec := { name := "pidParts", fn := fun _ => fun
  | [d1, d2, d3, d4] => { results := [.lit (.bool false)], args := [d1, d2, d3, d4] }
  | _ => none }
def PidPartsWrongFalsely : Prop := pidPartsRow.holds Try.pinned (OpenSpec.ofChange pidPartsWrong)

/-- 'governorlaw12.PidMirror': WHATEVER THE INPUT: true; the input reads as it did. -/
def pidMirrorSpec : ChangeSpec := { name := "pidMirror", fn := fun _ => fun
  | [d1, d2, d3, d4] => { results := [.lit (.bool true)], args := [d1, d2, d3, d4] }
  | _ => none }
def pidMirrorRow : OpenClaim := { program := "ytjmmofedcadoiaa", sum := "64698a5371c419a641fc1d6a2162cbfd951abc27f64cb0f7a571fe1b9e278db2", func := "governor/governorlaw12.PidMirror", spec := "pidMirror", unfollowed := true, recurses := true, apart := false }
def PidMirrorSaid : Prop := pidMirrorRow.holds Try.pinned (OpenSpec.ofChange pidMirrorSpec)

/-- ITS FALSE NEIGHBOUR: 'it returns false'. Refute it at one input. -/
def pidMirrorWrong : ChangeSpec := { name := "pidMirror", fn := fun _ => fun
  | [d1, d2, d3, d4] => { results := [.lit (.bool false)], args := [d1, d2, d3, d4] }
  | _ => none }
def PidMirrorWrongFalsely : Prop := pidMirrorRow.holds Try.pinned (OpenSpec.ofChange pidMirrorWrong)

/-- 'governorlaw12.PidRests': WHATEVER THE INPUT: true; the input reads as it did. -/
def pidRestsSpec : ChangeSpec := { name := "pidRests", fn := fun _ => fun
  | [d1, d2, d3, d4, d5, d6] => { results := [.lit (.bool true)], args := [d1, d2, d3, d4, d5, d6] }
  | _ => none }
def pidRestsRow : OpenClaim := { program := "ytjmmofedcadoiaa", sum := "64698a5371c419a641fc1d6a2162cbfd951abc27f64cb0f7a571fe1b9e278db2", func := "governor/governorlaw12.PidRests", spec := "pidRests", unfollowed := true, recurses := true, apart := false }
def PidRestsSaid : Prop := pidRestsRow.holds Try.pinned (OpenSpec.ofChange pidRestsSpec)

/-- ITS FALSE NEIGHBOUR: 'it returns false'. Refute it at one input. -/
def pidRestsWrong : ChangeSpec := { name := "pidRests", fn := fun _ => fun
  | [d1, d2, d3, d4, d5, d6] => { results := [.lit (.bool false)], args := [d1, d2, d3, d4, d5, d6] }
  | _ => none }
def PidRestsWrongFalsely : Prop := pidRestsRow.holds Try.pinned (OpenSpec.ofChange pidRestsWrong)

/-- 'governorlaw12.PidSums': WHATEVER THE INPUT: true; the input reads as it did. -/
def pidSumsSpec : ChangeSpec := { name := "pidSums", fn := fun _ => fun
  | [d1, d2] => { results := [.lit (.bool true)], args := [d1, d2] }
  | _ => none }
def pidSumsRow : OpenClaim := { program := "ytjmmofedcadoiaa", sum := "64698a5371c419a641fc1d6a2162cbfd951abc27f64cb0f7a571fe1b9e278db2", func := "governor/governorlaw12.PidSums", spec := "pidSums", unfollowed := true, recurses := true, apart := false }
def PidSumsSaid : Prop := pidSumsRow.holds Try.pinned (OpenSpec.ofChange pidSumsSpec)

/-- ITS FALSE NEIGHBOUR: 'it returns false'. Refute it at one input. -/
def pidSumsWrong : ChangeSpec := { name := "pidSums", fn := fun _ => fun
  | [d1, d2] => { results := [.lit (.bool false)], args := [d1, d2] }
  | _ => none }
def PidSumsWrongFalsely : Prop := pidSumsRow.holds Try.pinned (OpenSpec.ofChange pidSumsWrong)

/- THE SECOND FORM. 'bulk': how many values and letters a reading holds, each counted each time it is reached (what is shared counts as often as it is met; a slice's spare places count too). A statement '..UptoSaid' is the law's where the arguments, and the package variables that the reading takes, are together of bulk at most 1048576: NARROWER than '..Said'. Prove '..Said' where nothing that the law and all that it calls make is longer than what came in: it says more and counts as full. Else prove '..UptoSaid'. A law counts once. -/
mutual
def uptoBulk {H : Type} : DataW H → Nat
  | .lit (.string bytes) => bytes.length + 1
  | .lit _ => 1
  | .nil => 1
  | .ptr d => uptoBulk d + 1
  | .slice elems spare => uptoBulkAll elems + uptoBulkAll spare + 1
  | .agg parts => uptoBulkAll parts + 1
  | .iface _ d => uptoBulk d + 1
  | .map entries => uptoBulkEntries entries + 1
  | .held _ => 1
def uptoBulkAll {H : Type} : List (DataW H) → Nat
  | [] => 0
  | d :: r => uptoBulk d + uptoBulkAll r
def uptoBulkEntries {H : Type} : List (Lit × DataW H) → Nat
  | [] => 0
  | x :: r => uptoBulkEntry x + uptoBulkEntries r
def uptoBulkEntry {H : Type} : Lit × DataW H → Nat
  | (.string bytes, d) => bytes.length + uptoBulk d + 1
  | (_, d) => uptoBulk d + 1
 end
def uptoSmall : (H : Type) → List (DataW H) → Bool := fun _ ds => decide (uptoBulkAll ds ≤ 1048576)
def OpenSpec.upto (s : _root_.Go.ChangeSpec) : _root_.Go.OpenSpec := { _root_.Go.OpenSpec.ofChange s with cond := some uptoSmall }

/-- 'governorlaw11.StepTells', WHERE WHAT IT READS IS OF BULK AT MOST 1048576: true; the input reads as it did. -/
def stepTellsUptoRow : OpenClaim := { program := "ytjmmofedcadoiaa", sum := "64698a5371c419a641fc1d6a2162cbfd951abc27f64cb0f7a571fe1b9e278db2", func := "governor/governorlaw11.StepTells", spec := "stepTells", unfollowed := true, recurses := true, apart := false, narrowed := true }
def StepTellsUptoSaid : Prop := stepTellsUptoRow.holds Try.pinned (OpenSpec.upto stepTellsSpec)

/-- 'governorlaw11.StepFinds', WHERE WHAT IT READS IS OF BULK AT MOST 1048576: true; the input reads as it did. -/
def stepFindsUptoRow : OpenClaim := { program := "ytjmmofedcadoiaa", sum := "64698a5371c419a641fc1d6a2162cbfd951abc27f64cb0f7a571fe1b9e278db2", func := "governor/governorlaw11.StepFinds", spec := "stepFinds", unfollowed := true, recurses := true, apart := false, narrowed := true }
def StepFindsUptoSaid : Prop := stepFindsUptoRow.holds Try.pinned (OpenSpec.upto stepFindsSpec)

/-- 'governorlaw11.StepEdges', WHERE WHAT IT READS IS OF BULK AT MOST 1048576: true; the input reads as it did. -/
def stepEdgesUptoRow : OpenClaim := { program := "ytjmmofedcadoiaa", sum := "64698a5371c419a641fc1d6a2162cbfd951abc27f64cb0f7a571fe1b9e278db2", func := "governor/governorlaw11.StepEdges", spec := "stepEdges", unfollowed := true, recurses := true, apart := false, narrowed := true }
def StepEdgesUptoSaid : Prop := stepEdgesUptoRow.holds Try.pinned (OpenSpec.upto stepEdgesSpec)

/-- 'governorlaw11.StepDeltas', WHERE WHAT IT READS IS OF BULK AT MOST 1048576: true; the input reads as it did. -/
def stepDeltasUptoRow : OpenClaim := { program := "ytjmmofedcadoiaa", sum := "64698a5371c419a641fc1d6a2162cbfd951abc27f64cb0f7a571fe1b9e278db2", func := "governor/governorlaw11.StepDeltas", spec := "stepDeltas", unfollowed := true, recurses := true, apart := false, narrowed := true }
def StepDeltasUptoSaid : Prop := stepDeltasUptoRow.holds Try.pinned (OpenSpec.upto stepDeltasSpec)

/-- 'governorlaw11.StepGrows', WHERE WHAT IT READS IS OF BULK AT MOST 1048576: true; the input reads as it did. -/
def stepGrowsUptoRow : OpenClaim := { program := "ytjmmofedcadoiaa", sum := "64698a5371c419a641fc1d6a2162cbfd951abc27f64cb0f7a571fe1b9e278db2", func := "governor/governorlaw11.StepGrows", spec := "stepGrows", unfollowed := true, recurses := true, apart := false, narrowed := true }
def StepGrowsUptoSaid : Prop := stepGrowsUptoRow.holds Try.pinned (OpenSpec.upto stepGrowsSpec)

/-- 'governorlaw11.StepAlone', WHERE WHAT IT READS IS OF BULK AT MOST 1048576: true; the input reads as it did. -/
def stepAloneUptoRow : OpenClaim := { program := "ytjmmofedcadoiaa", sum := "64698a5371c419a641fc1d6a2162cbfd951abc27f64cb0f7a571fe1b9e278db2", func := "governor/governorlaw11.StepAlone", spec := "stepAlone", unfollowed := true, recurses := true, apart := false, narrowed := true }
def StepAloneUptoSaid : Prop := stepAloneUptoRow.holds Try.pinned (OpenSpec.upto stepAloneSpec)

/-- 'governorlaw12.PidTells', WHERE WHAT IT READS IS OF BULK AT MOST 1048576: true; the input reads as it did. -/
def pidTellsUptoRow : OpenClaim := { program := "ytjmmofedcadoiaa", sum := "64698a5371c419a641fc1d6a2162cbfd951abc27f64cb0f7a571fe1b9e278db2", func := "governor/governorlaw12.PidTells", spec := "pidTells", unfollowed := true, recurses := true, apart := false, narrowed := true }
def PidTellsUptoSaid : Prop := pidTellsUptoRow.holds Try.pinned (OpenSpec.upto pidTellsSpec)

/-- 'governorlaw12.PidBounds', WHERE WHAT IT READS IS OF BULK AT MOST 1048576: true; the input reads as it did. -/
def pidBoundsUptoRow : OpenClaim := { program := "ytjmmofedcadoiaa", sum := "64698a5371c419a641fc1d6a2162cbfd951abc27f64cb0f7a571fe1b9e278db2", func := "governor/governorlaw12.PidBounds", spec := "pidBounds", unfollowed := true, recurses := true, apart := false, narrowed := true }
def PidBoundsUptoSaid : Prop := pidBoundsUptoRow.holds Try.pinned (OpenSpec.upto pidBoundsSpec)

/-- 'governorlaw12.PidParts', WHERE WHAT IT READS IS OF BULK AT MOST 1048576: true; the input reads as it did. -/
def pidPartsUptoRow : OpenClaim := { program := "ytjmmofedcadoiaa", sum := "64698a5371c419a641fc1d6a2162cbfd951abc27f64cb0f7a571fe1b9e278db2", func := "governor/governorlaw12.PidParts", spec := "pidParts", unfollowed := true, recurses := true, apart := false, narrowed := true }
def PidPartsUptoSaid : Prop := pidPartsUptoRow.holds Try.pinned (OpenSpec.upto pidPartsSpec)

/-- 'governorlaw12.PidMirror', WHERE WHAT IT READS IS OF BULK AT MOST 1048576: true; the input reads as it did. -/
def pidMirrorUptoRow : OpenClaim := { program := "ytjmmofedcadoiaa", sum := "64698a5371c419a641fc1d6a2162cbfd951abc27f64cb0f7a571fe1b9e278db2", func := "governor/governorlaw12.PidMirror", spec := "pidMirror", unfollowed := true, recurses := true, apart := false, narrowed := true }
def PidMirrorUptoSaid : Prop := pidMirrorUptoRow.holds Try.pinned (OpenSpec.upto pidMirrorSpec)

/-- 'governorlaw12.PidRests', WHERE WHAT IT READS IS OF BULK AT MOST 1048576: true; the input reads as it did. -/
def pidRestsUptoRow : OpenClaim := { program := "ytjmmofedcadoiaa", sum := "64698a5371c419a641fc1d6a2162cbfd951abc27f64cb0f7a571fe1b9e278db2", func := "governor/governorlaw12.PidRests", spec := "pidRests", unfollowed := true, recurses := true, apart := false, narrowed := true }
def PidRestsUptoSaid : Prop := pidRestsUptoRow.holds Try.pinned (OpenSpec.upto pidRestsSpec)

/-- 'governorlaw12.PidSums', WHERE WHAT IT READS IS OF BULK AT MOST 1048576: true; the input reads as it did. -/
def pidSumsUptoRow : OpenClaim := { program := "ytjmmofedcadoiaa", sum := "64698a5371c419a641fc1d6a2162cbfd951abc27f64cb0f7a571fe1b9e278db2", func := "governor/governorlaw12.PidSums", spec := "pidSums", unfollowed := true, recurses := true, apart := false, narrowed := true }
def PidSumsUptoSaid : Prop := pidSumsUptoRow.holds Try.pinned (OpenSpec.upto pidSumsSpec)

end Rows
end Go.Proofs.Ytjmmofedcadoiaa
