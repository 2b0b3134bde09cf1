/-
  No cell of these rows narrows 'for every input' (looked for: loops, veiled, ifaces, maps, wideKeys, modest, calm, conditions, laid).
  DERIVED. THE GIVEN ROWS OF THIS SEAT. 10 by the template 'for every input the law returns true; each argument reads behind the call as it read before'; 0 by the template 'total and deterministic' (their statements: YtggbhokhibfdmaaTotals.lean).
  GIVEN WITH THE SEED: the statements are not yours to turn. If you find one false, say at which input.
  Laid BY PROGRAM, IN A SANDBOX (cutbox-rows.mjs): the forced cells as the released guide's own fill.sh prints them over the translation e064292a6a5242f7… (all of the seat's roots in one cut). By AI agents, Wed Nov 11 2026. No macro, syntax, notation, axiom, sorry.
-/
import Derived.Test.YtggbhokhibfdmaaChecked
import GoSem.Claim
import GoSem.ClaimJoined
import GoSem.ClaimMapViews
import Derived.JoinedTies
import Derived.KernelRfl
namespace Go.Proofs.Ytggbhokhibfdmaa
/- THE CELL 'sum', in the pinned program and in every row, IS THE sha256 OF THE DUMP (.gsa) THAT YtggbhokhibfdmaaProg.lean LOADS. Nothing in Lean hashes anything: it is a label: what it is worth is what the hold of that sum in a sandbox is worth. -/
noncomputable def Try.pinned : Pinned := { name := "ytggbhokhibfdmaa", sum := "e064292a6a5242f7411adb60a0c8fb943c392d523dae4dcb5a13b3a9b12da03e", checked := Try.checked }
namespace Rows
def none {H : Type} : Left H := { results := [], args := [] }

/-- 'viceroylaw10.IommuRecords': WHATEVER THE INPUT: true; the input reads as it did. -/
def iommuRecordsSpec : ChangeSpec := { name := "iommuRecords", fn := fun _ => fun
  | [d1, d2] => { results := [.lit (.bool true)], args := [d1, d2] }
  | _ => none }
def iommuRecordsRow : OpenClaim := { program := "ytggbhokhibfdmaa", sum := "e064292a6a5242f7411adb60a0c8fb943c392d523dae4dcb5a13b3a9b12da03e", func := "viceroy/viceroylaw10.IommuRecords", spec := "iommuRecords", unfollowed := true, recurses := true, apart := false }
def IommuRecordsSaid : Prop := iommuRecordsRow.holds Try.pinned (OpenSpec.ofChange iommuRecordsSpec)

/-- ITS FALSE NEIGHBOUR: 'it returns false'. Refute it at one input. -/
def iommuRecordsWrong : ChangeSpec := { name := "iommuRecords", fn := fun _ => fun
  | [d1, d2] => { results := [.lit (.bool false)], args := [d1, d2] }
  | _ => none }
def IommuRecordsWrongFalsely : Prop := iommuRecordsRow.holds Try.pinned (OpenSpec.ofChange iommuRecordsWrong)

/-- 'viceroylaw10.IommuStreams': WHATEVER THE INPUT: true; the input reads as it did. -/
def iommuStreamsSpec : ChangeSpec := { name := "iommuStreams", fn := fun _ => fun
  | [d1, d2, d3, d4, d5] => { results := [.lit (.bool true)], args := [d1, d2, d3, d4, d5] }
  | _ => none }
def iommuStreamsRow : OpenClaim := { program := "ytggbhokhibfdmaa", sum := "e064292a6a5242f7411adb60a0c8fb943c392d523dae4dcb5a13b3a9b12da03e", func := "viceroy/viceroylaw10.IommuStreams", spec := "iommuStreams", unfollowed := true, recurses := true, apart := false }
def IommuStreamsSaid : Prop := iommuStreamsRow.holds Try.pinned (OpenSpec.ofChange iommuStreamsSpec)

/-- ITS FALSE NEIGHBOUR: 'it returns false'. Refute it at one input. -/
def iommuStreamsWrong : ChangeSpec := { name := "iommuStreams", fn := fun _ => fun
  | [d1, d2, d3, d4, d5] => { results := [.lit (.bool false)], args := [d1, d2, d3, d4, d5] }
  | _ => none }
def IommuStreamsWrongFalsely : Prop := iommuStreamsRow.holds Try.pinned (OpenSpec.ofChange iommuStreamsWrong)

/-- 'viceroylaw10.IommuConfined': WHATEVER THE INPUT: true; the input reads as it did. -/
def iommuConfinedSpec : ChangeSpec := { name := "iommuConfined", fn := fun _ => fun
  | [d1, d2, d3, d4, d5, d6] => { results := [.lit (.bool true)], args := [d1, d2, d3, d4, d5, d6] }
  | _ => none }
def iommuConfinedRow : OpenClaim := { program := "ytggbhokhibfdmaa", sum := "e064292a6a5242f7411adb60a0c8fb943c392d523dae4dcb5a13b3a9b12da03e", func := "viceroy/viceroylaw10.IommuConfined", spec := "iommuConfined", unfollowed := true, recurses := true, apart := false }
def IommuConfinedSaid : Prop := iommuConfinedRow.holds Try.pinned (OpenSpec.ofChange iommuConfinedSpec)

/-- ITS FALSE NEIGHBOUR: 'it returns false'. Refute it at one input. -/
def iommuConfinedWrong : ChangeSpec := { name := "iommuConfined", fn := fun _ => fun
  | [d1, d2, d3, d4, d5, d6] => { results := [.lit (.bool false)], args := [d1, d2, d3, d4, d5, d6] }
  | _ => none }
def IommuConfinedWrongFalsely : Prop := iommuConfinedRow.holds Try.pinned (OpenSpec.ofChange iommuConfinedWrong)

/-- 'viceroylaw10.IommuPlays': WHATEVER THE INPUT: true; the input reads as it did. -/
def iommuPlaysSpec : ChangeSpec := { name := "iommuPlays", fn := fun _ => fun
  | [d1, d2] => { results := [.lit (.bool true)], args := [d1, d2] }
  | _ => none }
def iommuPlaysRow : OpenClaim := { program := "ytggbhokhibfdmaa", sum := "e064292a6a5242f7411adb60a0c8fb943c392d523dae4dcb5a13b3a9b12da03e", func := "viceroy/viceroylaw10.IommuPlays", spec := "iommuPlays", unfollowed := true, recurses := true, apart := false }
def IommuPlaysSaid : Prop := iommuPlaysRow.holds Try.pinned (OpenSpec.ofChange iommuPlaysSpec)

/-- ITS FALSE NEIGHBOUR: 'it returns false'. Refute it at one input. -/
def iommuPlaysWrong : ChangeSpec := { name := "iommuPlays", fn := fun _ => fun
  | [d1, d2] => { results := [.lit (.bool false)], args := [d1, d2] }
  | _ => none }
def IommuPlaysWrongFalsely : Prop := iommuPlaysRow.holds Try.pinned (OpenSpec.ofChange iommuPlaysWrong)

/-- 'viceroylaw13.CdtBack': WHATEVER THE INPUT: true; the input reads as it did. -/
def cdtBackSpec : ChangeSpec := { name := "cdtBack", fn := fun _ => fun
  | [d1, d2, d3, d4] => { results := [.lit (.bool true)], args := [d1, d2, d3, d4] }
  | _ => none }
def cdtBackRow : OpenClaim := { program := "ytggbhokhibfdmaa", sum := "e064292a6a5242f7411adb60a0c8fb943c392d523dae4dcb5a13b3a9b12da03e", func := "viceroy/viceroylaw13.CdtBack", spec := "cdtBack", inPlace := ["slices.overlaps[viceroy/cdt.place]"], unfollowed := true, recurses := true, apart := false }
def CdtBackSaid : Prop := cdtBackRow.holds Try.pinned (OpenSpec.ofChange cdtBackSpec)

/-- ITS FALSE NEIGHBOUR: 'it returns false'. Refute it at one input. -/
def cdtBackWrong : ChangeSpec := { name := "cdtBack", fn := fun _ => fun
  | [d1, d2, d3, d4] => { results := [.lit (.bool false)], args := [d1, d2, d3, d4] }
  | _ => none }
def CdtBackWrongFalsely : Prop := cdtBackRow.holds Try.pinned (OpenSpec.ofChange cdtBackWrong)

/-- 'viceroylaw13.CdtNames': WHATEVER THE INPUT: true; the input reads as it did. -/
def cdtNamesSpec : ChangeSpec := { name := "cdtNames", fn := fun _ => fun
  | [d1, d2, d3] => { results := [.lit (.bool true)], args := [d1, d2, d3] }
  | _ => none }
def cdtNamesRow : OpenClaim := { program := "ytggbhokhibfdmaa", sum := "e064292a6a5242f7411adb60a0c8fb943c392d523dae4dcb5a13b3a9b12da03e", func := "viceroy/viceroylaw13.CdtNames", spec := "cdtNames", inPlace := ["slices.overlaps[viceroy/cdt.place]"], unfollowed := true, recurses := true, apart := false }
def CdtNamesSaid : Prop := cdtNamesRow.holds Try.pinned (OpenSpec.ofChange cdtNamesSpec)

/-- ITS FALSE NEIGHBOUR: 'it returns false'. Refute it at one input. -/
def cdtNamesWrong : ChangeSpec := { name := "cdtNames", fn := fun _ => fun
  | [d1, d2, d3] => { results := [.lit (.bool false)], args := [d1, d2, d3] }
  | _ => none }
def CdtNamesWrongFalsely : Prop := cdtNamesRow.holds Try.pinned (OpenSpec.ofChange cdtNamesWrong)

/-- 'viceroylaw13.CdtFamily': WHATEVER THE INPUT: true; the input reads as it did. -/
def cdtFamilySpec : ChangeSpec := { name := "cdtFamily", fn := fun _ => fun
  | [d1, d2] => { results := [.lit (.bool true)], args := [d1, d2] }
  | _ => none }
def cdtFamilyRow : OpenClaim := { program := "ytggbhokhibfdmaa", sum := "e064292a6a5242f7411adb60a0c8fb943c392d523dae4dcb5a13b3a9b12da03e", func := "viceroy/viceroylaw13.CdtFamily", spec := "cdtFamily", inPlace := ["slices.overlaps[viceroy/cdt.place]"], unfollowed := true, recurses := true, apart := false }
def CdtFamilySaid : Prop := cdtFamilyRow.holds Try.pinned (OpenSpec.ofChange cdtFamilySpec)

/-- ITS FALSE NEIGHBOUR: 'it returns false'. Refute it at one input. -/
def cdtFamilyWrong : ChangeSpec := { name := "cdtFamily", fn := fun _ => fun
  | [d1, d2] => { results := [.lit (.bool false)], args := [d1, d2] }
  | _ => none }
def CdtFamilyWrongFalsely : Prop := cdtFamilyRow.holds Try.pinned (OpenSpec.ofChange cdtFamilyWrong)

/-- 'viceroylaw13.CdtForest': WHATEVER THE INPUT: true; the input reads as it did. -/
def cdtForestSpec : ChangeSpec := { name := "cdtForest", fn := fun _ => fun
  | [d] => { results := [.lit (.bool true)], args := [d] }
  | _ => none }
def cdtForestRow : OpenClaim := { program := "ytggbhokhibfdmaa", sum := "e064292a6a5242f7411adb60a0c8fb943c392d523dae4dcb5a13b3a9b12da03e", func := "viceroy/viceroylaw13.CdtForest", spec := "cdtForest", inPlace := ["slices.overlaps[viceroy/cdt.place]"], unfollowed := true, recurses := true, apart := false }
def CdtForestSaid : Prop := cdtForestRow.holds Try.pinned (OpenSpec.ofChange cdtForestSpec)

/-- ITS FALSE NEIGHBOUR: 'it returns false'. Refute it at one input. -/
def cdtForestWrong : ChangeSpec := { name := "cdtForest", fn := fun _ => fun
  | [d] => { results := [.lit (.bool false)], args := [d] }
  | _ => none }
def CdtForestWrongFalsely : Prop := cdtForestRow.holds Try.pinned (OpenSpec.ofChange cdtForestWrong)

/-- 'viceroylaw13.CdtChild': WHATEVER THE INPUT: true; the input reads as it did. -/
def cdtChildSpec : ChangeSpec := { name := "cdtChild", fn := fun _ => fun
  | [d1, d2, d3] => { results := [.lit (.bool true)], args := [d1, d2, d3] }
  | _ => none }
def cdtChildRow : OpenClaim := { program := "ytggbhokhibfdmaa", sum := "e064292a6a5242f7411adb60a0c8fb943c392d523dae4dcb5a13b3a9b12da03e", func := "viceroy/viceroylaw13.CdtChild", spec := "cdtChild", inPlace := ["slices.overlaps[viceroy/cdt.place]"], unfollowed := true, recurses := true, apart := false }
def CdtChildSaid : Prop := cdtChildRow.holds Try.pinned (OpenSpec.ofChange cdtChildSpec)

/-- ITS FALSE NEIGHBOUR: 'it returns false'. Refute it at one input. -/
def cdtChildWrong : ChangeSpec := { name := "cdtChild", fn := fun _ => fun
  | [d1, d2, d3] => { results := [.lit (.bool false)], args := [d1, d2, d3] }
  | _ => none }
def CdtChildWrongFalsely : Prop := cdtChildRow.holds Try.pinned (OpenSpec.ofChange cdtChildWrong)

/-- 'viceroylaw13.CdtPlays': WHATEVER THE INPUT: true; the input reads as it did. -/
def cdtPlaysSpec : ChangeSpec := { name := "cdtPlays", fn := fun _ => fun
  | [d] => { results := [.lit (.bool true)], args := [d] }
  | _ => none }
def cdtPlaysRow : OpenClaim := { program := "ytggbhokhibfdmaa", sum := "e064292a6a5242f7411adb60a0c8fb943c392d523dae4dcb5a13b3a9b12da03e", func := "viceroy/viceroylaw13.CdtPlays", spec := "cdtPlays", inPlace := ["slices.overlaps[viceroy/cdt.place]"], unfollowed := true, recurses := true, apart := false }
def CdtPlaysSaid : Prop := cdtPlaysRow.holds Try.pinned (OpenSpec.ofChange cdtPlaysSpec)

/-- ITS FALSE NEIGHBOUR: 'it returns false'. Refute it at one input. -/
def cdtPlaysWrong : ChangeSpec := { name := "cdtPlays", fn := fun _ => fun
  | [d] => { results := [.lit (.bool false)], args := [d] }
  | _ => none }
def CdtPlaysWrongFalsely : Prop := cdtPlaysRow.holds Try.pinned (OpenSpec.ofChange cdtPlaysWrong)

/- THE SECOND FORM. 'bulk': how many values and letters a reading holds, each counted each time it is reached (what is shared counts as often as it is met; a slice's spare places count too). A statement '..UptoSaid' is the law's where the arguments, and the package variables that the reading takes, are together of bulk at most 1048576: NARROWER than '..Said'. Prove '..Said' where nothing that the law and all that it calls make is longer than what came in: it says more and counts as full. Else prove '..UptoSaid'. A law counts once. -/
mutual
def uptoBulk {H : Type} : DataW H → Nat
  | .lit (.string bytes) => bytes.length + 1
  | .lit _ => 1
  | .nil => 1
  | .ptr d => uptoBulk d + 1
  | .slice elems spare => uptoBulkAll elems + uptoBulkAll spare + 1
  | .agg parts => uptoBulkAll parts + 1
  | .iface _ d => uptoBulk d + 1
  | .map entries => uptoBulkEntries entries + 1
  | .held _ => 1
def uptoBulkAll {H : Type} : List (DataW H) → Nat
  | [] => 0
  | d :: r => uptoBulk d + uptoBulkAll r
def uptoBulkEntries {H : Type} : List (Lit × DataW H) → Nat
  | [] => 0
  | x :: r => uptoBulkEntry x + uptoBulkEntries r
def uptoBulkEntry {H : Type} : Lit × DataW H → Nat
  | (.string bytes, d) => bytes.length + uptoBulk d + 1
  | (_, d) => uptoBulk d + 1
 end
def uptoSmall : (H : Type) → List (DataW H) → Bool := fun _ ds => decide (uptoBulkAll ds ≤ 1048576)
def OpenSpec.upto (s : _root_.Go.ChangeSpec) : _root_.Go.OpenSpec := { _root_.Go.OpenSpec.ofChange s with cond := some uptoSmall }

/-- 'viceroylaw10.IommuRecords', WHERE WHAT IT READS IS OF BULK AT MOST 1048576: true; the input reads as it did. -/
def iommuRecordsUptoRow : OpenClaim := { program := "ytggbhokhibfdmaa", sum := "e064292a6a5242f7411adb60a0c8fb943c392d523dae4dcb5a13b3a9b12da03e", func := "viceroy/viceroylaw10.IommuRecords", spec := "iommuRecords", unfollowed := true, recurses := true, apart := false, narrowed := true }
def IommuRecordsUptoSaid : Prop := iommuRecordsUptoRow.holds Try.pinned (OpenSpec.upto iommuRecordsSpec)

/-- 'viceroylaw10.IommuStreams', WHERE WHAT IT READS IS OF BULK AT MOST 1048576: true; the input reads as it did. -/
def iommuStreamsUptoRow : OpenClaim := { program := "ytggbhokhibfdmaa", sum := "e064292a6a5242f7411adb60a0c8fb943c392d523dae4dcb5a13b3a9b12da03e", func := "viceroy/viceroylaw10.IommuStreams", spec := "iommuStreams", unfollowed := true, recurses := true, apart := false, narrowed := true }
def IommuStreamsUptoSaid : Prop := iommuStreamsUptoRow.holds Try.pinned (OpenSpec.upto iommuStreamsSpec)

/-- 'viceroylaw10.IommuConfined', WHERE WHAT IT READS IS OF BULK AT MOST 1048576: true; the input reads as it did. -/
def iommuConfinedUptoRow : OpenClaim := { program := "ytggbhokhibfdmaa", sum := "e064292a6a5242f7411adb60a0c8fb943c392d523dae4dcb5a13b3a9b12da03e", func := "viceroy/viceroylaw10.IommuConfined", spec := "iommuConfined", unfollowed := true, recurses := true, apart := false, narrowed := true }
def IommuConfinedUptoSaid : Prop := iommuConfinedUptoRow.holds Try.pinned (OpenSpec.upto iommuConfinedSpec)

/-- 'viceroylaw10.IommuPlays', WHERE WHAT IT READS IS OF BULK AT MOST 1048576: true; the input reads as it did. -/
def iommuPlaysUptoRow : OpenClaim := { program := "ytggbhokhibfdmaa", sum := "e064292a6a5242f7411adb60a0c8fb943c392d523dae4dcb5a13b3a9b12da03e", func := "viceroy/viceroylaw10.IommuPlays", spec := "iommuPlays", unfollowed := true, recurses := true, apart := false, narrowed := true }
def IommuPlaysUptoSaid : Prop := iommuPlaysUptoRow.holds Try.pinned (OpenSpec.upto iommuPlaysSpec)

/-- 'viceroylaw13.CdtBack', WHERE WHAT IT READS IS OF BULK AT MOST 1048576: true; the input reads as it did. -/
def cdtBackUptoRow : OpenClaim := { program := "ytggbhokhibfdmaa", sum := "e064292a6a5242f7411adb60a0c8fb943c392d523dae4dcb5a13b3a9b12da03e", func := "viceroy/viceroylaw13.CdtBack", spec := "cdtBack", inPlace := ["slices.overlaps[viceroy/cdt.place]"], unfollowed := true, recurses := true, apart := false, narrowed := true }
def CdtBackUptoSaid : Prop := cdtBackUptoRow.holds Try.pinned (OpenSpec.upto cdtBackSpec)

/-- 'viceroylaw13.CdtNames', WHERE WHAT IT READS IS OF BULK AT MOST 1048576: true; the input reads as it did. -/
def cdtNamesUptoRow : OpenClaim := { program := "ytggbhokhibfdmaa", sum := "e064292a6a5242f7411adb60a0c8fb943c392d523dae4dcb5a13b3a9b12da03e", func := "viceroy/viceroylaw13.CdtNames", spec := "cdtNames", inPlace := ["slices.overlaps[viceroy/cdt.place]"], unfollowed := true, recurses := true, apart := false, narrowed := true }
def CdtNamesUptoSaid : Prop := cdtNamesUptoRow.holds Try.pinned (OpenSpec.upto cdtNamesSpec)

/-- 'viceroylaw13.CdtFamily', WHERE WHAT IT READS IS OF BULK AT MOST 1048576: true; the input reads as it did. -/
def cdtFamilyUptoRow : OpenClaim := { program := "ytggbhokhibfdmaa", sum := "e064292a6a5242f7411adb60a0c8fb943c392d523dae4dcb5a13b3a9b12da03e", func := "viceroy/viceroylaw13.CdtFamily", spec := "cdtFamily", inPlace := ["slices.overlaps[viceroy/cdt.place]"], unfollowed := true, recurses := true, apart := false, narrowed := true }
def CdtFamilyUptoSaid : Prop := cdtFamilyUptoRow.holds Try.pinned (OpenSpec.upto cdtFamilySpec)

/-- 'viceroylaw13.CdtForest', WHERE WHAT IT READS IS OF BULK AT MOST 1048576: true; the input reads as it did. -/
def cdtForestUptoRow : OpenClaim := { program := "ytggbhokhibfdmaa", sum := "e064292a6a5242f7411adb60a0c8fb943c392d523dae4dcb5a13b3a9b12da03e", func := "viceroy/viceroylaw13.CdtForest", spec := "cdtForest", inPlace := ["slices.overlaps[viceroy/cdt.place]"], unfollowed := true, recurses := true, apart := false, narrowed := true }
def CdtForestUptoSaid : Prop := cdtForestUptoRow.holds Try.pinned (OpenSpec.upto cdtForestSpec)

/-- 'viceroylaw13.CdtChild', WHERE WHAT IT READS IS OF BULK AT MOST 1048576: true; the input reads as it did. -/
def cdtChildUptoRow : OpenClaim := { program := "ytggbhokhibfdmaa", sum := "e064292a6a5242f7411adb60a0c8fb943c392d523dae4dcb5a13b3a9b12da03e", func := "viceroy/viceroylaw13.CdtChild", spec := "cdtChild", inPlace := ["slices.overlaps[viceroy/cdt.place]"], unfollowed := true, recurses := true, apart := false, narrowed := true }
def CdtChildUptoSaid : Prop := cdtChildUptoRow.holds Try.pinned (OpenSpec.upto cdtChildSpec)

/-- 'viceroylaw13.CdtPlays', WHERE WHAT IT READS IS OF BULK AT MOST 1048576: true; the input reads as it did. -/
def cdtPlaysUptoRow : OpenClaim := { program := "ytggbhokhibfdmaa", sum := "e064292a6a5242f7411adb60a0c8fb943c392d523dae4dcb5a13b3a9b12da03e", func := "viceroy/viceroylaw13.CdtPlays", spec := "cdtPlays", inPlace := ["slices.overlaps[viceroy/cdt.place]"], unfollowed := true, recurses := true, apart := false, narrowed := true }
def CdtPlaysUptoSaid : Prop := cdtPlaysUptoRow.holds Try.pinned (OpenSpec.upto cdtPlaysSpec)

end Rows
end Go.Proofs.Ytggbhokhibfdmaa
