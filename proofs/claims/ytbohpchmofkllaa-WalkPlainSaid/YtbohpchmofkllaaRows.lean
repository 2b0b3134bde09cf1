/-
  No cell of these rows narrows 'for every input' (looked for: loops, veiled, ifaces, maps, wideKeys, modest, calm, conditions, laid).
  DERIVED. THE GIVEN ROWS OF THIS SEAT. 7 by the template 'for every input the law returns true; each argument reads behind the call as it read before'; 0 by the template 'total and deterministic' (their statements: YtbohpchmofkllaaTotals.lean).
  GIVEN WITH THE SEED: the statements are not yours to turn. If you find one false, say at which input.
  Laid BY PROGRAM, IN A SANDBOX (cutbox-rows.mjs): the forced cells as the released guide's own fill.sh prints them over the translation 2ad6f6133afdd49c… (all of the seat's roots in one cut). By AI agents, Wed Nov 11 2026. No macro, syntax, notation, axiom, sorry.
-/
import Derived.Test.YtbohpchmofkllaaChecked
import GoSem.Claim
import GoSem.ClaimJoined
import GoSem.ClaimMapViews
import Derived.JoinedTies
import Derived.KernelRfl
namespace Go.Proofs.Ytbohpchmofkllaa
/- THE CELL 'sum', in the pinned program and in every row, IS THE sha256 OF THE DUMP (.gsa) THAT YtbohpchmofkllaaProg.lean LOADS. Nothing in Lean hashes anything: it is a label: what it is worth is what the hold of that sum in a sandbox is worth. -/
noncomputable def Try.pinned : Pinned := { name := "ytbohpchmofkllaa", sum := "2ad6f6133afdd49ccb24b29296b47edf00d50d6a33245ed3172ac0b98ca2fbd2", checked := Try.checked }
namespace Rows
def none {H : Type} : Left H := { results := [], args := [] }

/-- 'viceroylaw04.WalkConfined': WHATEVER THE INPUT: true; the input reads as it did. -/
def walkConfinedSpec : ChangeSpec := { name := "walkConfined", fn := fun _ => fun
  | [d1, d2, d3, d4] => { results := [.lit (.bool true)], args := [d1, d2, d3, d4] }
  | _ => none }
def walkConfinedRow : OpenClaim := { program := "ytbohpchmofkllaa", sum := "2ad6f6133afdd49ccb24b29296b47edf00d50d6a33245ed3172ac0b98ca2fbd2", func := "viceroy/viceroylaw04.WalkConfined", spec := "walkConfined", apart := false }
def WalkConfinedSaid : Prop := walkConfinedRow.holds Try.pinned (OpenSpec.ofChange walkConfinedSpec)

/-- ITS FALSE NEIGHBOUR: 'it returns false'. Refute it at one input. -/
def walkConfinedWrong : ChangeSpec := { name := "walkConfined", fn := fun _ => fun
  | [d1, d2, d3, d4] => { results := [.lit (.bool false)], args := [d1, d2, d3, d4] }
  | _ => none }
def WalkConfinedWrongFalsely : Prop := walkConfinedRow.holds Try.pinned (OpenSpec.ofChange walkConfinedWrong)

/-- 'viceroylaw04.WalkPlain': WHATEVER THE INPUT: true; the input reads as it did. -/
def walkPlainSpec : ChangeSpec := { name := "walkPlain", fn := fun _ => fun
  | [d1, d2, d3, d4] => { results := [.lit (.bool true)], args := [d1, d2, d3, d4] }
  | _ => none }
def walkPlainRow : OpenClaim := { program := "ytbohpchmofkllaa", sum := "2ad6f6133afdd49ccb24b29296b47edf00d50d6a33245ed3172ac0b98ca2fbd2", func := "viceroy/viceroylaw04.WalkPlain", spec := "walkPlain", apart := false }
def WalkPlainSaid : Prop := walkPlainRow.holds Try.pinned (OpenSpec.ofChange walkPlainSpec)

/-- ITS FALSE NEIGHBOUR: 'it returns false'. Refute it at one input. -/
def walkPlainWrong : ChangeSpec := { name := "walkPlain", fn := fun _ => fun
  | [d1, d2, d3, d4] => { results := [.lit (.bool false)], args := [d1, d2, d3, d4] }
  | _ => none }
def WalkPlainWrongFalsely : Prop := walkPlainRow.holds Try.pinned (OpenSpec.ofChange walkPlainWrong)

/-- 'viceroylaw04.WalkLess': WHATEVER THE INPUT: true; the input reads as it did. -/
def walkLessSpec : ChangeSpec := { name := "walkLess", fn := fun _ => fun
  | [d1, d2, d3, d4, d5, d6, d7] => { results := [.lit (.bool true)], args := [d1, d2, d3, d4, d5, d6, d7] }
  | _ => none }
def walkLessRow : OpenClaim := { program := "ytbohpchmofkllaa", sum := "2ad6f6133afdd49ccb24b29296b47edf00d50d6a33245ed3172ac0b98ca2fbd2", func := "viceroy/viceroylaw04.WalkLess", spec := "walkLess", apart := false }
def WalkLessSaid : Prop := walkLessRow.holds Try.pinned (OpenSpec.ofChange walkLessSpec)

/-- ITS FALSE NEIGHBOUR: 'it returns false'. Refute it at one input. -/
def walkLessWrong : ChangeSpec := { name := "walkLess", fn := fun _ => fun
  | [d1, d2, d3, d4, d5, d6, d7] => { results := [.lit (.bool false)], args := [d1, d2, d3, d4, d5, d6, d7] }
  | _ => none }
def WalkLessWrongFalsely : Prop := walkLessRow.holds Try.pinned (OpenSpec.ofChange walkLessWrong)

/-- 'viceroylaw04.WalkBlind': WHATEVER THE INPUT: true; the input reads as it did. -/
def walkBlindSpec : ChangeSpec := { name := "walkBlind", fn := fun _ => fun
  | [d1, d2, d3, d4, d5] => { results := [.lit (.bool true)], args := [d1, d2, d3, d4, d5] }
  | _ => none }
def walkBlindRow : OpenClaim := { program := "ytbohpchmofkllaa", sum := "2ad6f6133afdd49ccb24b29296b47edf00d50d6a33245ed3172ac0b98ca2fbd2", func := "viceroy/viceroylaw04.WalkBlind", spec := "walkBlind", apart := false }
def WalkBlindSaid : Prop := walkBlindRow.holds Try.pinned (OpenSpec.ofChange walkBlindSpec)

/-- ITS FALSE NEIGHBOUR: 'it returns false'. Refute it at one input. -/
def walkBlindWrong : ChangeSpec := { name := "walkBlind", fn := fun _ => fun
  | [d1, d2, d3, d4, d5] => { results := [.lit (.bool false)], args := [d1, d2, d3, d4, d5] }
  | _ => none }
def WalkBlindWrongFalsely : Prop := walkBlindRow.holds Try.pinned (OpenSpec.ofChange walkBlindWrong)

/-- 'viceroylaw04.WalkWalks': WHATEVER THE INPUT: true; the input reads as it did. -/
def walkWalksSpec : ChangeSpec := { name := "walkWalks", fn := fun _ => fun
  | [d1, d2, d3, d4] => { results := [.lit (.bool true)], args := [d1, d2, d3, d4] }
  | _ => none }
def walkWalksRow : OpenClaim := { program := "ytbohpchmofkllaa", sum := "2ad6f6133afdd49ccb24b29296b47edf00d50d6a33245ed3172ac0b98ca2fbd2", func := "viceroy/viceroylaw04.WalkWalks", spec := "walkWalks", apart := false }
def WalkWalksSaid : Prop := walkWalksRow.holds Try.pinned (OpenSpec.ofChange walkWalksSpec)

/-- ITS FALSE NEIGHBOUR: 'it returns false'. Refute it at one input. -/
def walkWalksWrong : ChangeSpec := { name := "walkWalks", fn := fun _ => fun
  | [d1, d2, d3, d4] => { results := [.lit (.bool false)], args := [d1, d2, d3, d4] }
  | _ => none }
def WalkWalksWrongFalsely : Prop := walkWalksRow.holds Try.pinned (OpenSpec.ofChange walkWalksWrong)

/-- 'viceroylaw04.WalkBuffered': WHATEVER THE INPUT: true; the input reads as it did. -/
def walkBufferedSpec : ChangeSpec := { name := "walkBuffered", fn := fun _ => fun
  | [d1, d2, d3] => { results := [.lit (.bool true)], args := [d1, d2, d3] }
  | _ => none }
def walkBufferedRow : OpenClaim := { program := "ytbohpchmofkllaa", sum := "2ad6f6133afdd49ccb24b29296b47edf00d50d6a33245ed3172ac0b98ca2fbd2", func := "viceroy/viceroylaw04.WalkBuffered", spec := "walkBuffered", unfollowed := true, recurses := true, apart := false }
def WalkBufferedSaid : Prop := walkBufferedRow.holds Try.pinned (OpenSpec.ofChange walkBufferedSpec)

/-- ITS FALSE NEIGHBOUR: 'it returns false'. Refute it at one input. -/
def walkBufferedWrong : ChangeSpec := { name := "walkBuffered", fn := fun _ => fun
  | [d1, d2, d3] => { results := [.lit (.bool false)], args := [d1, d2, d3] }
  | _ => none }
def WalkBufferedWrongFalsely : Prop := walkBufferedRow.holds Try.pinned (OpenSpec.ofChange walkBufferedWrong)

/-- 'viceroylaw04.WalkReaches': WHATEVER THE INPUT: true; the input reads as it did. -/
def walkReachesSpec : ChangeSpec := { name := "walkReaches", fn := fun _ => fun
  | [d1, d2] => { results := [.lit (.bool true)], args := [d1, d2] }
  | _ => none }
def walkReachesRow : OpenClaim := { program := "ytbohpchmofkllaa", sum := "2ad6f6133afdd49ccb24b29296b47edf00d50d6a33245ed3172ac0b98ca2fbd2", func := "viceroy/viceroylaw04.WalkReaches", spec := "walkReaches", unfollowed := true, recurses := true, apart := false }
def WalkReachesSaid : Prop := walkReachesRow.holds Try.pinned (OpenSpec.ofChange walkReachesSpec)

/-- ITS FALSE NEIGHBOUR: 'it returns false'. Refute it at one input. -/
def walkReachesWrong : ChangeSpec := { name := "walkReaches", fn := fun _ => fun
  | [d1, d2] => { results := [.lit (.bool false)], args := [d1, d2] }
  | _ => none }
def WalkReachesWrongFalsely : Prop := walkReachesRow.holds Try.pinned (OpenSpec.ofChange walkReachesWrong)

/- THE SECOND FORM. 'bulk': how many values and letters a reading holds, each counted each time it is reached (what is shared counts as often as it is met; a slice's spare places count too). A statement '..UptoSaid' is the law's where the arguments, and the package variables that the reading takes, are together of bulk at most 1048576: NARROWER than '..Said'. Prove '..Said' where nothing that the law and all that it calls make is longer than what came in: it says more and counts as full. Else prove '..UptoSaid'. A law counts once. -/
mutual
def uptoBulk {H : Type} : DataW H → Nat
  | .lit (.string bytes) => bytes.length + 1
  | .lit _ => 1
  | .nil => 1
  | .ptr d => uptoBulk d + 1
  | .slice elems spare => uptoBulkAll elems + uptoBulkAll spare + 1
  | .agg parts => uptoBulkAll parts + 1
  | .iface _ d => uptoBulk d + 1
  | .map entries => uptoBulkEntries entries + 1
  | .held _ => 1
def uptoBulkAll {H : Type} : List (DataW H) → Nat
  | [] => 0
  | d :: r => uptoBulk d + uptoBulkAll r
def uptoBulkEntries {H : Type} : List (Lit × DataW H) → Nat
  | [] => 0
  | x :: r => uptoBulkEntry x + uptoBulkEntries r
def uptoBulkEntry {H : Type} : Lit × DataW H → Nat
  | (.string bytes, d) => bytes.length + uptoBulk d + 1
  | (_, d) => uptoBulk d + 1
 end
def uptoSmall : (H : Type) → List (DataW H) → Bool := fun _ ds => decide (uptoBulkAll ds ≤ 1048576)
def OpenSpec.upto (s : _root_.Go.ChangeSpec) : _root_.Go.OpenSpec := { _root_.Go.OpenSpec.ofChange s with cond := some uptoSmall }

/-- 'viceroylaw04.WalkConfined', WHERE WHAT IT READS IS OF BULK AT MOST 1048576: true; the input reads as it did. -/
def walkConfinedUptoRow : OpenClaim := { program := "ytbohpchmofkllaa", sum := "2ad6f6133afdd49ccb24b29296b47edf00d50d6a33245ed3172ac0b98ca2fbd2", func := "viceroy/viceroylaw04.WalkConfined", spec := "walkConfined", apart := false, narrowed := true }
def WalkConfinedUptoSaid : Prop := walkConfinedUptoRow.holds Try.pinned (OpenSpec.upto walkConfinedSpec)

/-- 'viceroylaw04.WalkPlain', WHERE WHAT IT READS IS OF BULK AT MOST 1048576: true; the input reads as it did. -/
def walkPlainUptoRow : OpenClaim := { program := "ytbohpchmofkllaa", sum := "2ad6f6133afdd49ccb24b29296b47edf00d50d6a33245ed3172ac0b98ca2fbd2", func := "viceroy/viceroylaw04.WalkPlain", spec := "walkPlain", apart := false, narrowed := true }
def WalkPlainUptoSaid : Prop := walkPlainUptoRow.holds Try.pinned (OpenSpec.upto walkPlainSpec)

/-- 'viceroylaw04.WalkLess', WHERE WHAT IT READS IS OF BULK AT MOST 1048576: true; the input reads as it did. -/
def walkLessUptoRow : OpenClaim := { program := "ytbohpchmofkllaa", sum := "2ad6f6133afdd49ccb24b29296b47edf00d50d6a33245ed3172ac0b98ca2fbd2", func := "viceroy/viceroylaw04.WalkLess", spec := "walkLess", apart := false, narrowed := true }
def WalkLessUptoSaid : Prop := walkLessUptoRow.holds Try.pinned (OpenSpec.upto walkLessSpec)

/-- 'viceroylaw04.WalkBlind', WHERE WHAT IT READS IS OF BULK AT MOST 1048576: true; the input reads as it did. -/
def walkBlindUptoRow : OpenClaim := { program := "ytbohpchmofkllaa", sum := "2ad6f6133afdd49ccb24b29296b47edf00d50d6a33245ed3172ac0b98ca2fbd2", func := "viceroy/viceroylaw04.WalkBlind", spec := "walkBlind", apart := false, narrowed := true }
def WalkBlindUptoSaid : Prop := walkBlindUptoRow.holds Try.pinned (OpenSpec.upto walkBlindSpec)

/-- 'viceroylaw04.WalkWalks', WHERE WHAT IT READS IS OF BULK AT MOST 1048576: true; the input reads as it did. -/
def walkWalksUptoRow : OpenClaim := { program := "ytbohpchmofkllaa", sum := "2ad6f6133afdd49ccb24b29296b47edf00d50d6a33245ed3172ac0b98ca2fbd2", func := "viceroy/viceroylaw04.WalkWalks", spec := "walkWalks", apart := false, narrowed := true }
def WalkWalksUptoSaid : Prop := walkWalksUptoRow.holds Try.pinned (OpenSpec.upto walkWalksSpec)

/-- 'viceroylaw04.WalkBuffered', WHERE WHAT IT READS IS OF BULK AT MOST 1048576: true; the input reads as it did. -/
def walkBufferedUptoRow : OpenClaim := { program := "ytbohpchmofkllaa", sum := "2ad6f6133afdd49ccb24b29296b47edf00d50d6a33245ed3172ac0b98ca2fbd2", func := "viceroy/viceroylaw04.WalkBuffered", spec := "walkBuffered", unfollowed := true, recurses := true, apart := false, narrowed := true }
def WalkBufferedUptoSaid : Prop := walkBufferedUptoRow.holds Try.pinned (OpenSpec.upto walkBufferedSpec)

/-- 'viceroylaw04.WalkReaches', WHERE WHAT IT READS IS OF BULK AT MOST 1048576: true; the input reads as it did. -/
def walkReachesUptoRow : OpenClaim := { program := "ytbohpchmofkllaa", sum := "2ad6f6133afdd49ccb24b29296b47edf00d50d6a33245ed3172ac0b98ca2fbd2", func := "viceroy/viceroylaw04.WalkReaches", spec := "walkReaches", unfollowed := true, recurses := true, apart := false, narrowed := true }
def WalkReachesUptoSaid : Prop := walkReachesUptoRow.holds Try.pinned (OpenSpec.upto walkReachesSpec)

end Rows
end Go.Proofs.Ytbohpchmofkllaa
