/-
  No cell of these rows narrows 'for every input' (looked for: loops, veiled, ifaces, maps, wideKeys, modest, calm, conditions, laid).
  DERIVED. THE GIVEN ROWS OF THIS SEAT. 29 by the template 'for every input the law returns true; each argument reads behind the call as it read before'; 0 by the template 'total and deterministic' (their statements: YtmpjdoodpkhmpaaTotals.lean).
  GIVEN WITH THE SEED: the statements are not yours to turn. If you find one false, say at which input.
  Laid BY PROGRAM, IN A SANDBOX (cutbox-rows.mjs): the forced cells as the released guide's own fill.sh prints them over the translation 3a66f38649baf359… (all of the seat's roots in one cut). By AI agents, Wed Nov 11 2026. No macro, syntax, notation, axiom, sorry.
-/
import Derived.Test.YtmpjdoodpkhmpaaChecked
import GoSem.Claim
import GoSem.ClaimJoined
import GoSem.ClaimMapViews
import Derived.JoinedTies
import Derived.KernelRfl
namespace Go.Proofs.Ytmpjdoodpkhmpaa
/- THE CELL 'sum', in the pinned program and in every row, IS THE sha256 OF THE DUMP (.gsa) THAT YtmpjdoodpkhmpaaProg.lean LOADS. Nothing in Lean hashes anything: it is a label: what it is worth is what the hold of that sum in a sandbox is worth. -/
noncomputable def Try.pinned : Pinned := { name := "ytmpjdoodpkhmpaa", sum := "3a66f38649baf35995e69ba4961edad050a134e35707b548fd8c6c0b391a6e74", checked := Try.checked }
namespace Rows
def none {H : Type} : Left H := { results := [], args := [] }

/-- 'viceroylaw03.TlbLines': WHATEVER THE INPUT: true; the input reads as it did. -/
def tlbLinesSpec : ChangeSpec := { name := "tlbLines", fn := fun _ => fun
  | [d1, d2] => { results := [.lit (.bool true)], args := [d1, d2] }
  | _ => none }
def tlbLinesRow : OpenClaim := { program := "ytmpjdoodpkhmpaa", sum := "3a66f38649baf35995e69ba4961edad050a134e35707b548fd8c6c0b391a6e74", func := "viceroy/viceroylaw03.TlbLines", spec := "tlbLines", unfollowed := true, recurses := true, apart := false }
def TlbLinesSaid : Prop := tlbLinesRow.holds Try.pinned (OpenSpec.ofChange tlbLinesSpec)

/-- ITS FALSE NEIGHBOUR: 'it returns false'. Refute it at one input. -/
def tlbLinesWrong : ChangeSpec := { name := "tlbLines", fn := fun _ => fun
  | [d1, d2] => { results := [.lit (.bool false)], args := [d1, d2] }
  | _ => none }
def TlbLinesWrongFalsely : Prop := tlbLinesRow.holds Try.pinned (OpenSpec.ofChange tlbLinesWrong)

/-- 'viceroylaw02.PteWords': WHATEVER THE INPUT: true; the input reads as it did. -/
def pteWordsSpec : ChangeSpec := { name := "pteWords", fn := fun _ => fun
  | [d1, d2, d3, d4] => { results := [.lit (.bool true)], args := [d1, d2, d3, d4] }
  | _ => none }
def pteWordsRow : OpenClaim := { program := "ytmpjdoodpkhmpaa", sum := "3a66f38649baf35995e69ba4961edad050a134e35707b548fd8c6c0b391a6e74", func := "viceroy/viceroylaw02.PteWords", spec := "pteWords", apart := false }
def PteWordsSaid : Prop := pteWordsRow.holds Try.pinned (OpenSpec.ofChange pteWordsSpec)

/-- ITS FALSE NEIGHBOUR: 'it returns false'. Refute it at one input. -/
def pteWordsWrong : ChangeSpec := { name := "pteWords", fn := fun _ => fun
  | [d1, d2, d3, d4] => { results := [.lit (.bool false)], args := [d1, d2, d3, d4] }
  | _ => none }
def PteWordsWrongFalsely : Prop := pteWordsRow.holds Try.pinned (OpenSpec.ofChange pteWordsWrong)

/-- 'viceroylaw02.PteBack': WHATEVER THE INPUT: true; the input reads as it did. -/
def pteBackSpec : ChangeSpec := { name := "pteBack", fn := fun _ => fun
  | [d1, d2] => { results := [.lit (.bool true)], args := [d1, d2] }
  | _ => none }
def pteBackRow : OpenClaim := { program := "ytmpjdoodpkhmpaa", sum := "3a66f38649baf35995e69ba4961edad050a134e35707b548fd8c6c0b391a6e74", func := "viceroy/viceroylaw02.PteBack", spec := "pteBack", apart := false }
def PteBackSaid : Prop := pteBackRow.holds Try.pinned (OpenSpec.ofChange pteBackSpec)

/-- ITS FALSE NEIGHBOUR: 'it returns false'. Refute it at one input. -/
def pteBackWrong : ChangeSpec := { name := "pteBack", fn := fun _ => fun
  | [d1, d2] => { results := [.lit (.bool false)], args := [d1, d2] }
  | _ => none }
def PteBackWrongFalsely : Prop := pteBackRow.holds Try.pinned (OpenSpec.ofChange pteBackWrong)

/-- 'viceroylaw02.PteAll': WHATEVER THE INPUT: true; the input reads as it did. -/
def pteAllSpec : ChangeSpec := { name := "pteAll", fn := fun _ => fun
  | [d] => { results := [.lit (.bool true)], args := [d] }
  | _ => none }
def pteAllRow : OpenClaim := { program := "ytmpjdoodpkhmpaa", sum := "3a66f38649baf35995e69ba4961edad050a134e35707b548fd8c6c0b391a6e74", func := "viceroy/viceroylaw02.PteAll", spec := "pteAll", apart := false }
def PteAllSaid : Prop := pteAllRow.holds Try.pinned (OpenSpec.ofChange pteAllSpec)

/-- ITS FALSE NEIGHBOUR: 'it returns false'. Refute it at one input. -/
def pteAllWrong : ChangeSpec := { name := "pteAll", fn := fun _ => fun
  | [d] => { results := [.lit (.bool false)], args := [d] }
  | _ => none }
def PteAllWrongFalsely : Prop := pteAllRow.holds Try.pinned (OpenSpec.ofChange pteAllWrong)

/-- 'viceroylaw02.PteIndices': WHATEVER THE INPUT: true; the input reads as it did. -/
def pteIndicesSpec : ChangeSpec := { name := "pteIndices", fn := fun _ => fun
  | [d1, d2] => { results := [.lit (.bool true)], args := [d1, d2] }
  | _ => none }
def pteIndicesRow : OpenClaim := { program := "ytmpjdoodpkhmpaa", sum := "3a66f38649baf35995e69ba4961edad050a134e35707b548fd8c6c0b391a6e74", func := "viceroy/viceroylaw02.PteIndices", spec := "pteIndices", apart := false }
def PteIndicesSaid : Prop := pteIndicesRow.holds Try.pinned (OpenSpec.ofChange pteIndicesSpec)

/-- ITS FALSE NEIGHBOUR: 'it returns false'. Refute it at one input. -/
def pteIndicesWrong : ChangeSpec := { name := "pteIndices", fn := fun _ => fun
  | [d1, d2] => { results := [.lit (.bool false)], args := [d1, d2] }
  | _ => none }
def PteIndicesWrongFalsely : Prop := pteIndicesRow.holds Try.pinned (OpenSpec.ofChange pteIndicesWrong)

/-- 'viceroylaw01.RamBack': WHATEVER THE INPUT: true; the input reads as it did. -/
def ramBackSpec : ChangeSpec := { name := "ramBack", fn := fun _ => fun
  | [d1, d2, d3, d4] => { results := [.lit (.bool true)], args := [d1, d2, d3, d4] }
  | _ => none }
def ramBackRow : OpenClaim := { program := "ytmpjdoodpkhmpaa", sum := "3a66f38649baf35995e69ba4961edad050a134e35707b548fd8c6c0b391a6e74", func := "viceroy/viceroylaw01.RamBack", spec := "ramBack", apart := false }
def RamBackSaid : Prop := ramBackRow.holds Try.pinned (OpenSpec.ofChange ramBackSpec)

/-- ITS FALSE NEIGHBOUR: 'it returns false'. Refute it at one input. -/
def ramBackWrong : ChangeSpec := { name := "ramBack", fn := fun _ => fun
  | [d1, d2, d3, d4] => { results := [.lit (.bool false)], args := [d1, d2, d3, d4] }
  | _ => none }
def RamBackWrongFalsely : Prop := ramBackRow.holds Try.pinned (OpenSpec.ofChange ramBackWrong)

/-- 'viceroylaw01.RamHalves': WHATEVER THE INPUT: true; the input reads as it did. -/
def ramHalvesSpec : ChangeSpec := { name := "ramHalves", fn := fun _ => fun
  | [d1, d2] => { results := [.lit (.bool true)], args := [d1, d2] }
  | _ => none }
def ramHalvesRow : OpenClaim := { program := "ytmpjdoodpkhmpaa", sum := "3a66f38649baf35995e69ba4961edad050a134e35707b548fd8c6c0b391a6e74", func := "viceroy/viceroylaw01.RamHalves", spec := "ramHalves", apart := false }
def RamHalvesSaid : Prop := ramHalvesRow.holds Try.pinned (OpenSpec.ofChange ramHalvesSpec)

/-- ITS FALSE NEIGHBOUR: 'it returns false'. Refute it at one input. -/
def ramHalvesWrong : ChangeSpec := { name := "ramHalves", fn := fun _ => fun
  | [d1, d2] => { results := [.lit (.bool false)], args := [d1, d2] }
  | _ => none }
def RamHalvesWrongFalsely : Prop := ramHalvesRow.holds Try.pinned (OpenSpec.ofChange ramHalvesWrong)

/-- 'viceroylaw03.TlbCounts': WHATEVER THE INPUT: true; the input reads as it did. -/
def tlbCountsSpec : ChangeSpec := { name := "tlbCounts", fn := fun _ => fun
  | [d1, d2] => { results := [.lit (.bool true)], args := [d1, d2] }
  | _ => none }
def tlbCountsRow : OpenClaim := { program := "ytmpjdoodpkhmpaa", sum := "3a66f38649baf35995e69ba4961edad050a134e35707b548fd8c6c0b391a6e74", func := "viceroy/viceroylaw03.TlbCounts", spec := "tlbCounts", unfollowed := true, recurses := true, apart := false }
def TlbCountsSaid : Prop := tlbCountsRow.holds Try.pinned (OpenSpec.ofChange tlbCountsSpec)

/-- ITS FALSE NEIGHBOUR: 'it returns false'. Refute it at one input. -/
def tlbCountsWrong : ChangeSpec := { name := "tlbCounts", fn := fun _ => fun
  | [d1, d2] => { results := [.lit (.bool false)], args := [d1, d2] }
  | _ => none }
def TlbCountsWrongFalsely : Prop := tlbCountsRow.holds Try.pinned (OpenSpec.ofChange tlbCountsWrong)

/-- 'viceroylaw01.RamApart': WHATEVER THE INPUT: true; the input reads as it did. -/
def ramApartSpec : ChangeSpec := { name := "ramApart", fn := fun _ => fun
  | [d1, d2, d3, d4] => { results := [.lit (.bool true)], args := [d1, d2, d3, d4] }
  | _ => none }
def ramApartRow : OpenClaim := { program := "ytmpjdoodpkhmpaa", sum := "3a66f38649baf35995e69ba4961edad050a134e35707b548fd8c6c0b391a6e74", func := "viceroy/viceroylaw01.RamApart", spec := "ramApart", apart := false }
def RamApartSaid : Prop := ramApartRow.holds Try.pinned (OpenSpec.ofChange ramApartSpec)

/-- ITS FALSE NEIGHBOUR: 'it returns false'. Refute it at one input. -/
def ramApartWrong : ChangeSpec := { name := "ramApart", fn := fun _ => fun
  | [d1, d2, d3, d4] => { results := [.lit (.bool false)], args := [d1, d2, d3, d4] }
  | _ => none }
def RamApartWrongFalsely : Prop := ramApartRow.holds Try.pinned (OpenSpec.ofChange ramApartWrong)

/-- 'viceroylaw01.RamLays': WHATEVER THE INPUT: true; the input reads as it did. -/
def ramLaysSpec : ChangeSpec := { name := "ramLays", fn := fun _ => fun
  | [d1, d2, d3, d4] => { results := [.lit (.bool true)], args := [d1, d2, d3, d4] }
  | _ => none }
def ramLaysRow : OpenClaim := { program := "ytmpjdoodpkhmpaa", sum := "3a66f38649baf35995e69ba4961edad050a134e35707b548fd8c6c0b391a6e74", func := "viceroy/viceroylaw01.RamLays", spec := "ramLays", apart := false }
def RamLaysSaid : Prop := ramLaysRow.holds Try.pinned (OpenSpec.ofChange ramLaysSpec)

/-- ITS FALSE NEIGHBOUR: 'it returns false'. Refute it at one input. -/
def ramLaysWrong : ChangeSpec := { name := "ramLays", fn := fun _ => fun
  | [d1, d2, d3, d4] => { results := [.lit (.bool false)], args := [d1, d2, d3, d4] }
  | _ => none }
def RamLaysWrongFalsely : Prop := ramLaysRow.holds Try.pinned (OpenSpec.ofChange ramLaysWrong)

/-- 'viceroylaw03.TlbPlays': WHATEVER THE INPUT: true; the input reads as it did. -/
def tlbPlaysSpec : ChangeSpec := { name := "tlbPlays", fn := fun _ => fun
  | [d] => { results := [.lit (.bool true)], args := [d] }
  | _ => none }
def tlbPlaysRow : OpenClaim := { program := "ytmpjdoodpkhmpaa", sum := "3a66f38649baf35995e69ba4961edad050a134e35707b548fd8c6c0b391a6e74", func := "viceroy/viceroylaw03.TlbPlays", spec := "tlbPlays", unfollowed := true, recurses := true, apart := false }
def TlbPlaysSaid : Prop := tlbPlaysRow.holds Try.pinned (OpenSpec.ofChange tlbPlaysSpec)

/-- ITS FALSE NEIGHBOUR: 'it returns false'. Refute it at one input. -/
def tlbPlaysWrong : ChangeSpec := { name := "tlbPlays", fn := fun _ => fun
  | [d] => { results := [.lit (.bool false)], args := [d] }
  | _ => none }
def TlbPlaysWrongFalsely : Prop := tlbPlaysRow.holds Try.pinned (OpenSpec.ofChange tlbPlaysWrong)

/-- 'viceroylaw03.TlbOnce': WHATEVER THE INPUT: true; the input reads as it did. -/
def tlbOnceSpec : ChangeSpec := { name := "tlbOnce", fn := fun _ => fun
  | [d] => { results := [.lit (.bool true)], args := [d] }
  | _ => none }
def tlbOnceRow : OpenClaim := { program := "ytmpjdoodpkhmpaa", sum := "3a66f38649baf35995e69ba4961edad050a134e35707b548fd8c6c0b391a6e74", func := "viceroy/viceroylaw03.TlbOnce", spec := "tlbOnce", unfollowed := true, recurses := true, apart := false }
def TlbOnceSaid : Prop := tlbOnceRow.holds Try.pinned (OpenSpec.ofChange tlbOnceSpec)

/-- ITS FALSE NEIGHBOUR: 'it returns false'. Refute it at one input. -/
def tlbOnceWrong : ChangeSpec := { name := "tlbOnce", fn := fun _ => fun
  | [d] => { results := [.lit (.bool false)], args := [d] }
  | _ => none }
def TlbOnceWrongFalsely : Prop := tlbOnceRow.holds Try.pinned (OpenSpec.ofChange tlbOnceWrong)

/-- 'viceroylaw03.TlbFlushed': WHATEVER THE INPUT: true; the input reads as it did. -/
def tlbFlushedSpec : ChangeSpec := { name := "tlbFlushed", fn := fun _ => fun
  | [d1, d2, d3, d4] => { results := [.lit (.bool true)], args := [d1, d2, d3, d4] }
  | _ => none }
def tlbFlushedRow : OpenClaim := { program := "ytmpjdoodpkhmpaa", sum := "3a66f38649baf35995e69ba4961edad050a134e35707b548fd8c6c0b391a6e74", func := "viceroy/viceroylaw03.TlbFlushed", spec := "tlbFlushed", unfollowed := true, recurses := true, apart := false }
def TlbFlushedSaid : Prop := tlbFlushedRow.holds Try.pinned (OpenSpec.ofChange tlbFlushedSpec)

/-- ITS FALSE NEIGHBOUR: 'it returns false'. Refute it at one input. -/
def tlbFlushedWrong : ChangeSpec := { name := "tlbFlushed", fn := fun _ => fun
  | [d1, d2, d3, d4] => { results := [.lit (.bool false)], args := [d1, d2, d3, d4] }
  | _ => none }
def TlbFlushedWrongFalsely : Prop := tlbFlushedRow.holds Try.pinned (OpenSpec.ofChange tlbFlushedWrong)

/-- 'viceroylaw03.TlbKeeps': WHATEVER THE INPUT: true; the input reads as it did. -/
def tlbKeepsSpec : ChangeSpec := { name := "tlbKeeps", fn := fun _ => fun
  | [d1, d2, d3] => { results := [.lit (.bool true)], args := [d1, d2, d3] }
  | _ => none }
def tlbKeepsRow : OpenClaim := { program := "ytmpjdoodpkhmpaa", sum := "3a66f38649baf35995e69ba4961edad050a134e35707b548fd8c6c0b391a6e74", func := "viceroy/viceroylaw03.TlbKeeps", spec := "tlbKeeps", unfollowed := true, recurses := true, apart := false }
def TlbKeepsSaid : Prop := tlbKeepsRow.holds Try.pinned (OpenSpec.ofChange tlbKeepsSpec)

/-- ITS FALSE NEIGHBOUR: 'it returns false'. Refute it at one input. -/
def tlbKeepsWrong : ChangeSpec := { name := "tlbKeeps", fn := fun _ => fun
  | [d1, d2, d3] => { results := [.lit (.bool false)], args := [d1, d2, d3] }
  | _ => none }
def TlbKeepsWrongFalsely : Prop := tlbKeepsRow.holds Try.pinned (OpenSpec.ofChange tlbKeepsWrong)

/-- 'viceroylaw01.RamPlays': WHATEVER THE INPUT: true; the input reads as it did. -/
def ramPlaysSpec : ChangeSpec := { name := "ramPlays", fn := fun _ => fun
  | [d1, d2] => { results := [.lit (.bool true)], args := [d1, d2] }
  | _ => none }
def ramPlaysRow : OpenClaim := { program := "ytmpjdoodpkhmpaa", sum := "3a66f38649baf35995e69ba4961edad050a134e35707b548fd8c6c0b391a6e74", func := "viceroy/viceroylaw01.RamPlays", spec := "ramPlays", apart := false }
def RamPlaysSaid : Prop := ramPlaysRow.holds Try.pinned (OpenSpec.ofChange ramPlaysSpec)

/-- ITS FALSE NEIGHBOUR: 'it returns false'. Refute it at one input. -/
def ramPlaysWrong : ChangeSpec := { name := "ramPlays", fn := fun _ => fun
  | [d1, d2] => { results := [.lit (.bool false)], args := [d1, d2] }
  | _ => none }
def RamPlaysWrongFalsely : Prop := ramPlaysRow.holds Try.pinned (OpenSpec.ofChange ramPlaysWrong)

/-- 'viceroylaw02.PteOnly': WHATEVER THE INPUT: true; the input reads as it did. -/
def pteOnlySpec : ChangeSpec := { name := "pteOnly", fn := fun _ => fun
  | [d1, d2, d3, d4] => { results := [.lit (.bool true)], args := [d1, d2, d3, d4] }
  | _ => none }
def pteOnlyRow : OpenClaim := { program := "ytmpjdoodpkhmpaa", sum := "3a66f38649baf35995e69ba4961edad050a134e35707b548fd8c6c0b391a6e74", func := "viceroy/viceroylaw02.PteOnly", spec := "pteOnly", apart := false }
def PteOnlySaid : Prop := pteOnlyRow.holds Try.pinned (OpenSpec.ofChange pteOnlySpec)

/-- ITS FALSE NEIGHBOUR: 'it returns false'. Refute it at one input. -/
def pteOnlyWrong : ChangeSpec := { name := "pteOnly", fn := fun _ => fun
  | [d1, d2, d3, d4] => { results := [.lit (.bool false)], args := [d1, d2, d3, d4] }
  | _ => none }
def PteOnlyWrongFalsely : Prop := pteOnlyRow.holds Try.pinned (OpenSpec.ofChange pteOnlyWrong)

/-- 'viceroylaw02.PteSpoils': WHATEVER THE INPUT: true; the input reads as it did. -/
def pteSpoilsSpec : ChangeSpec := { name := "pteSpoils", fn := fun _ => fun
  | [d1, d2, d3] => { results := [.lit (.bool true)], args := [d1, d2, d3] }
  | _ => none }
def pteSpoilsRow : OpenClaim := { program := "ytmpjdoodpkhmpaa", sum := "3a66f38649baf35995e69ba4961edad050a134e35707b548fd8c6c0b391a6e74", func := "viceroy/viceroylaw02.PteSpoils", spec := "pteSpoils", apart := false }
def PteSpoilsSaid : Prop := pteSpoilsRow.holds Try.pinned (OpenSpec.ofChange pteSpoilsSpec)

/-- ITS FALSE NEIGHBOUR: 'it returns false'. Refute it at one input. -/
def pteSpoilsWrong : ChangeSpec := { name := "pteSpoils", fn := fun _ => fun
  | [d1, d2, d3] => { results := [.lit (.bool false)], args := [d1, d2, d3] }
  | _ => none }
def PteSpoilsWrongFalsely : Prop := pteSpoilsRow.holds Try.pinned (OpenSpec.ofChange pteSpoilsWrong)

/-- 'viceroylaw02.PtePlays': WHATEVER THE INPUT: true; the input reads as it did. -/
def ptePlaysSpec : ChangeSpec := { name := "ptePlays", fn := fun _ => fun
  | [d1, d2] => { results := [.lit (.bool true)], args := [d1, d2] }
  | _ => none }
def ptePlaysRow : OpenClaim := { program := "ytmpjdoodpkhmpaa", sum := "3a66f38649baf35995e69ba4961edad050a134e35707b548fd8c6c0b391a6e74", func := "viceroy/viceroylaw02.PtePlays", spec := "ptePlays", apart := false }
def PtePlaysSaid : Prop := ptePlaysRow.holds Try.pinned (OpenSpec.ofChange ptePlaysSpec)

/-- ITS FALSE NEIGHBOUR: 'it returns false'. Refute it at one input. -/
def ptePlaysWrong : ChangeSpec := { name := "ptePlays", fn := fun _ => fun
  | [d1, d2] => { results := [.lit (.bool false)], args := [d1, d2] }
  | _ => none }
def PtePlaysWrongFalsely : Prop := ptePlaysRow.holds Try.pinned (OpenSpec.ofChange ptePlaysWrong)

/-- 'viceroylaw04.WalkConfined': WHATEVER THE INPUT: true; the input reads as it did. -/
def walkConfinedSpec : ChangeSpec := { name := "walkConfined", fn := fun _ => fun
  | [d1, d2, d3, d4] => { results := [.lit (.bool true)], args := [d1, d2, d3, d4] }
  | _ => none }
def walkConfinedRow : OpenClaim := { program := "ytmpjdoodpkhmpaa", sum := "3a66f38649baf35995e69ba4961edad050a134e35707b548fd8c6c0b391a6e74", func := "viceroy/viceroylaw04.WalkConfined", spec := "walkConfined", apart := false }
def WalkConfinedSaid : Prop := walkConfinedRow.holds Try.pinned (OpenSpec.ofChange walkConfinedSpec)

/-- ITS FALSE NEIGHBOUR: 'it returns false'. Refute it at one input. -/
def walkConfinedWrong : ChangeSpec := { name := "walkConfined", fn := fun _ => fun
  | [d1, d2, d3, d4] => { results := [.lit (.bool false)], args := [d1, d2, d3, d4] }
  | _ => none }
def WalkConfinedWrongFalsely : Prop := walkConfinedRow.holds Try.pinned (OpenSpec.ofChange walkConfinedWrong)

/-- 'viceroylaw04.WalkPlain': WHATEVER THE INPUT: true; the input reads as it did. -/
def walkPlainSpec : ChangeSpec := { name := "walkPlain", fn := fun _ => fun
  | [d1, d2, d3, d4] => { results := [.lit (.bool true)], args := [d1, d2, d3, d4] }
  | _ => none }
def walkPlainRow : OpenClaim := { program := "ytmpjdoodpkhmpaa", sum := "3a66f38649baf35995e69ba4961edad050a134e35707b548fd8c6c0b391a6e74", func := "viceroy/viceroylaw04.WalkPlain", spec := "walkPlain", apart := false }
def WalkPlainSaid : Prop := walkPlainRow.holds Try.pinned (OpenSpec.ofChange walkPlainSpec)

/-- ITS FALSE NEIGHBOUR: 'it returns false'. Refute it at one input. -/
def walkPlainWrong : ChangeSpec := { name := "walkPlain", fn := fun _ => fun
  | [d1, d2, d3, d4] => { results := [.lit (.bool false)], args := [d1, d2, d3, d4] }
  | _ => none }
def WalkPlainWrongFalsely : Prop := walkPlainRow.holds Try.pinned (OpenSpec.ofChange walkPlainWrong)

/-- 'viceroylaw04.WalkLess': WHATEVER THE INPUT: true; the input reads as it did. -/
def walkLessSpec : ChangeSpec := { name := "walkLess", fn := fun _ => fun
  | [d1, d2, d3, d4, d5, d6, d7] => { results := [.lit (.bool true)], args := [d1, d2, d3, d4, d5, d6, d7] }
  | _ => none }
def walkLessRow : OpenClaim := { program := "ytmpjdoodpkhmpaa", sum := "3a66f38649baf35995e69ba4961edad050a134e35707b548fd8c6c0b391a6e74", func := "viceroy/viceroylaw04.WalkLess", spec := "walkLess", apart := false }
def WalkLessSaid : Prop := walkLessRow.holds Try.pinned (OpenSpec.ofChange walkLessSpec)

/-- ITS FALSE NEIGHBOUR: 'it returns false'. Refute it at one input. -/
def walkLessWrong : ChangeSpec := { name := "walkLess", fn := fun _ => fun
  | [d1, d2, d3, d4, d5, d6, d7] => { results := [.lit (.bool false)], args := [d1, d2, d3, d4, d5, d6, d7] }
  | _ => none }
def WalkLessWrongFalsely : Prop := walkLessRow.holds Try.pinned (OpenSpec.ofChange walkLessWrong)

/-- 'viceroylaw04.WalkBlind': WHATEVER THE INPUT: true; the input reads as it did. -/
def walkBlindSpec : ChangeSpec := { name := "walkBlind", fn := fun _ => fun
  | [d1, d2, d3, d4, d5] => { results := [.lit (.bool true)], args := [d1, d2, d3, d4, d5] }
  | _ => none }
def walkBlindRow : OpenClaim := { program := "ytmpjdoodpkhmpaa", sum := "3a66f38649baf35995e69ba4961edad050a134e35707b548fd8c6c0b391a6e74", func := "viceroy/viceroylaw04.WalkBlind", spec := "walkBlind", apart := false }
def WalkBlindSaid : Prop := walkBlindRow.holds Try.pinned (OpenSpec.ofChange walkBlindSpec)

/-- ITS FALSE NEIGHBOUR: 'it returns false'. Refute it at one input. -/
def walkBlindWrong : ChangeSpec := { name := "walkBlind", fn := fun _ => fun
  | [d1, d2, d3, d4, d5] => { results := [.lit (.bool false)], args := [d1, d2, d3, d4, d5] }
  | _ => none }
def WalkBlindWrongFalsely : Prop := walkBlindRow.holds Try.pinned (OpenSpec.ofChange walkBlindWrong)

/-- 'viceroylaw04.WalkWalks': WHATEVER THE INPUT: true; the input reads as it did. -/
def walkWalksSpec : ChangeSpec := { name := "walkWalks", fn := fun _ => fun
  | [d1, d2, d3, d4] => { results := [.lit (.bool true)], args := [d1, d2, d3, d4] }
  | _ => none }
def walkWalksRow : OpenClaim := { program := "ytmpjdoodpkhmpaa", sum := "3a66f38649baf35995e69ba4961edad050a134e35707b548fd8c6c0b391a6e74", func := "viceroy/viceroylaw04.WalkWalks", spec := "walkWalks", apart := false }
def WalkWalksSaid : Prop := walkWalksRow.holds Try.pinned (OpenSpec.ofChange walkWalksSpec)

/-- ITS FALSE NEIGHBOUR: 'it returns false'. Refute it at one input. -/
def walkWalksWrong : ChangeSpec := { name := "walkWalks", fn := fun _ => fun
  | [d1, d2, d3, d4] => { results := [.lit (.bool false)], args := [d1, d2, d3, d4] }
  | _ => none }
def WalkWalksWrongFalsely : Prop := walkWalksRow.holds Try.pinned (OpenSpec.ofChange walkWalksWrong)

/-- 'viceroylaw04.WalkBuffered': WHATEVER THE INPUT: true; the input reads as it did. -/
def walkBufferedSpec : ChangeSpec := { name := "walkBuffered", fn := fun _ => fun
  | [d1, d2, d3] => { results := [.lit (.bool true)], args := [d1, d2, d3] }
  | _ => none }
def walkBufferedRow : OpenClaim := { program := "ytmpjdoodpkhmpaa", sum := "3a66f38649baf35995e69ba4961edad050a134e35707b548fd8c6c0b391a6e74", func := "viceroy/viceroylaw04.WalkBuffered", spec := "walkBuffered", unfollowed := true, recurses := true, apart := false }
def WalkBufferedSaid : Prop := walkBufferedRow.holds Try.pinned (OpenSpec.ofChange walkBufferedSpec)

/-- ITS FALSE NEIGHBOUR: 'it returns false'. Refute it at one input. -/
def walkBufferedWrong : ChangeSpec := { name := "walkBuffered", fn := fun _ => fun
  | [d1, d2, d3] => { results := [.lit (.bool false)], args := [d1, d2, d3] }
  | _ => none }
def WalkBufferedWrongFalsely : Prop := walkBufferedRow.holds Try.pinned (OpenSpec.ofChange walkBufferedWrong)

/-- 'viceroylaw10.IommuRecords': WHATEVER THE INPUT: true; the input reads as it did. -/
def iommuRecordsSpec : ChangeSpec := { name := "iommuRecords", fn := fun _ => fun
  | [d1, d2] => { results := [.lit (.bool true)], args := [d1, d2] }
  | _ => none }
def iommuRecordsRow : OpenClaim := { program := "ytmpjdoodpkhmpaa", sum := "3a66f38649baf35995e69ba4961edad050a134e35707b548fd8c6c0b391a6e74", func := "viceroy/viceroylaw10.IommuRecords", spec := "iommuRecords", unfollowed := true, recurses := true, apart := false }
def IommuRecordsSaid : Prop := iommuRecordsRow.holds Try.pinned (OpenSpec.ofChange iommuRecordsSpec)

/-- ITS FALSE NEIGHBOUR: 'it returns false'. Refute it at one input. -/
def iommuRecordsWrong : ChangeSpec := { name := "iommuRecords", fn := fun _ => fun
  | [d1, d2] => { results := [.lit (.bool false)], args := [d1, d2] }
  | _ => none }
def IommuRecordsWrongFalsely : Prop := iommuRecordsRow.holds Try.pinned (OpenSpec.ofChange iommuRecordsWrong)

/-- 'viceroylaw04.WalkReaches': WHATEVER THE INPUT: true; the input reads as it did. -/
def walkReachesSpec : ChangeSpec := { name := "walkReaches", fn := fun _ => fun
  | [d1, d2] => { results := [.lit (.bool true)], args := [d1, d2] }
  | _ => none }
def walkReachesRow : OpenClaim := { program := "ytmpjdoodpkhmpaa", sum := "3a66f38649baf35995e69ba4961edad050a134e35707b548fd8c6c0b391a6e74", func := "viceroy/viceroylaw04.WalkReaches", spec := "walkReaches", unfollowed := true, recurses := true, apart := false }
def WalkReachesSaid : Prop := walkReachesRow.holds Try.pinned (OpenSpec.ofChange walkReachesSpec)

/-- ITS FALSE NEIGHBOUR: 'it returns false'. Refute it at one input. -/
def walkReachesWrong : ChangeSpec := { name := "walkReaches", fn := fun _ => fun
  | [d1, d2] => { results := [.lit (.bool false)], args := [d1, d2] }
  | _ => none }
def WalkReachesWrongFalsely : Prop := walkReachesRow.holds Try.pinned (OpenSpec.ofChange walkReachesWrong)

/-- 'viceroylaw10.IommuStreams': WHATEVER THE INPUT: true; the input reads as it did. -/
def iommuStreamsSpec : ChangeSpec := { name := "iommuStreams", fn := fun _ => fun
  | [d1, d2, d3, d4, d5] => { results := [.lit (.bool true)], args := [d1, d2, d3, d4, d5] }
  | _ => none }
def iommuStreamsRow : OpenClaim := { program := "ytmpjdoodpkhmpaa", sum := "3a66f38649baf35995e69ba4961edad050a134e35707b548fd8c6c0b391a6e74", func := "viceroy/viceroylaw10.IommuStreams", spec := "iommuStreams", unfollowed := true, recurses := true, apart := false }
def IommuStreamsSaid : Prop := iommuStreamsRow.holds Try.pinned (OpenSpec.ofChange iommuStreamsSpec)

/-- ITS FALSE NEIGHBOUR: 'it returns false'. Refute it at one input. -/
def iommuStreamsWrong : ChangeSpec := { name := "iommuStreams", fn := fun _ => fun
  | [d1, d2, d3, d4, d5] => { results := [.lit (.bool false)], args := [d1, d2, d3, d4, d5] }
  | _ => none }
def IommuStreamsWrongFalsely : Prop := iommuStreamsRow.holds Try.pinned (OpenSpec.ofChange iommuStreamsWrong)

/-- 'viceroylaw10.IommuConfined': WHATEVER THE INPUT: true; the input reads as it did. -/
def iommuConfinedSpec : ChangeSpec := { name := "iommuConfined", fn := fun _ => fun
  | [d1, d2, d3, d4, d5, d6] => { results := [.lit (.bool true)], args := [d1, d2, d3, d4, d5, d6] }
  | _ => none }
def iommuConfinedRow : OpenClaim := { program := "ytmpjdoodpkhmpaa", sum := "3a66f38649baf35995e69ba4961edad050a134e35707b548fd8c6c0b391a6e74", func := "viceroy/viceroylaw10.IommuConfined", spec := "iommuConfined", unfollowed := true, recurses := true, apart := false }
def IommuConfinedSaid : Prop := iommuConfinedRow.holds Try.pinned (OpenSpec.ofChange iommuConfinedSpec)

/-- ITS FALSE NEIGHBOUR: 'it returns false'. Refute it at one input. -/
def iommuConfinedWrong : ChangeSpec := { name := "iommuConfined", fn := fun _ => fun
  | [d1, d2, d3, d4, d5, d6] => { results := [.lit (.bool false)], args := [d1, d2, d3, d4, d5, d6] }
  | _ => none }
def IommuConfinedWrongFalsely : Prop := iommuConfinedRow.holds Try.pinned (OpenSpec.ofChange iommuConfinedWrong)

/-- 'viceroylaw10.IommuPlays': WHATEVER THE INPUT: true; the input reads as it did. -/
def iommuPlaysSpec : ChangeSpec := { name := "iommuPlays", fn := fun _ => fun
  | [d1, d2] => { results := [.lit (.bool true)], args := [d1, d2] }
  | _ => none }
def iommuPlaysRow : OpenClaim := { program := "ytmpjdoodpkhmpaa", sum := "3a66f38649baf35995e69ba4961edad050a134e35707b548fd8c6c0b391a6e74", func := "viceroy/viceroylaw10.IommuPlays", spec := "iommuPlays", unfollowed := true, recurses := true, apart := false }
def IommuPlaysSaid : Prop := iommuPlaysRow.holds Try.pinned (OpenSpec.ofChange iommuPlaysSpec)

/-- ITS FALSE NEIGHBOUR: 'it returns false'. Refute it at one input. -/
def iommuPlaysWrong : ChangeSpec := { name := "iommuPlays", fn := fun _ => fun
  | [d1, d2] => { results := [.lit (.bool false)], args := [d1, d2] }
  | _ => none }
def IommuPlaysWrongFalsely : Prop := iommuPlaysRow.holds Try.pinned (OpenSpec.ofChange iommuPlaysWrong)

/- THE SECOND FORM. 'bulk': how many values and letters a reading holds, each counted each time it is reached (what is shared counts as often as it is met; a slice's spare places count too). A statement '..UptoSaid' is the law's where the arguments, and the package variables that the reading takes, are together of bulk at most 1048576: NARROWER than '..Said'. Prove '..Said' where nothing that the law and all that it calls make is longer than what came in: it says more and counts as full. Else prove '..UptoSaid'. A law counts once. -/
mutual
def uptoBulk {H : Type} : DataW H → Nat
  | .lit (.string bytes) => bytes.length + 1
  | .lit _ => 1
  | .nil => 1
  | .ptr d => uptoBulk d + 1
  | .slice elems spare => uptoBulkAll elems + uptoBulkAll spare + 1
  | .agg parts => uptoBulkAll parts + 1
  | .iface _ d => uptoBulk d + 1
  | .map entries => uptoBulkEntries entries + 1
  | .held _ => 1
def uptoBulkAll {H : Type} : List (DataW H) → Nat
  | [] => 0
  | d :: r => uptoBulk d + uptoBulkAll r
def uptoBulkEntries {H : Type} : List (Lit × DataW H) → Nat
  | [] => 0
  | x :: r => uptoBulkEntry x + uptoBulkEntries r
def uptoBulkEntry {H : Type} : Lit × DataW H → Nat
  | (.string bytes, d) => bytes.length + uptoBulk d + 1
  | (_, d) => uptoBulk d + 1
 end
def uptoSmall : (H : Type) → List (DataW H) → Bool := fun _ ds => decide (uptoBulkAll ds ≤ 1048576)
def OpenSpec.upto (s : _root_.Go.ChangeSpec) : _root_.Go.OpenSpec := { _root_.Go.OpenSpec.ofChange s with cond := some uptoSmall }

/-- 'viceroylaw03.TlbLines', WHERE WHAT IT READS IS OF BULK AT MOST 1048576: true; the input reads as it did. -/
def tlbLinesUptoRow : OpenClaim := { program := "ytmpjdoodpkhmpaa", sum := "3a66f38649baf35995e69ba4961edad050a134e35707b548fd8c6c0b391a6e74", func := "viceroy/viceroylaw03.TlbLines", spec := "tlbLines", unfollowed := true, recurses := true, apart := false, narrowed := true }
def TlbLinesUptoSaid : Prop := tlbLinesUptoRow.holds Try.pinned (OpenSpec.upto tlbLinesSpec)

/-- 'viceroylaw02.PteWords', WHERE WHAT IT READS IS OF BULK AT MOST 1048576: true; the input reads as it did. -/
def pteWordsUptoRow : OpenClaim := { program := "ytmpjdoodpkhmpaa", sum := "3a66f38649baf35995e69ba4961edad050a134e35707b548fd8c6c0b391a6e74", func := "viceroy/viceroylaw02.PteWords", spec := "pteWords", apart := false, narrowed := true }
def PteWordsUptoSaid : Prop := pteWordsUptoRow.holds Try.pinned (OpenSpec.upto pteWordsSpec)

/-- 'viceroylaw02.PteBack', WHERE WHAT IT READS IS OF BULK AT MOST 1048576: true; the input reads as it did. -/
def pteBackUptoRow : OpenClaim := { program := "ytmpjdoodpkhmpaa", sum := "3a66f38649baf35995e69ba4961edad050a134e35707b548fd8c6c0b391a6e74", func := "viceroy/viceroylaw02.PteBack", spec := "pteBack", apart := false, narrowed := true }
def PteBackUptoSaid : Prop := pteBackUptoRow.holds Try.pinned (OpenSpec.upto pteBackSpec)

/-- 'viceroylaw02.PteAll', WHERE WHAT IT READS IS OF BULK AT MOST 1048576: true; the input reads as it did. -/
def pteAllUptoRow : OpenClaim := { program := "ytmpjdoodpkhmpaa", sum := "3a66f38649baf35995e69ba4961edad050a134e35707b548fd8c6c0b391a6e74", func := "viceroy/viceroylaw02.PteAll", spec := "pteAll", apart := false, narrowed := true }
def PteAllUptoSaid : Prop := pteAllUptoRow.holds Try.pinned (OpenSpec.upto pteAllSpec)

/-- 'viceroylaw02.PteIndices', WHERE WHAT IT READS IS OF BULK AT MOST 1048576: true; the input reads as it did. -/
def pteIndicesUptoRow : OpenClaim := { program := "ytmpjdoodpkhmpaa", sum := "3a66f38649baf35995e69ba4961edad050a134e35707b548fd8c6c0b391a6e74", func := "viceroy/viceroylaw02.PteIndices", spec := "pteIndices", apart := false, narrowed := true }
def PteIndicesUptoSaid : Prop := pteIndicesUptoRow.holds Try.pinned (OpenSpec.upto pteIndicesSpec)

/-- 'viceroylaw01.RamBack', WHERE WHAT IT READS IS OF BULK AT MOST 1048576: true; the input reads as it did. -/
def ramBackUptoRow : OpenClaim := { program := "ytmpjdoodpkhmpaa", sum := "3a66f38649baf35995e69ba4961edad050a134e35707b548fd8c6c0b391a6e74", func := "viceroy/viceroylaw01.RamBack", spec := "ramBack", apart := false, narrowed := true }
def RamBackUptoSaid : Prop := ramBackUptoRow.holds Try.pinned (OpenSpec.upto ramBackSpec)

/-- 'viceroylaw01.RamHalves', WHERE WHAT IT READS IS OF BULK AT MOST 1048576: true; the input reads as it did. -/
def ramHalvesUptoRow : OpenClaim := { program := "ytmpjdoodpkhmpaa", sum := "3a66f38649baf35995e69ba4961edad050a134e35707b548fd8c6c0b391a6e74", func := "viceroy/viceroylaw01.RamHalves", spec := "ramHalves", apart := false, narrowed := true }
def RamHalvesUptoSaid : Prop := ramHalvesUptoRow.holds Try.pinned (OpenSpec.upto ramHalvesSpec)

/-- 'viceroylaw03.TlbCounts', WHERE WHAT IT READS IS OF BULK AT MOST 1048576: true; the input reads as it did. -/
def tlbCountsUptoRow : OpenClaim := { program := "ytmpjdoodpkhmpaa", sum := "3a66f38649baf35995e69ba4961edad050a134e35707b548fd8c6c0b391a6e74", func := "viceroy/viceroylaw03.TlbCounts", spec := "tlbCounts", unfollowed := true, recurses := true, apart := false, narrowed := true }
def TlbCountsUptoSaid : Prop := tlbCountsUptoRow.holds Try.pinned (OpenSpec.upto tlbCountsSpec)

/-- 'viceroylaw01.RamApart', WHERE WHAT IT READS IS OF BULK AT MOST 1048576: true; the input reads as it did. -/
def ramApartUptoRow : OpenClaim := { program := "ytmpjdoodpkhmpaa", sum := "3a66f38649baf35995e69ba4961edad050a134e35707b548fd8c6c0b391a6e74", func := "viceroy/viceroylaw01.RamApart", spec := "ramApart", apart := false, narrowed := true }
def RamApartUptoSaid : Prop := ramApartUptoRow.holds Try.pinned (OpenSpec.upto ramApartSpec)

/-- 'viceroylaw01.RamLays', WHERE WHAT IT READS IS OF BULK AT MOST 1048576: true; the input reads as it did. -/
def ramLaysUptoRow : OpenClaim := { program := "ytmpjdoodpkhmpaa", sum := "3a66f38649baf35995e69ba4961edad050a134e35707b548fd8c6c0b391a6e74", func := "viceroy/viceroylaw01.RamLays", spec := "ramLays", apart := false, narrowed := true }
def RamLaysUptoSaid : Prop := ramLaysUptoRow.holds Try.pinned (OpenSpec.upto ramLaysSpec)

/-- 'viceroylaw03.TlbPlays', WHERE WHAT IT READS IS OF BULK AT MOST 1048576: true; the input reads as it did. -/
def tlbPlaysUptoRow : OpenClaim := { program := "ytmpjdoodpkhmpaa", sum := "3a66f38649baf35995e69ba4961edad050a134e35707b548fd8c6c0b391a6e74", func := "viceroy/viceroylaw03.TlbPlays", spec := "tlbPlays", unfollowed := true, recurses := true, apart := false, narrowed := true }
def TlbPlaysUptoSaid : Prop := tlbPlaysUptoRow.holds Try.pinned (OpenSpec.upto tlbPlaysSpec)

/-- 'viceroylaw03.TlbOnce', WHERE WHAT IT READS IS OF BULK AT MOST 1048576: true; the input reads as it did. -/
def tlbOnceUptoRow : OpenClaim := { program := "ytmpjdoodpkhmpaa", sum := "3a66f38649baf35995e69ba4961edad050a134e35707b548fd8c6c0b391a6e74", func := "viceroy/viceroylaw03.TlbOnce", spec := "tlbOnce", unfollowed := true, recurses := true, apart := false, narrowed := true }
def TlbOnceUptoSaid : Prop := tlbOnceUptoRow.holds Try.pinned (OpenSpec.upto tlbOnceSpec)

/-- 'viceroylaw03.TlbFlushed', WHERE WHAT IT READS IS OF BULK AT MOST 1048576: true; the input reads as it did. -/
def tlbFlushedUptoRow : OpenClaim := { program := "ytmpjdoodpkhmpaa", sum := "3a66f38649baf35995e69ba4961edad050a134e35707b548fd8c6c0b391a6e74", func := "viceroy/viceroylaw03.TlbFlushed", spec := "tlbFlushed", unfollowed := true, recurses := true, apart := false, narrowed := true }
def TlbFlushedUptoSaid : Prop := tlbFlushedUptoRow.holds Try.pinned (OpenSpec.upto tlbFlushedSpec)

/-- 'viceroylaw03.TlbKeeps', WHERE WHAT IT READS IS OF BULK AT MOST 1048576: true; the input reads as it did. -/
def tlbKeepsUptoRow : OpenClaim := { program := "ytmpjdoodpkhmpaa", sum := "3a66f38649baf35995e69ba4961edad050a134e35707b548fd8c6c0b391a6e74", func := "viceroy/viceroylaw03.TlbKeeps", spec := "tlbKeeps", unfollowed := true, recurses := true, apart := false, narrowed := true }
def TlbKeepsUptoSaid : Prop := tlbKeepsUptoRow.holds Try.pinned (OpenSpec.upto tlbKeepsSpec)

/-- 'viceroylaw01.RamPlays', WHERE WHAT IT READS IS OF BULK AT MOST 1048576: true; the input reads as it did. -/
def ramPlaysUptoRow : OpenClaim := { program := "ytmpjdoodpkhmpaa", sum := "3a66f38649baf35995e69ba4961edad050a134e35707b548fd8c6c0b391a6e74", func := "viceroy/viceroylaw01.RamPlays", spec := "ramPlays", apart := false, narrowed := true }
def RamPlaysUptoSaid : Prop := ramPlaysUptoRow.holds Try.pinned (OpenSpec.upto ramPlaysSpec)

/-- 'viceroylaw02.PteOnly', WHERE WHAT IT READS IS OF BULK AT MOST 1048576: true; the input reads as it did. -/
def pteOnlyUptoRow : OpenClaim := { program := "ytmpjdoodpkhmpaa", sum := "3a66f38649baf35995e69ba4961edad050a134e35707b548fd8c6c0b391a6e74", func := "viceroy/viceroylaw02.PteOnly", spec := "pteOnly", apart := false, narrowed := true }
def PteOnlyUptoSaid : Prop := pteOnlyUptoRow.holds Try.pinned (OpenSpec.upto pteOnlySpec)

/-- 'viceroylaw02.PteSpoils', WHERE WHAT IT READS IS OF BULK AT MOST 1048576: true; the input reads as it did. -/
def pteSpoilsUptoRow : OpenClaim := { program := "ytmpjdoodpkhmpaa", sum := "3a66f38649baf35995e69ba4961edad050a134e35707b548fd8c6c0b391a6e74", func := "viceroy/viceroylaw02.PteSpoils", spec := "pteSpoils", apart := false, narrowed := true }
def PteSpoilsUptoSaid : Prop := pteSpoilsUptoRow.holds Try.pinned (OpenSpec.upto pteSpoilsSpec)

/-- 'viceroylaw02.PtePlays', WHERE WHAT IT READS IS OF BULK AT MOST 1048576: true; the input reads as it did. -/
def ptePlaysUptoRow : OpenClaim := { program := "ytmpjdoodpkhmpaa", sum := "3a66f38649baf35995e69ba4961edad050a134e35707b548fd8c6c0b391a6e74", func := "viceroy/viceroylaw02.PtePlays", spec := "ptePlays", apart := false, narrowed := true }
def PtePlaysUptoSaid : Prop := ptePlaysUptoRow.holds Try.pinned (OpenSpec.upto ptePlaysSpec)

/-- 'viceroylaw04.WalkConfined', WHERE WHAT IT READS IS OF BULK AT MOST 1048576: true; the input reads as it did. -/
def walkConfinedUptoRow : OpenClaim := { program := "ytmpjdoodpkhmpaa", sum := "3a66f38649baf35995e69ba4961edad050a134e35707b548fd8c6c0b391a6e74", func := "viceroy/viceroylaw04.WalkConfined", spec := "walkConfined", apart := false, narrowed := true }
def WalkConfinedUptoSaid : Prop := walkConfinedUptoRow.holds Try.pinned (OpenSpec.upto walkConfinedSpec)

/-- 'viceroylaw04.WalkPlain', WHERE WHAT IT READS IS OF BULK AT MOST 1048576: true; the input reads as it did. -/
def walkPlainUptoRow : OpenClaim := { program := "ytmpjdoodpkhmpaa", sum := "3a66f38649baf35995e69ba4961edad050a134e35707b548fd8c6c0b391a6e74", func := "viceroy/viceroylaw04.WalkPlain", spec := "walkPlain", apart := false, narrowed := true }
def WalkPlainUptoSaid : Prop := walkPlainUptoRow.holds Try.pinned (OpenSpec.upto walkPlainSpec)

/-- 'viceroylaw04.WalkLess', WHERE WHAT IT READS IS OF BULK AT MOST 1048576: true; the input reads as it did. -/
def walkLessUptoRow : OpenClaim := { program := "ytmpjdoodpkhmpaa", sum := "3a66f38649baf35995e69ba4961edad050a134e35707b548fd8c6c0b391a6e74", func := "viceroy/viceroylaw04.WalkLess", spec := "walkLess", apart := false, narrowed := true }
def WalkLessUptoSaid : Prop := walkLessUptoRow.holds Try.pinned (OpenSpec.upto walkLessSpec)

/-- 'viceroylaw04.WalkBlind', WHERE WHAT IT READS IS OF BULK AT MOST 1048576: true; the input reads as it did. -/
def walkBlindUptoRow : OpenClaim := { program := "ytmpjdoodpkhmpaa", sum := "3a66f38649baf35995e69ba4961edad050a134e35707b548fd8c6c0b391a6e74", func := "viceroy/viceroylaw04.WalkBlind", spec := "walkBlind", apart := false, narrowed := true }
def WalkBlindUptoSaid : Prop := walkBlindUptoRow.holds Try.pinned (OpenSpec.upto walkBlindSpec)

/-- 'viceroylaw04.WalkWalks', WHERE WHAT IT READS IS OF BULK AT MOST 1048576: true; the input reads as it did. -/
def walkWalksUptoRow : OpenClaim := { program := "ytmpjdoodpkhmpaa", sum := "3a66f38649baf35995e69ba4961edad050a134e35707b548fd8c6c0b391a6e74", func := "viceroy/viceroylaw04.WalkWalks", spec := "walkWalks", apart := false, narrowed := true }
def WalkWalksUptoSaid : Prop := walkWalksUptoRow.holds Try.pinned (OpenSpec.upto walkWalksSpec)

/-- 'viceroylaw04.WalkBuffered', WHERE WHAT IT READS IS OF BULK AT MOST 1048576: true; the input reads as it did. -/
def walkBufferedUptoRow : OpenClaim := { program := "ytmpjdoodpkhmpaa", sum := "3a66f38649baf35995e69ba4961edad050a134e35707b548fd8c6c0b391a6e74", func := "viceroy/viceroylaw04.WalkBuffered", spec := "walkBuffered", unfollowed := true, recurses := true, apart := false, narrowed := true }
def WalkBufferedUptoSaid : Prop := walkBufferedUptoRow.holds Try.pinned (OpenSpec.upto walkBufferedSpec)

/-- 'viceroylaw10.IommuRecords', WHERE WHAT IT READS IS OF BULK AT MOST 1048576: true; the input reads as it did. -/
def iommuRecordsUptoRow : OpenClaim := { program := "ytmpjdoodpkhmpaa", sum := "3a66f38649baf35995e69ba4961edad050a134e35707b548fd8c6c0b391a6e74", func := "viceroy/viceroylaw10.IommuRecords", spec := "iommuRecords", unfollowed := true, recurses := true, apart := false, narrowed := true }
def IommuRecordsUptoSaid : Prop := iommuRecordsUptoRow.holds Try.pinned (OpenSpec.upto iommuRecordsSpec)

/-- 'viceroylaw04.WalkReaches', WHERE WHAT IT READS IS OF BULK AT MOST 1048576: true; the input reads as it did. -/
def walkReachesUptoRow : OpenClaim := { program := "ytmpjdoodpkhmpaa", sum := "3a66f38649baf35995e69ba4961edad050a134e35707b548fd8c6c0b391a6e74", func := "viceroy/viceroylaw04.WalkReaches", spec := "walkReaches", unfollowed := true, recurses := true, apart := false, narrowed := true }
def WalkReachesUptoSaid : Prop := walkReachesUptoRow.holds Try.pinned (OpenSpec.upto walkReachesSpec)

/-- 'viceroylaw10.IommuStreams', WHERE WHAT IT READS IS OF BULK AT MOST 1048576: true; the input reads as it did. -/
def iommuStreamsUptoRow : OpenClaim := { program := "ytmpjdoodpkhmpaa", sum := "3a66f38649baf35995e69ba4961edad050a134e35707b548fd8c6c0b391a6e74", func := "viceroy/viceroylaw10.IommuStreams", spec := "iommuStreams", unfollowed := true, recurses := true, apart := false, narrowed := true }
def IommuStreamsUptoSaid : Prop := iommuStreamsUptoRow.holds Try.pinned (OpenSpec.upto iommuStreamsSpec)

/-- 'viceroylaw10.IommuConfined', WHERE WHAT IT READS IS OF BULK AT MOST 1048576: true; the input reads as it did. -/
def iommuConfinedUptoRow : OpenClaim := { program := "ytmpjdoodpkhmpaa", sum := "3a66f38649baf35995e69ba4961edad050a134e35707b548fd8c6c0b391a6e74", func := "viceroy/viceroylaw10.IommuConfined", spec := "iommuConfined", unfollowed := true, recurses := true, apart := false, narrowed := true }
def IommuConfinedUptoSaid : Prop := iommuConfinedUptoRow.holds Try.pinned (OpenSpec.upto iommuConfinedSpec)

/-- 'viceroylaw10.IommuPlays', WHERE WHAT IT READS IS OF BULK AT MOST 1048576: true; the input reads as it did. -/
def iommuPlaysUptoRow : OpenClaim := { program := "ytmpjdoodpkhmpaa", sum := "3a66f38649baf35995e69ba4961edad050a134e35707b548fd8c6c0b391a6e74", func := "viceroy/viceroylaw10.IommuPlays", spec := "iommuPlays", unfollowed := true, recurses := true, apart := false, narrowed := true }
def IommuPlaysUptoSaid : Prop := iommuPlaysUptoRow.holds Try.pinned (OpenSpec.upto iommuPlaysSpec)

end Rows
end Go.Proofs.Ytmpjdoodpkhmpaa
