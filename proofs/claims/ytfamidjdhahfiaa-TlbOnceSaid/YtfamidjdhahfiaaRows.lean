/-
  No cell of these rows narrows 'for every input' (looked for: loops, veiled, ifaces, maps, wideKeys, modest, calm, conditions, laid).
  DERIVED. THE GIVEN ROWS OF THIS SEAT. 7 by the template 'for every input the law returns true; each argument reads behind the call as it read before'; 0 by the template 'total and deterministic' (their statements: YtfamidjdhahfiaaTotals.lean).
  GIVEN WITH THE SEED: the statements are not yours to turn. If you find one false, say at which input.
  Laid BY PROGRAM, IN A SANDBOX (cutbox-rows.mjs): the forced cells as the released guide's own fill.sh prints them over the translation 53a2a667323a9bd5… (all of the seat's roots in one cut). By AI agents, Wed Nov 11 2026. No macro, syntax, notation, axiom, sorry.
-/
import Derived.Test.YtfamidjdhahfiaaChecked
import GoSem.Claim
import GoSem.ClaimJoined
import GoSem.ClaimMapViews
import Derived.JoinedTies
import Derived.KernelRfl
namespace Go.Proofs.Ytfamidjdhahfiaa
/- THE CELL 'sum', in the pinned program and in every row, IS THE sha256 OF THE DUMP (.gsa) THAT YtfamidjdhahfiaaProg.lean LOADS. Nothing in Lean hashes anything: it is a label: what it is worth is what the hold of that sum in a sandbox is worth. -/
noncomputable def Try.pinned : Pinned := { name := "ytfamidjdhahfiaa", sum := "53a2a667323a9bd519befa323f197c261e706ee7665f0537a46053fa3ecadcdd", checked := Try.checked }
namespace Rows
def none {H : Type} : Left H := { results := [], args := [] }

/-- 'viceroylaw01.RamApart': WHATEVER THE INPUT: true; the input reads as it did. -/
def ramApartSpec : ChangeSpec := { name := "ramApart", fn := fun _ => fun
  | [d1, d2, d3, d4] => { results := [.lit (.bool true)], args := [d1, d2, d3, d4] }
  | _ => none }
def ramApartRow : OpenClaim := { program := "ytfamidjdhahfiaa", sum := "53a2a667323a9bd519befa323f197c261e706ee7665f0537a46053fa3ecadcdd", func := "viceroy/viceroylaw01.RamApart", spec := "ramApart", apart := false }
def RamApartSaid : Prop := ramApartRow.holds Try.pinned (OpenSpec.ofChange ramApartSpec)

/-- ITS FALSE NEIGHBOUR: 'it returns false'. Refute it at one input. -/
def ramApartWrong : ChangeSpec := { name := "ramApart", fn := fun _ => fun
  | [d1, d2, d3, d4] => { results := [.lit (.bool false)], args := [d1, d2, d3, d4] }
  | _ => none }
def RamApartWrongFalsely : Prop := ramApartRow.holds Try.pinned (OpenSpec.ofChange ramApartWrong)

/-- 'viceroylaw01.RamLays': WHATEVER THE INPUT: true; the input reads as it did. -/
def ramLaysSpec : ChangeSpec := { name := "ramLays", fn := fun _ => fun
  | [d1, d2, d3, d4] => { results := [.lit (.bool true)], args := [d1, d2, d3, d4] }
  | _ => none }
def ramLaysRow : OpenClaim := { program := "ytfamidjdhahfiaa", sum := "53a2a667323a9bd519befa323f197c261e706ee7665f0537a46053fa3ecadcdd", func := "viceroy/viceroylaw01.RamLays", spec := "ramLays", apart := false }
def RamLaysSaid : Prop := ramLaysRow.holds Try.pinned (OpenSpec.ofChange ramLaysSpec)

/-- ITS FALSE NEIGHBOUR: 'it returns false'. Refute it at one input. -/
def ramLaysWrong : ChangeSpec := { name := "ramLays", fn := fun _ => fun
  | [d1, d2, d3, d4] => { results := [.lit (.bool false)], args := [d1, d2, d3, d4] }
  | _ => none }
def RamLaysWrongFalsely : Prop := ramLaysRow.holds Try.pinned (OpenSpec.ofChange ramLaysWrong)

/-- 'viceroylaw03.TlbOnce': WHATEVER THE INPUT: true; the input reads as it did. -/
def tlbOnceSpec : ChangeSpec := { name := "tlbOnce", fn := fun _ => fun
  | [d] => { results := [.lit (.bool true)], args := [d] }
  | _ => none }
def tlbOnceRow : OpenClaim := { program := "ytfamidjdhahfiaa", sum := "53a2a667323a9bd519befa323f197c261e706ee7665f0537a46053fa3ecadcdd", func := "viceroy/viceroylaw03.TlbOnce", spec := "tlbOnce", unfollowed := true, recurses := true, apart := false }
def TlbOnceSaid : Prop := tlbOnceRow.holds Try.pinned (OpenSpec.ofChange tlbOnceSpec)

/-- ITS FALSE NEIGHBOUR: 'it returns false'. Refute it at one input. -/
def tlbOnceWrong : ChangeSpec := { name := "tlbOnce", fn := fun _ => fun
  | [d] => { results := [.lit (.bool false)], args := [d] }
  | _ => none }
def TlbOnceWrongFalsely : Prop := tlbOnceRow.holds Try.pinned (OpenSpec.ofChange tlbOnceWrong)

/-- 'viceroylaw03.TlbKeeps': WHATEVER THE INPUT: true; the input reads as it did. -/
def tlbKeepsSpec : ChangeSpec := { name := "tlbKeeps", fn := fun _ => fun
  | [d1, d2, d3] => { results := [.lit (.bool true)], args := [d1, d2, d3] }
  | _ => none }
def tlbKeepsRow : OpenClaim := { program := "ytfamidjdhahfiaa", sum := "53a2a667323a9bd519befa323f197c261e706ee7665f0537a46053fa3ecadcdd", func := "viceroy/viceroylaw03.TlbKeeps", spec := "tlbKeeps", unfollowed := true, recurses := true, apart := false }
def TlbKeepsSaid : Prop := tlbKeepsRow.holds Try.pinned (OpenSpec.ofChange tlbKeepsSpec)

/-- ITS FALSE NEIGHBOUR: 'it returns false'. Refute it at one input. -/
def tlbKeepsWrong : ChangeSpec := { name := "tlbKeeps", fn := fun _ => fun
  | [d1, d2, d3] => { results := [.lit (.bool false)], args := [d1, d2, d3] }
  | _ => none }
def TlbKeepsWrongFalsely : Prop := tlbKeepsRow.holds Try.pinned (OpenSpec.ofChange tlbKeepsWrong)

/-- 'viceroylaw02.PteOnly': WHATEVER THE INPUT: true; the input reads as it did. -/
def pteOnlySpec : ChangeSpec := { name := "pteOnly", fn := fun _ => fun
  | [d1, d2, d3, d4] => { results := [.lit (.bool true)], args := [d1, d2, d3, d4] }
  | _ => none }
def pteOnlyRow : OpenClaim := { program := "ytfamidjdhahfiaa", sum := "53a2a667323a9bd519befa323f197c261e706ee7665f0537a46053fa3ecadcdd", func := "viceroy/viceroylaw02.PteOnly", spec := "pteOnly", apart := false }
def PteOnlySaid : Prop := pteOnlyRow.holds Try.pinned (OpenSpec.ofChange pteOnlySpec)

/-- ITS FALSE NEIGHBOUR: 'it returns false'. Refute it at one input. -/
def pteOnlyWrong : ChangeSpec := { name := "pteOnly", fn := fun _ => fun
  | [d1, d2, d3, d4] => { results := [.lit (.bool false)], args := [d1, d2, d3, d4] }
  | _ => none }
def PteOnlyWrongFalsely : Prop := pteOnlyRow.holds Try.pinned (OpenSpec.ofChange pteOnlyWrong)

/-- 'viceroylaw02.PteSpoils': WHATEVER THE INPUT: true; the input reads as it did. -/
def pteSpoilsSpec : ChangeSpec := { name := "pteSpoils", fn := fun _ => fun
  | [d1, d2, d3] => { results := [.lit (.bool true)], args := [d1, d2, d3] }
  | _ => none }
def pteSpoilsRow : OpenClaim := { program := "ytfamidjdhahfiaa", sum := "53a2a667323a9bd519befa323f197c261e706ee7665f0537a46053fa3ecadcdd", func := "viceroy/viceroylaw02.PteSpoils", spec := "pteSpoils", apart := false }
def PteSpoilsSaid : Prop := pteSpoilsRow.holds Try.pinned (OpenSpec.ofChange pteSpoilsSpec)

/-- ITS FALSE NEIGHBOUR: 'it returns false'. Refute it at one input. -/
def pteSpoilsWrong : ChangeSpec := { name := "pteSpoils", fn := fun _ => fun
  | [d1, d2, d3] => { results := [.lit (.bool false)], args := [d1, d2, d3] }
  | _ => none }
def PteSpoilsWrongFalsely : Prop := pteSpoilsRow.holds Try.pinned (OpenSpec.ofChange pteSpoilsWrong)

/-- 'viceroylaw02.PtePlays': WHATEVER THE INPUT: true; the input reads as it did. -/
def ptePlaysSpec : ChangeSpec := { name := "ptePlays", fn := fun _ => fun
  | [d1, d2] => { results := [.lit (.bool true)], args := [d1, d2] }
  | _ => none }
def ptePlaysRow : OpenClaim := { program := "ytfamidjdhahfiaa", sum := "53a2a667323a9bd519befa323f197c261e706ee7665f0537a46053fa3ecadcdd", func := "viceroy/viceroylaw02.PtePlays", spec := "ptePlays", apart := false }
def PtePlaysSaid : Prop := ptePlaysRow.holds Try.pinned (OpenSpec.ofChange ptePlaysSpec)

/-- ITS FALSE NEIGHBOUR: 'it returns false'. Refute it at one input. -/
def ptePlaysWrong : ChangeSpec := { name := "ptePlays", fn := fun _ => fun
  | [d1, d2] => { results := [.lit (.bool false)], args := [d1, d2] }
  | _ => none }
def PtePlaysWrongFalsely : Prop := ptePlaysRow.holds Try.pinned (OpenSpec.ofChange ptePlaysWrong)

/- THE SECOND FORM. 'bulk': how many values and letters a reading holds, each counted each time it is reached (what is shared counts as often as it is met; a slice's spare places count too). A statement '..UptoSaid' is the law's where the arguments, and the package variables that the reading takes, are together of bulk at most 1048576: NARROWER than '..Said'. Prove '..Said' where nothing that the law and all that it calls make is longer than what came in: it says more and counts as full. Else prove '..UptoSaid'. A law counts once. -/
mutual
def uptoBulk {H : Type} : DataW H → Nat
  | .lit (.string bytes) => bytes.length + 1
  | .lit _ => 1
  | .nil => 1
  | .ptr d => uptoBulk d + 1
  | .slice elems spare => uptoBulkAll elems + uptoBulkAll spare + 1
  | .agg parts => uptoBulkAll parts + 1
  | .iface _ d => uptoBulk d + 1
  | .map entries => uptoBulkEntries entries + 1
  | .held _ => 1
def uptoBulkAll {H : Type} : List (DataW H) → Nat
  | [] => 0
  | d :: r => uptoBulk d + uptoBulkAll r
def uptoBulkEntries {H : Type} : List (Lit × DataW H) → Nat
  | [] => 0
  | x :: r => uptoBulkEntry x + uptoBulkEntries r
def uptoBulkEntry {H : Type} : Lit × DataW H → Nat
  | (.string bytes, d) => bytes.length + uptoBulk d + 1
  | (_, d) => uptoBulk d + 1
 end
def uptoSmall : (H : Type) → List (DataW H) → Bool := fun _ ds => decide (uptoBulkAll ds ≤ 1048576)
def OpenSpec.upto (s : _root_.Go.ChangeSpec) : _root_.Go.OpenSpec := { _root_.Go.OpenSpec.ofChange s with cond := some uptoSmall }

/-- 'viceroylaw01.RamApart', WHERE WHAT IT READS IS OF BULK AT MOST 1048576: true; the input reads as it did. -/
def ramApartUptoRow : OpenClaim := { program := "ytfamidjdhahfiaa", sum := "53a2a667323a9bd519befa323f197c261e706ee7665f0537a46053fa3ecadcdd", func := "viceroy/viceroylaw01.RamApart", spec := "ramApart", apart := false, narrowed := true }
def RamApartUptoSaid : Prop := ramApartUptoRow.holds Try.pinned (OpenSpec.upto ramApartSpec)

/-- 'viceroylaw01.RamLays', WHERE WHAT IT READS IS OF BULK AT MOST 1048576: true; the input reads as it did. -/
def ramLaysUptoRow : OpenClaim := { program := "ytfamidjdhahfiaa", sum := "53a2a667323a9bd519befa323f197c261e706ee7665f0537a46053fa3ecadcdd", func := "viceroy/viceroylaw01.RamLays", spec := "ramLays", apart := false, narrowed := true }
def RamLaysUptoSaid : Prop := ramLaysUptoRow.holds Try.pinned (OpenSpec.upto ramLaysSpec)

/-- 'viceroylaw03.TlbOnce', WHERE WHAT IT READS IS OF BULK AT MOST 1048576: true; the input reads as it did. -/
def tlbOnceUptoRow : OpenClaim := { program := "ytfamidjdhahfiaa", sum := "53a2a667323a9bd519befa323f197c261e706ee7665f0537a46053fa3ecadcdd", func := "viceroy/viceroylaw03.TlbOnce", spec := "tlbOnce", unfollowed := true, recurses := true, apart := false, narrowed := true }
def TlbOnceUptoSaid : Prop := tlbOnceUptoRow.holds Try.pinned (OpenSpec.upto tlbOnceSpec)

/-- 'viceroylaw03.TlbKeeps', WHERE WHAT IT READS IS OF BULK AT MOST 1048576: true; the input reads as it did. -/
def tlbKeepsUptoRow : OpenClaim := { program := "ytfamidjdhahfiaa", sum := "53a2a667323a9bd519befa323f197c261e706ee7665f0537a46053fa3ecadcdd", func := "viceroy/viceroylaw03.TlbKeeps", spec := "tlbKeeps", unfollowed := true, recurses := true, apart := false, narrowed := true }
def TlbKeepsUptoSaid : Prop := tlbKeepsUptoRow.holds Try.pinned (OpenSpec.upto tlbKeepsSpec)

/-- 'viceroylaw02.PteOnly', WHERE WHAT IT READS IS OF BULK AT MOST 1048576: true; the input reads as it did. -/
def pteOnlyUptoRow : OpenClaim := { program := "ytfamidjdhahfiaa", sum := "53a2a667323a9bd519befa323f197c261e706ee7665f0537a46053fa3ecadcdd", func := "viceroy/viceroylaw02.PteOnly", spec := "pteOnly", apart := false, narrowed := true }
def PteOnlyUptoSaid : Prop := pteOnlyUptoRow.holds Try.pinned (OpenSpec.upto pteOnlySpec)

/-- 'viceroylaw02.PteSpoils', WHERE WHAT IT READS IS OF BULK AT MOST 1048576: true; the input reads as it did. -/
def pteSpoilsUptoRow : OpenClaim := { program := "ytfamidjdhahfiaa", sum := "53a2a667323a9bd519befa323f197c261e706ee7665f0537a46053fa3ecadcdd", func := "viceroy/viceroylaw02.PteSpoils", spec := "pteSpoils", apart := false, narrowed := true }
def PteSpoilsUptoSaid : Prop := pteSpoilsUptoRow.holds Try.pinned (OpenSpec.upto pteSpoilsSpec)

/-- 'viceroylaw02.PtePlays', WHERE WHAT IT READS IS OF BULK AT MOST 1048576: true; the input reads as it did. -/
def ptePlaysUptoRow : OpenClaim := { program := "ytfamidjdhahfiaa", sum := "53a2a667323a9bd519befa323f197c261e706ee7665f0537a46053fa3ecadcdd", func := "viceroy/viceroylaw02.PtePlays", spec := "ptePlays", apart := false, narrowed := true }
def PtePlaysUptoSaid : Prop := ptePlaysUptoRow.holds Try.pinned (OpenSpec.upto ptePlaysSpec)

end Rows
end Go.Proofs.Ytfamidjdhahfiaa
