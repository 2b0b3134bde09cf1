/- 'viceroylaw10.IommuConfined' opened: what is handed in is read off. Conditions: none beside the row's own. -/
import Derived.Test.YtggbhokhibfdmaaLawIommuConfined
set_option linter.unusedVariables false
set_option maxRecDepth 10000
set_option maxHeartbeats 4000000
namespace Go.Proofs.Ytggbhokhibfdmaa
open Vc Mem
theorem iommuConfined_walk (a0 : Option Addr) (len0 cap0 n0 : Nat) {W : World} (rd0 : Rd Try.prog W n0 44 (Value.slice a0 len0 cap0).cells.toList) (a1 : Option Addr) (len1 cap1 n1 : Nat) (rd1 : Rd Try.prog W n1 45 (Value.slice a1 len1 cap1).cells.toList)
    (st : Int) (w2 : (Lit.int .i64 st).wf = true) (ad : Int) (w3 : (Lit.int .i64 ad).wf = true) (wr : Bool) (bt : Int) (w5 : (Lit.int .u8 bt).wf = true) :
    Calls Try.prog 5 #[.slice a0 len0 cap0, .slice a1 len1 cap1, .int .i64 st, .int .i64 ad, .bool wr, .int .u8 bt] W fun e w' => e = .returned (.bool true) ∧ RowKit.Below W.heap.size W w' := by
  obtain ⟨us, h1, h2⟩ := rd_puts10 rd0
  obtain ⟨acts, g1, g2⟩ := rd_acts10 rd1
  exact (iommuConfined_con _ (mkX_in us).1 (mkX_in us).2 a0 len0 cap0 W us rfl h1 h2 a1 len1 cap1 acts g1 g2 st ad (wf_i64 w3).2 wr bt (wf_u8 w5)).law
end Go.Proofs.Ytggbhokhibfdmaa
