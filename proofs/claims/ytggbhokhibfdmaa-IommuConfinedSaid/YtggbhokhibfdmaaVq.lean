/- Promises of calls: over more blocks, and weaker ones. Conditions: none. -/
import Derived.Test.YtggbhokhibfdmaaVe
set_option linter.unusedVariables false
set_option linter.unusedSectionVars false
namespace Go.Proofs.Ytggbhokhibfdmaa
namespace Vc
section
variable {P : Program}
/-- A call's promise over some blocks is one over more: the others stay. -/
theorem Con.frame {f : FuncId} {args : List Value} {w : World} {L Lc : Hs} {R : Value → Hs → Prop} (is : List Nat) (hw : Own w L) (hs : sel L is = some Lc) (h : Con P f args w Lc R) (hle : ∀ v L', R v L' → is.length ≤ L'.length) :
    Con P f args w L (fun v L' => ∃ Lc', R v Lc' ∧ L' = mrg L is Lc') :=
  ⟨Calls.mono h.out fun e w' ⟨v, Lc', he, hp, hR⟩ => ⟨v, mrg L is Lc', he, hw.hp.mrgR hs hp (hle v Lc' hR), Lc', hR, rfl⟩⟩
end
end Vc
end Go.Proofs.Ytggbhokhibfdmaa
