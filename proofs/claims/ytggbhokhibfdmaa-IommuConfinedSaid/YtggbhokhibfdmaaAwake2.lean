/- The examples of the chapter on entries come out. Conditions: none. -/
import Derived.Test.YtggbhokhibfdmaaPte
set_option linter.unusedVariables false
set_option linter.unusedSimpArgs false
set_option maxRecDepth 10000
namespace Go.Proofs.Ytggbhokhibfdmaa
open Vc
end Go.Proofs.Ytggbhokhibfdmaa
