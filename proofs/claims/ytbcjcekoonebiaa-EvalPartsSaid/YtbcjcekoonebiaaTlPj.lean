/- EvalParts, whatever its argument. Conditions: none. -/
import Derived.Test.YtbcjcekoonebiaaTlPi
import Derived.Test.YtbcjcekoonebiaaTlQA
import Derived.Test.YtbcjcekoonebiaaTlWi
set_option linter.unusedVariables false
namespace Go.Proofs.Ytbcjcekoonebiaa.Tl
open Go Go.RowKit

theorem evalParts_walk (a0 : List Val) (w : World) (v0 : Value) (r0 : Rd (Pw w) (.sl .ro 5 (encs a0)) v0) : Calls Try.prog 7 #[v0] w fun e w' => e = .returned (.bool true) ∧ Below w.heap.size w w' :=
  let ⟨n, hn⟩ := (s7 a0).get
  (w_f7 n a0 true hn).law w _ ⟨r0, trivial⟩
end Go.Proofs.Ytbcjcekoonebiaa.Tl
