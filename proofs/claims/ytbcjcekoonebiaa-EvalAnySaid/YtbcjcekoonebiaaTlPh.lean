/- EvalAny, whatever its arguments. Conditions: none. -/
import Derived.Test.YtbcjcekoonebiaaTlPg
import Derived.Test.YtbcjcekoonebiaaTlQA
import Derived.Test.YtbcjcekoonebiaaTlWi
set_option linter.unusedVariables false
namespace Go.Proofs.Ytbcjcekoonebiaa.Tl
open Go Go.RowKit

theorem evalAny_walk (a0 : Ex) (a1 : Val) (w : World) (v0 v1 : Value) (r0 : Rd (Pw w) (.agg (exC a0)) v0) (r1 : Rd (Pw w) (.agg (valC a1)) v1) : Calls Try.prog 3 #[v0, v1] w fun e w' => e = .returned (.bool true) ∧ Below w.heap.size w w' :=
  let ⟨n, hn⟩ := (s3 a0 a1).get
  (w_f3 n a0 a1 true hn).law w _ ⟨r0, r1, trivial⟩
end Go.Proofs.Ytbcjcekoonebiaa.Tl
