/- VmLazy, whatever its arguments. Conditions: none. -/
import Derived.Test.YtbcjcekoonebiaaTlZVmLazy5
set_option linter.unusedVariables false
namespace Go.Proofs.Ytbcjcekoonebiaa.Tl
open Go Go.RowKit
theorem vmLazy_walk (a0 : List Int) (a1 : Int) (w : World) (v0 : Value) (g0 : ∀ n ∈ a0, (Lit.int .u8 n).wf = true) (r0 : Rd (Pw w) (.sl .ro 1 (a0.map fun x => [.int .u8 x])) v0) : Calls Try.prog 15 #[v0, .int .i64 a1] w fun e w' => e = .returned (.bool true) ∧ Below w.heap.size w w' := by
  obtain ⟨n, hn⟩ := (s15 a0 a1).get
  exact (w_f15 n a0 a1 true hn).law w _ ⟨r0, rfl, trivial⟩
end Go.Proofs.Ytbcjcekoonebiaa.Tl
