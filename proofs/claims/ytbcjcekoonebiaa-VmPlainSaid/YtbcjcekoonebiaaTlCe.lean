/- VmPlain, whatever its arguments. Conditions: none. -/
import Derived.Test.YtbcjcekoonebiaaTlCd
import Derived.Test.YtbcjcekoonebiaaTlQA
import Derived.Test.YtbcjcekoonebiaaTlWi
set_option linter.unusedVariables false
namespace Go.Proofs.Ytbcjcekoonebiaa.Tl
open Go Go.RowKit
theorem vmPlain_walk (a0 : List Val) (a1 : List Int) (w : World) (v0 v1 : Value) (g1 : ∀ n ∈ a1, (Lit.int .u8 n).wf = true) (r0 : Rd (Pw w) (.sl .ro 5 (encs a0)) v0) (r1 : Rd (Pw w) (.sl .ro 1 (a1.map fun x => [.int .u8 x])) v1) : Calls Try.prog 14 #[v0, v1] w fun e w' => e = .returned (.bool true) ∧ Below w.heap.size w w' := by
  obtain ⟨n, hn⟩ := (s14 a0 a1 (fun x hx => by have := g1 x hx; simp only [Lit.wf, Bool.and_eq_true, decide_eq_true_eq] at this; exact this)).get
  exact (w_f14 n a0 a1 true hn).law w _ ⟨r0, r1, trivial⟩
end Go.Proofs.Ytbcjcekoonebiaa.Tl
