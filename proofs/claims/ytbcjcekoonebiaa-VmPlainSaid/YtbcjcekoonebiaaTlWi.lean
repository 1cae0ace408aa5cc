/- EvalLazy, whatever its arguments. Conditions: none. -/
import Derived.Test.YtbcjcekoonebiaaTlWh
set_option linter.unusedVariables false
namespace Go.Proofs.Ytbcjcekoonebiaa.Tl
open Go Go.RowKit

theorem ACall.law {P : Program} {f : FuncId} {args : List AV} (h : ACall P f args (.bool true)) (w : World) (vs : Array Value) (hr : RdL (Pu (fun _ _ => True) w) args vs.toList) :
    Calls P f vs w fun e w' => e = .returned (.bool true) ∧ Below w.heap.size w w' := by
  refine (h.2 _ w vs hr).mono fun e w' h => ?_
  obtain ⟨v, rfl, hv, hb⟩ := h
  simp only [Rd] at hv
  subst hv
  exact ⟨rfl, hb⟩

theorem w5 (a b : Bool) (n : Int) : ACall Try.prog 5 [.bool a, .bool b, .int .i64 n] (.bool true) := by
  cases a <;> cases b
  · exact w5_false_false n
  · exact w5_false_true n
  · exact w5_true_false n
  · exact w5_true_true n
theorem evalLazy_walk (a b : Bool) (n : Int) (w : World) : Calls Try.prog 5 #[.bool a, .bool b, .int .i64 n] w fun e w' => e = .returned (.bool true) ∧ Below w.heap.size w w' :=
  (w5 a b n).law w _ (by simp [RdL, Rd])

end Go.Proofs.Ytbcjcekoonebiaa.Tl
