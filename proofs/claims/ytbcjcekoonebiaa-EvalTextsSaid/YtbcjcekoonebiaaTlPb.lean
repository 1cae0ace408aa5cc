/- EvalNums and EvalTexts, whatever their arguments. Conditions: none. -/
import Derived.Test.YtbcjcekoonebiaaTlPa
import Derived.Test.YtbcjcekoonebiaaTlWi
set_option linter.unusedVariables false
namespace Go.Proofs.Ytbcjcekoonebiaa.Tl
open Go Go.RowKit

theorem wf64 {n : Int} (h : (Lit.int .i64 n).wf = true) : -9223372036854775808 ≤ n ∧ n ≤ 9223372036854775807 := by
  simp only [Lit.wf, Bool.and_eq_true, decide_eq_true_eq] at h
  exact h
theorem evalNums_walk (a b : Int) (h0 : (Lit.int .i64 a).wf = true) (h1 : (Lit.int .i64 b).wf = true) (w : World) : Calls Try.prog 4 #[.int .i64 a, .int .i64 b] w fun e w' => e = .returned (.bool true) ∧ Below w.heap.size w w' :=
  (w_f4 0 a b true (s4 a b (wf64 h0).1 (wf64 h0).2)).law w _ (by simp [RdL, Rd])
theorem evalTexts_walk (a b : ByteArray) (h0 : a.size ≤ 140737488351232) (h1 : b.size ≤ 140737488351232) (w : World) : Calls Try.prog 6 #[.string a, .string b] w fun e w' => e = .returned (.bool true) ∧ Below w.heap.size w w' :=
  (w_f6 0 a b true (s6 a b)).law w _ (by simp [RdL, Rd])
end Go.Proofs.Ytbcjcekoonebiaa.Tl
