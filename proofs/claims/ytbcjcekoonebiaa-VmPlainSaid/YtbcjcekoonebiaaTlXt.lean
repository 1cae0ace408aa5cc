/- A tuple is made: as a partial definition. Conditions: none. -/
import Derived.Test.YtbcjcekoonebiaaTlXs
set_option linter.unusedVariables false
namespace Go.Proofs.Ytbcjcekoonebiaa.Tl
open Go Go.RowKit

def tupS (l : List Val) : Option Val :=
  match l with
  | [] => none
  | v :: r => if r.length ≤ 1000000 then some (Val.mk 4 0 false ⟨#[]⟩ (v :: r)) else none
theorem w_tup {l : List Val} {q : Val} (h : tupS l = some q) : ACall Try.prog 27 [.sl .ro 5 (encs l)] (.agg (valC q)) := by
  cases l with
  | nil => cases h
  | cons v r =>
    obtain ⟨h1, h2⟩ := grd h
    obtain rfl := Option.some.inj h2
    exact w27 (enc1 v) (encs r) (encs_pure _ (v :: r)) (by rw [encs_length]; exact h1)
end Go.Proofs.Ytbcjcekoonebiaa.Tl
