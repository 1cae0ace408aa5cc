/- One and Both, as contracts with what may be. Conditions: none. -/
import Derived.Test.YtbcjcekoonebiaaTlXt
set_option linter.unusedVariables false
namespace Go.Proofs.Ytbcjcekoonebiaa.Tl
open Go Go.RowKit
def one3 (op : ByteArray) (a : Val) : Option (Val × Bool) := (oneS op a).bind fun v => some (v, true)
def both3 (op : ByteArray) (a b : Val) : Option (Val × Int × Bool) := (bothS op a b).bind fun r => some (r.1, r.2, true)
theorem w61o {op : ByteArray} {a : Val} {r : Val × Bool} (h : one3 op a = some r) : ACall Try.prog 61 [.str op, .agg (valC a)] (.tup [.agg (valC r.1), .bool r.2]) := by
  obtain ⟨v, h1, h2⟩ := Option.bind_eq_some_iff.1 h
  obtain rfl := Option.some.inj h2
  exact w61 op a v h1
theorem w62o {op : ByteArray} {a b : Val} {r : Val × Int × Bool} (h : both3 op a b = some r) : ACall Try.prog 62 [.str op, .agg (valC a), .agg (valC b)] (.tup [.agg (valC r.1), .int .i64 r.2.1, .bool r.2.2]) := by
  obtain ⟨v, h1, h2⟩ := Option.bind_eq_some_iff.1 h
  obtain rfl := Option.some.inj h2
  exact w62 op a b v h1
end Go.Proofs.Ytbcjcekoonebiaa.Tl
