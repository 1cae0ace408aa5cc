/- Rows of bytes. Conditions: none. -/
import Derived.Test.YtbcjcekoonebiaaTlXs
set_option linter.unusedVariables false
set_option linter.unusedSimpArgs false
namespace Go.Proofs.Ytbcjcekoonebiaa.Tl
open Go Go.RowKit

abbrev c_int_u8 (x : Int) : List AV := [.int .u8 x]
def r_int_u8 (l : List Int) : List (List AV) := rowF c_int_u8 l
theorem r_int_u8_length (l : List Int) : (r_int_u8 l).length = l.length := rowF_length _ l
theorem r_int_u8_get {l : List Int} {j : Nat} {x : Int} (h : l[j]? = some x) : (r_int_u8 l)[j]? = some (c_int_u8 x) := rowF_get h
theorem r_int_u8_append (l m : List Int) : r_int_u8 (l ++ m) = r_int_u8 l ++ r_int_u8 m := rowF_append _ l m
theorem r_int_u8_pure (S : Nat → Bool) (l : List Int) : inR S (r_int_u8 l) = true := rowF_pure S (fun x => by simp [pureA, pureL, pureR, inA, inL, inR, inO, idsIn, encs_pure, enxs_pure, enys_pure, valC_pure, exC_pure, tyC_pure, c_int_u8]) l

end Go.Proofs.Ytbcjcekoonebiaa.Tl
