/- Walks: expressions are made; what is known. Conditions: none. -/
import Derived.Test.YtbcjcekoonebiaaTlWf
set_option linter.unusedVariables false
set_option linter.unusedSimpArgs false
namespace Go.Proofs.Ytbcjcekoonebiaa.Tl
open Go Go.RowKit

abbrev intV (i : Int) : Val := .mk 1 i false ⟨#[]⟩ []
abbrev boolV (b : Bool) : Val := .mk 2 0 b ⟨#[]⟩ []
abbrev strV (s : ByteArray) : Val := .mk 3 0 false s []
abbrev tupV (l : List Val) : Val := .mk 4 0 false ⟨#[]⟩ l
abbrev xE : Ex := .mk ⟨#[120]⟩ zeroV 0 []
abbrev litE (v : Val) : Ex := .mk ⟨#[108, 105, 116]⟩ v 0 []
abbrev opE (op : ByteArray) (l : List Ex) : Ex := .mk op zeroV 0 l
theorem v28 (i : Int) : ACall Try.prog 28 [.int .i64 i] (.agg (valC (intV i))) := w28 i
theorem v32 (b : Bool) : ACall Try.prog 32 [.bool b] (.agg (valC (boolV b))) := w32 b
theorem v33 (s : ByteArray) : ACall Try.prog 33 [.str s] (.agg (valC (strV s))) := w33 s
theorem v29 : ACall Try.prog 29 [] (.agg (exC xE)) := w29
theorem v31 (v : Val) : ACall Try.prog 31 [.agg (valC v)] (.agg (exC (litE v))) := w31 v
theorem v30 (op : ByteArray) (l : List Ex) : ACall Try.prog 30 [.str op, .sl .ro 8 (enxs l)] (.agg (exC (opE op l))) := w30 op (enxs l) (enxs_pure _ l)

theorem w16  : ACall Try.prog 16 [] (.bool true) := by
  refine ACall.go [] Try.func16 rfl Try.ntmps16 rfl rfl rfl ?_
  refine AW.seq ?_
  refine AW.region (M := fun _ => true) ?_
  refine AL.v good (d := 0) rfl rfl rfl rfl ?_
  refine AW.seq ?_
  refine AW.region (M := fun _ => true) ?_
  refine AL.clp good (d := 11) rfl rfl rfl rfl rfl rfl rfl (v28 _) (rfl) ?_
  refine AL.alc good (d := 1) rfl rfl rfl rfl rfl 0 rfl ?_
  refine AL.st good rfl rfl rfl rfl rfl rfl rfl rfl rfl rfl rfl ?_
  refine AW.seq ?_
  refine AW.draw (M := fun i => Nat.beq i 11) good.wide (by kernel_rfl) ?_
  refine AL.clp good (d := 13) rfl rfl rfl rfl rfl rfl rfl (v29) (rfl) ?_
  refine AL.clp good (d := 14) rfl rfl rfl rfl rfl rfl rfl (v28 _) (rfl) ?_
  refine AL.clp good (d := 15) rfl rfl rfl rfl rfl rfl rfl (v31 (intV 1)) (rfl) ?_
  refine AL.lit good (d := 16) rfl rfl rfl rfl rfl rfl rfl rfl rfl 1 rfl ?_
  refine AL.clo good (d := 17) rfl rfl rfl rfl rfl rfl rfl (v30 ⟨#[97, 100, 100]⟩ [xE, litE (intV 1)]) (rfl) (rfl) ?_
  refine AL.v good (d := 18) rfl rfl rfl rfl ?_
  refine AL.clp good (d := 19) rfl rfl rfl rfl rfl rfl rfl (w23 (opE ⟨#[97, 100, 100]⟩ [xE, litE (intV 1)]) (intV 9223372036854775807) ((intV (-9223372036854775808), 0)) (by rfl)) (rfl) ?_
  refine AL.v good (d := 12) rfl rfl rfl rfl ?_
  refine AL.v good (d := 20) rfl rfl rfl rfl ?_
  refine AL.v good (d := 21) rfl rfl rfl rfl ?_
  refine AL.alc good (d := 2) rfl rfl rfl rfl rfl 2 rfl ?_
  refine AL.st good rfl rfl rfl rfl rfl rfl rfl rfl rfl rfl rfl ?_
  refine AL.v good (d := 3) rfl rfl rfl rfl ?_
  refine AW.seq ?_
  refine AW.region (M := fun _ => true) ?_
  refine AL.clp good (d := 22) rfl rfl rfl rfl rfl rfl rfl (v29) (rfl) ?_
  refine AL.clp good (d := 23) rfl rfl rfl rfl rfl rfl rfl (v28 _) (rfl) ?_
  refine AL.clp good (d := 24) rfl rfl rfl rfl rfl rfl rfl (v31 (intV 0)) (rfl) ?_
  refine AL.lit good (d := 25) rfl rfl rfl rfl rfl rfl rfl rfl rfl 3 rfl ?_
  refine AL.clo good (d := 26) rfl rfl rfl rfl rfl rfl rfl (v30 ⟨#[100, 105, 118]⟩ [xE, litE (intV 0)]) (rfl) (rfl) ?_
  refine AL.clp good (d := 27) rfl rfl rfl rfl rfl rfl rfl (v29) (rfl) ?_
  refine AL.lit good (d := 28) rfl rfl rfl rfl rfl rfl rfl rfl rfl 4 rfl ?_
  refine AL.clo good (d := 29) rfl rfl rfl rfl rfl rfl rfl (v30 ⟨#[101, 113]⟩ [opE ⟨#[100, 105, 118]⟩ [xE, litE (intV 0)], xE]) (rfl) (rfl) ?_
  refine AL.alc good (d := 4) rfl rfl rfl rfl rfl 5 rfl ?_
  refine AL.st good rfl rfl rfl rfl rfl rfl rfl rfl rfl rfl rfl ?_
  refine AW.seq ?_
  refine AW.draw (M := fun i => Nat.beq i 11) good.wide (by kernel_rfl) ?_
  refine AL.clp good (d := 31) rfl rfl rfl rfl rfl rfl rfl (v32 _) (rfl) ?_
  refine AL.clp good (d := 32) rfl rfl rfl rfl rfl rfl rfl (v31 (boolV false)) (rfl) ?_
  refine AL.v good (d := 33) rfl rfl rfl rfl ?_
  refine AL.lit good (d := 34) rfl rfl rfl rfl rfl rfl rfl rfl rfl 6 rfl ?_
  refine AL.clo good (d := 35) rfl rfl rfl rfl rfl rfl rfl (v30 ⟨#[97, 110, 100]⟩ [litE (boolV false), opE ⟨#[101, 113]⟩ [opE ⟨#[100, 105, 118]⟩ [xE, litE (intV 0)], xE]]) (rfl) (rfl) ?_
  refine AL.v good (d := 36) rfl rfl rfl rfl ?_
  refine AL.clp good (d := 37) rfl rfl rfl rfl rfl rfl rfl (w23 (opE ⟨#[97, 110, 100]⟩ [litE (boolV false), opE ⟨#[101, 113]⟩ [opE ⟨#[100, 105, 118]⟩ [xE, litE (intV 0)], xE]]) (intV 9223372036854775807) ((boolV false, 0)) (by rfl)) (rfl) ?_
  refine AL.v good (d := 30) rfl rfl rfl rfl ?_
  refine AL.v good (d := 38) rfl rfl rfl rfl ?_
  refine AL.v good (d := 39) rfl rfl rfl rfl ?_
  refine AL.alc good (d := 5) rfl rfl rfl rfl rfl 7 rfl ?_
  refine AL.st good rfl rfl rfl rfl rfl rfl rfl rfl rfl rfl rfl ?_
  refine AL.v good (d := 6) rfl rfl rfl rfl ?_
  refine AW.seq ?_
  refine AW.region (M := fun _ => true) ?_
  refine AL.v good (d := 41) rfl rfl rfl rfl ?_
  refine AL.v good (d := 42) rfl rfl rfl rfl ?_
  refine AL.clp good (d := 43) rfl rfl rfl rfl rfl rfl rfl (w23 (opE ⟨#[101, 113]⟩ [opE ⟨#[100, 105, 118]⟩ [xE, litE (intV 0)], xE]) (intV 9223372036854775807) ((zeroV, 8)) (by rfl)) (rfl) ?_
  refine AL.v good (d := 40) rfl rfl rfl rfl ?_
  refine AL.v good (d := 44) rfl rfl rfl rfl ?_
  refine AL.v good (d := 45) rfl rfl rfl rfl ?_
  refine AL.alc good (d := 7) rfl rfl rfl rfl rfl 8 rfl ?_
  refine AL.st good rfl rfl rfl rfl rfl rfl rfl rfl rfl rfl rfl ?_
  refine AL.v good (d := 8) rfl rfl rfl rfl ?_
  refine AW.seq ?_
  refine AW.draw (M := fun i => Nat.beq i 12) good.wide (by kernel_rfl) ?_
  refine AL.clp good (d := 47) rfl rfl rfl rfl rfl rfl rfl (v28 _) (rfl) ?_
  refine AL.clp good (d := 48) rfl rfl rfl rfl rfl rfl rfl (v31 (intV (-9223372036854775808))) (rfl) ?_
  refine AL.clp good (d := 49) rfl rfl rfl rfl rfl rfl rfl (v28 _) (rfl) ?_
  refine AL.clp good (d := 50) rfl rfl rfl rfl rfl rfl rfl (v31 (intV (-1))) (rfl) ?_
  refine AL.lit good (d := 51) rfl rfl rfl rfl rfl rfl rfl rfl rfl 9 rfl ?_
  refine AL.clo good (d := 52) rfl rfl rfl rfl rfl rfl rfl (v30 ⟨#[100, 105, 118]⟩ [litE (intV (-9223372036854775808)), litE (intV (-1))]) (rfl) (rfl) ?_
  refine AL.v good (d := 53) rfl rfl rfl rfl ?_
  refine AL.clp good (d := 54) rfl rfl rfl rfl rfl rfl rfl (w23 (opE ⟨#[100, 105, 118]⟩ [litE (intV (-9223372036854775808)), litE (intV (-1))]) (intV 9223372036854775807) ((intV (-9223372036854775808), 0)) (by rfl)) (rfl) ?_
  refine AL.v good (d := 46) rfl rfl rfl rfl ?_
  refine AL.v good (d := 55) rfl rfl rfl rfl ?_
  refine AL.v good (d := 56) rfl rfl rfl rfl ?_
  refine AL.alc good (d := 9) rfl rfl rfl rfl rfl 10 rfl ?_
  refine AL.st good rfl rfl rfl rfl rfl rfl rfl rfl rfl rfl rfl ?_
  refine AL.v good (d := 10) rfl rfl rfl rfl ?_
  refine AW.seq ?_
  refine AW.region (M := fun _ => true) ?_
  refine AL.v good (d := 57) rfl rfl rfl rfl ?_
  refine AL.v good (d := 58) rfl rfl rfl rfl ?_
  refine AL.v good (d := 59) rfl rfl rfl rfl ?_
  refine AL.v good (d := 60) rfl rfl rfl rfl ?_
  refine AL.v good (d := 61) rfl rfl rfl rfl ?_
  refine AL.v good (d := 62) rfl rfl rfl rfl ?_
  refine AL.v good (d := 63) rfl rfl rfl rfl ?_
  refine AL.cs 63 rfl (fun _ => ?_) (fun h => absurd h (by decide))
  refine AL.v good (d := 64) rfl rfl rfl rfl ?_
  refine AL.v good (d := 65) rfl rfl rfl rfl ?_
  refine AL.v good (d := 66) rfl rfl rfl rfl ?_
  refine AL.v good (d := 67) rfl rfl rfl rfl ?_
  refine AL.v good (d := 68) rfl rfl rfl rfl ?_
  refine AL.cs 68 rfl (fun _ => ?_) (fun h => absurd h (by decide))
  refine AL.v good (d := 69) rfl rfl rfl rfl ?_
  refine AL.v good (d := 70) rfl rfl rfl rfl ?_
  refine AL.v good (d := 71) rfl rfl rfl rfl ?_
  refine AL.v good (d := 72) rfl rfl rfl rfl ?_
  refine AL.v good (d := 73) rfl rfl rfl rfl ?_
  refine AL.cs 73 rfl (fun _ => ?_) (fun h => absurd h (by decide))
  refine AL.v good (d := 74) rfl rfl rfl rfl ?_
  refine AL.v good (d := 75) rfl rfl rfl rfl ?_
  refine AL.v good (d := 76) rfl rfl rfl rfl ?_
  refine AL.v good (d := 77) rfl rfl rfl rfl ?_
  refine AL.v good (d := 78) rfl rfl rfl rfl ?_
  refine AL.cs 78 rfl (fun _ => ?_) (fun h => absurd h (by decide))
  refine AL.v good (d := 79) rfl rfl rfl rfl ?_
  refine AL.v good (d := 80) rfl rfl rfl rfl ?_
  refine AL.v good (d := 81) rfl rfl rfl rfl ?_
  refine AL.v good (d := 82) rfl rfl rfl rfl ?_
  refine AL.cs 82 rfl (fun _ => ?_) (fun h => absurd h (by decide))
  refine AL.v good (d := 83) rfl rfl rfl rfl ?_
  refine AL.v good (d := 84) rfl rfl rfl rfl ?_
  refine AL.v good (d := 85) rfl rfl rfl rfl ?_
  refine AL.v good (d := 86) rfl rfl rfl rfl ?_
  refine AL.v good (d := 0) rfl rfl rfl rfl ?_
  refine AW.ret ?_
  refine RetQ.mk good (.inr rfl) rfl rfl ?_
  exact rfl

end Go.Proofs.Ytbcjcekoonebiaa.Tl
