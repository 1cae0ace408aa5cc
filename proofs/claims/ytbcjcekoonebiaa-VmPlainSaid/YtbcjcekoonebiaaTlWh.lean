/- Walks: EvalLazy. Conditions: none. -/
import Derived.Test.YtbcjcekoonebiaaTlWg
set_option linter.unusedVariables false
set_option linter.unusedSimpArgs false
namespace Go.Proofs.Ytbcjcekoonebiaa.Tl
open Go Go.RowKit

theorem w5_true_true (n : Int) : ACall Try.prog 5 [.bool true, .bool true, .int .i64 n] (.bool true) := by
  refine ACall.go [(0, .bool true), (1, .bool true), (2, .int .i64 n)] Try.func5 rfl Try.ntmps5 rfl rfl rfl ?_
  refine AW.seq ?_
  refine AW.region (M := fun _ => true) ?_
  refine AL.v good (d := 6) rfl rfl rfl rfl ?_
  refine AW.seq ?_
  refine AW.seq ?_
  refine AW.region (M := fun _ => true) ?_
  refine AL.clp good (d := 21) rfl rfl rfl rfl rfl rfl rfl (w16) (rfl) ?_
  refine AL.v good (d := 22) rfl rfl rfl rfl ?_
  refine AW.if rfl (fun h => by cases h) (fun _ => ?_)
  refine AW.skip ?_
  refine AW.seq ?_
  refine AW.region (M := fun _ => true) ?_
  refine AL.v good (d := 23) rfl rfl rfl rfl ?_
  refine AL.clp good (d := 24) rfl rfl rfl rfl rfl rfl rfl (v28 _) (rfl) ?_
  refine AL.clp good (d := 25) rfl rfl rfl rfl rfl rfl rfl (v31 (intV n)) (rfl) ?_
  refine AL.clp good (d := 26) rfl rfl rfl rfl rfl rfl rfl (v28 _) (rfl) ?_
  refine AL.clp good (d := 27) rfl rfl rfl rfl rfl rfl rfl (v31 (intV 0)) (rfl) ?_
  refine AL.lit good (d := 28) rfl rfl rfl rfl rfl rfl rfl rfl rfl 0 rfl ?_
  refine AL.clo good (d := 29) rfl rfl rfl rfl rfl rfl rfl (v30 ⟨#[100, 105, 118]⟩ [litE (intV n), litE (intV 0)]) (rfl) (rfl) ?_
  refine AL.clp good (d := 30) rfl rfl rfl rfl rfl rfl rfl (v29) (rfl) ?_
  refine AL.lit good (d := 31) rfl rfl rfl rfl rfl rfl rfl rfl rfl 1 rfl ?_
  refine AL.clo good (d := 32) rfl rfl rfl rfl rfl rfl rfl (v30 ⟨#[101, 113]⟩ [opE ⟨#[100, 105, 118]⟩ [litE (intV n), litE (intV 0)], xE]) (rfl) (rfl) ?_
  refine AL.alc good (d := 7) rfl rfl rfl rfl rfl 2 rfl ?_
  refine AL.st good rfl rfl rfl rfl rfl rfl rfl rfl rfl rfl rfl ?_
  refine AW.seq ?_
  refine AW.region (M := fun _ => true) ?_
  refine AL.v good (d := 33) rfl rfl rfl rfl ?_
  refine AL.clp good (d := 34) rfl rfl rfl rfl rfl rfl rfl (v32 _) (rfl) ?_
  refine AL.clp good (d := 35) rfl rfl rfl rfl rfl rfl rfl (v31 (boolV true)) (rfl) ?_
  refine AL.alc good (d := 8) rfl rfl rfl rfl rfl 3 rfl ?_
  refine AL.st good rfl rfl rfl rfl rfl rfl rfl rfl rfl rfl rfl ?_
  refine AW.seq ?_
  refine AW.region (M := fun _ => true) ?_
  refine AL.v good (d := 36) rfl rfl rfl rfl ?_
  refine AL.clp good (d := 37) rfl rfl rfl rfl rfl rfl rfl (v32 _) (rfl) ?_
  refine AL.clp good (d := 38) rfl rfl rfl rfl rfl rfl rfl (v31 (boolV true)) (rfl) ?_
  refine AL.alc good (d := 9) rfl rfl rfl rfl rfl 4 rfl ?_
  refine AL.st good rfl rfl rfl rfl rfl rfl rfl rfl rfl rfl rfl ?_
  refine AW.seq ?_
  refine AW.region (M := fun _ => true) ?_
  refine AL.v good (d := 39) rfl rfl rfl rfl ?_
  refine AL.clp good (d := 40) rfl rfl rfl rfl rfl rfl rfl (v28 _) (rfl) ?_
  refine AL.alc good (d := 10) rfl rfl rfl rfl rfl 5 rfl ?_
  refine AL.st good rfl rfl rfl rfl rfl rfl rfl rfl rfl rfl rfl ?_
  refine AW.seq ?_
  refine AW.draw (M := fun i => Nat.beq i 10) good.wide (by kernel_rfl) ?_
  refine AL.v good (d := 42) rfl rfl rfl rfl ?_
  refine AL.v good (d := 43) rfl rfl rfl rfl ?_
  refine AL.lit good (d := 44) rfl rfl rfl rfl rfl rfl rfl rfl rfl 6 rfl ?_
  refine AL.clo good (d := 45) rfl rfl rfl rfl rfl rfl rfl (v30 ⟨#[97, 110, 100]⟩ [litE (boolV true), litE (boolV true)]) (rfl) (rfl) ?_
  refine AL.v good (d := 46) rfl rfl rfl rfl ?_
  refine AL.clp good (d := 47) rfl rfl rfl rfl rfl rfl rfl (w23 (opE ⟨#[97, 110, 100]⟩ [litE (boolV true), litE (boolV true)]) (intV n) ((boolV true, 0)) (by rfl)) (rfl) ?_
  refine AL.v good (d := 41) rfl rfl rfl rfl ?_
  refine AL.v good (d := 48) rfl rfl rfl rfl ?_
  refine AL.v good (d := 49) rfl rfl rfl rfl ?_
  refine AL.alc good (d := 11) rfl rfl rfl rfl rfl 7 rfl ?_
  refine AL.st good rfl rfl rfl rfl rfl rfl rfl rfl rfl rfl rfl ?_
  refine AL.v good (d := 12) rfl rfl rfl rfl ?_
  refine AW.seq ?_
  refine AW.draw (M := fun i => Nat.beq i 10) good.wide (by kernel_rfl) ?_
  refine AL.v good (d := 51) rfl rfl rfl rfl ?_
  refine AL.v good (d := 52) rfl rfl rfl rfl ?_
  refine AL.lit good (d := 53) rfl rfl rfl rfl rfl rfl rfl rfl rfl 8 rfl ?_
  refine AL.clo good (d := 54) rfl rfl rfl rfl rfl rfl rfl (v30 ⟨#[111, 114]⟩ [litE (boolV true), litE (boolV true)]) (rfl) (rfl) ?_
  refine AL.v good (d := 55) rfl rfl rfl rfl ?_
  refine AL.clp good (d := 56) rfl rfl rfl rfl rfl rfl rfl (w23 (opE ⟨#[111, 114]⟩ [litE (boolV true), litE (boolV true)]) (intV n) ((boolV true, 0)) (by rfl)) (rfl) ?_
  refine AL.v good (d := 50) rfl rfl rfl rfl ?_
  refine AL.v good (d := 57) rfl rfl rfl rfl ?_
  refine AL.v good (d := 58) rfl rfl rfl rfl ?_
  refine AL.alc good (d := 13) rfl rfl rfl rfl rfl 9 rfl ?_
  refine AL.st good rfl rfl rfl rfl rfl rfl rfl rfl rfl rfl rfl ?_
  refine AL.v good (d := 14) rfl rfl rfl rfl ?_
  refine AW.seq ?_
  refine AW.draw (M := fun i => Nat.beq i 10) good.wide (by kernel_rfl) ?_
  refine AL.v good (d := 60) rfl rfl rfl rfl ?_
  refine AL.v good (d := 61) rfl rfl rfl rfl ?_
  refine AL.lit good (d := 62) rfl rfl rfl rfl rfl rfl rfl rfl rfl 10 rfl ?_
  refine AL.clo good (d := 63) rfl rfl rfl rfl rfl rfl rfl (v30 ⟨#[97, 110, 100]⟩ [litE (boolV true), opE ⟨#[101, 113]⟩ [opE ⟨#[100, 105, 118]⟩ [litE (intV n), litE (intV 0)], xE]]) (rfl) (rfl) ?_
  refine AL.v good (d := 64) rfl rfl rfl rfl ?_
  refine AL.clp good (d := 65) rfl rfl rfl rfl rfl rfl rfl (w23 (opE ⟨#[97, 110, 100]⟩ [litE (boolV true), opE ⟨#[101, 113]⟩ [opE ⟨#[100, 105, 118]⟩ [litE (intV n), litE (intV 0)], xE]]) (intV n) ((zeroV, 8)) (by rfl)) (rfl) ?_
  refine AL.v good (d := 59) rfl rfl rfl rfl ?_
  refine AL.v good (d := 66) rfl rfl rfl rfl ?_
  refine AL.v good (d := 67) rfl rfl rfl rfl ?_
  refine AL.alc good (d := 15) rfl rfl rfl rfl rfl 11 rfl ?_
  refine AL.st good rfl rfl rfl rfl rfl rfl rfl rfl rfl rfl rfl ?_
  refine AL.v good (d := 16) rfl rfl rfl rfl ?_
  refine AW.seq ?_
  refine AW.draw (M := fun i => Nat.beq i 10) good.wide (by kernel_rfl) ?_
  refine AL.v good (d := 69) rfl rfl rfl rfl ?_
  refine AL.v good (d := 70) rfl rfl rfl rfl ?_
  refine AL.lit good (d := 71) rfl rfl rfl rfl rfl rfl rfl rfl rfl 12 rfl ?_
  refine AL.clo good (d := 72) rfl rfl rfl rfl rfl rfl rfl (v30 ⟨#[111, 114]⟩ [litE (boolV true), opE ⟨#[101, 113]⟩ [opE ⟨#[100, 105, 118]⟩ [litE (intV n), litE (intV 0)], xE]]) (rfl) (rfl) ?_
  refine AL.v good (d := 73) rfl rfl rfl rfl ?_
  refine AL.clp good (d := 74) rfl rfl rfl rfl rfl rfl rfl (w23 (opE ⟨#[111, 114]⟩ [litE (boolV true), opE ⟨#[101, 113]⟩ [opE ⟨#[100, 105, 118]⟩ [litE (intV n), litE (intV 0)], xE]]) (intV n) ((boolV true, 0)) (by rfl)) (rfl) ?_
  refine AL.v good (d := 68) rfl rfl rfl rfl ?_
  refine AL.v good (d := 75) rfl rfl rfl rfl ?_
  refine AL.v good (d := 76) rfl rfl rfl rfl ?_
  refine AL.alc good (d := 17) rfl rfl rfl rfl rfl 13 rfl ?_
  refine AL.st good rfl rfl rfl rfl rfl rfl rfl rfl rfl rfl rfl ?_
  refine AL.v good (d := 18) rfl rfl rfl rfl ?_
  refine AW.seq ?_
  refine AW.draw (M := fun i => Nat.beq i 11) good.wide (by kernel_rfl) ?_
  refine AL.v good (d := 78) rfl rfl rfl rfl ?_
  refine AL.v good (d := 79) rfl rfl rfl rfl ?_
  refine AL.v good (d := 80) rfl rfl rfl rfl ?_
  refine AL.lit good (d := 81) rfl rfl rfl rfl rfl rfl rfl rfl rfl 14 rfl ?_
  refine AL.clo good (d := 82) rfl rfl rfl rfl rfl rfl rfl (v30 ⟨#[105, 102]⟩ [litE (boolV true), litE (boolV true), opE ⟨#[101, 113]⟩ [opE ⟨#[100, 105, 118]⟩ [litE (intV n), litE (intV 0)], xE]]) (rfl) (rfl) ?_
  refine AL.v good (d := 83) rfl rfl rfl rfl ?_
  refine AL.clp good (d := 84) rfl rfl rfl rfl rfl rfl rfl (w23 (opE ⟨#[105, 102]⟩ [litE (boolV true), litE (boolV true), opE ⟨#[101, 113]⟩ [opE ⟨#[100, 105, 118]⟩ [litE (intV n), litE (intV 0)], xE]]) (intV n) ((boolV true, 0)) (by rfl)) (rfl) ?_
  refine AL.v good (d := 77) rfl rfl rfl rfl ?_
  refine AL.v good (d := 85) rfl rfl rfl rfl ?_
  refine AL.v good (d := 86) rfl rfl rfl rfl ?_
  refine AL.alc good (d := 19) rfl rfl rfl rfl rfl 15 rfl ?_
  refine AL.st good rfl rfl rfl rfl rfl rfl rfl rfl rfl rfl rfl ?_
  refine AL.v good (d := 20) rfl rfl rfl rfl ?_
  refine AW.seq ?_
  refine AW.seq ?_
  refine AW.region (M := fun _ => true) ?_
  refine AL.v good (d := 87) rfl rfl rfl rfl ?_
  refine AL.v good (d := 88) rfl rfl rfl rfl ?_
  refine AL.v good (d := 89) rfl rfl rfl rfl ?_
  refine AL.v good (d := 90) rfl rfl rfl rfl ?_
  refine AL.v good (d := 91) rfl rfl rfl rfl ?_
  refine AL.cs 91 rfl (fun h => absurd h (by decide)) (fun _ => ?_)
  refine AL.v good (d := 92) rfl rfl rfl rfl ?_
  refine AL.v good (d := 93) rfl rfl rfl rfl ?_
  refine AL.v good (d := 94) rfl rfl rfl rfl ?_
  refine AL.v good (d := 95) rfl rfl rfl rfl ?_
  refine AL.v good (d := 96) rfl rfl rfl rfl ?_
  refine AL.v good (d := 97) rfl rfl rfl rfl ?_
  refine AL.v good (d := 98) rfl rfl rfl rfl ?_
  refine AL.v good (d := 99) rfl rfl rfl rfl ?_
  refine AL.v good (d := 100) rfl rfl rfl rfl ?_
  refine AL.cs 100 rfl (fun h => absurd h (by decide)) (fun _ => ?_)
  refine AL.v good (d := 101) rfl rfl rfl rfl ?_
  refine AL.v good (d := 102) rfl rfl rfl rfl ?_
  refine AL.v good (d := 103) rfl rfl rfl rfl ?_
  refine AL.v good (d := 104) rfl rfl rfl rfl ?_
  refine AL.sk good (d := 105) rfl rfl rfl ?_
  refine AL.v good (d := 106) rfl rfl rfl rfl ?_
  refine AL.v good (d := 107) rfl rfl rfl rfl ?_
  refine AL.v good (d := 108) rfl rfl rfl rfl ?_
  refine AW.if rfl (fun h => absurd h (by decide)) (fun _ => ?_)
  refine AW.skip ?_
  refine AW.seq ?_
  refine AW.seq ?_
  refine AW.region (M := fun _ => true) ?_
  refine AL.v good (d := 109) rfl rfl rfl rfl ?_
  refine AW.if rfl (fun _ => ?_) (fun h => by cases h)
  refine AW.seq ?_
  refine AW.region (M := fun _ => true) ?_
  refine AL.v good (d := 110) rfl rfl rfl rfl ?_
  refine AL.v good (d := 111) rfl rfl rfl rfl ?_
  refine AL.v good (d := 112) rfl rfl rfl rfl ?_
  refine AL.cs 112 rfl (fun _ => ?_) (fun h => absurd h (by decide))
  refine AL.v good (d := 113) rfl rfl rfl rfl ?_
  refine AL.v good (d := 114) rfl rfl rfl rfl ?_
  refine AL.v good (d := 115) rfl rfl rfl rfl ?_
  refine AL.v good (d := 116) rfl rfl rfl rfl ?_
  refine AL.cs 116 rfl (fun _ => ?_) (fun h => absurd h (by decide))
  refine AL.v good (d := 117) rfl rfl rfl rfl ?_
  refine AL.v good (d := 118) rfl rfl rfl rfl ?_
  refine AL.v good (d := 119) rfl rfl rfl rfl ?_
  refine AL.v good (d := 120) rfl rfl rfl rfl ?_
  refine AL.cs 120 rfl (fun _ => ?_) (fun h => absurd h (by decide))
  refine AL.v good (d := 121) rfl rfl rfl rfl ?_
  refine AL.v good (d := 122) rfl rfl rfl rfl ?_
  refine AL.v good (d := 123) rfl rfl rfl rfl ?_
  refine AL.v good (d := 124) rfl rfl rfl rfl ?_
  refine AL.cs 124 rfl (fun _ => ?_) (fun h => absurd h (by decide))
  refine AL.v good (d := 125) rfl rfl rfl rfl ?_
  refine AL.v good (d := 126) rfl rfl rfl rfl ?_
  refine AL.v good (d := 127) rfl rfl rfl rfl ?_
  refine AL.v good (d := 128) rfl rfl rfl rfl ?_
  refine AL.v good (d := 129) rfl rfl rfl rfl ?_
  refine AL.v good (d := 6) rfl rfl rfl rfl ?_
  refine AW.ret ?_
  refine RetQ.mk good (.inr rfl) rfl rfl ?_
  exact rfl

theorem w5_true_false (n : Int) : ACall Try.prog 5 [.bool true, .bool false, .int .i64 n] (.bool true) := by
  refine ACall.go [(0, .bool true), (1, .bool false), (2, .int .i64 n)] Try.func5 rfl Try.ntmps5 rfl rfl rfl ?_
  refine AW.seq ?_
  refine AW.region (M := fun _ => true) ?_
  refine AL.v good (d := 6) rfl rfl rfl rfl ?_
  refine AW.seq ?_
  refine AW.seq ?_
  refine AW.region (M := fun _ => true) ?_
  refine AL.clp good (d := 21) rfl rfl rfl rfl rfl rfl rfl (w16) (rfl) ?_
  refine AL.v good (d := 22) rfl rfl rfl rfl ?_
  refine AW.if rfl (fun h => by cases h) (fun _ => ?_)
  refine AW.skip ?_
  refine AW.seq ?_
  refine AW.region (M := fun _ => true) ?_
  refine AL.v good (d := 23) rfl rfl rfl rfl ?_
  refine AL.clp good (d := 24) rfl rfl rfl rfl rfl rfl rfl (v28 _) (rfl) ?_
  refine AL.clp good (d := 25) rfl rfl rfl rfl rfl rfl rfl (v31 (intV n)) (rfl) ?_
  refine AL.clp good (d := 26) rfl rfl rfl rfl rfl rfl rfl (v28 _) (rfl) ?_
  refine AL.clp good (d := 27) rfl rfl rfl rfl rfl rfl rfl (v31 (intV 0)) (rfl) ?_
  refine AL.lit good (d := 28) rfl rfl rfl rfl rfl rfl rfl rfl rfl 0 rfl ?_
  refine AL.clo good (d := 29) rfl rfl rfl rfl rfl rfl rfl (v30 ⟨#[100, 105, 118]⟩ [litE (intV n), litE (intV 0)]) (rfl) (rfl) ?_
  refine AL.clp good (d := 30) rfl rfl rfl rfl rfl rfl rfl (v29) (rfl) ?_
  refine AL.lit good (d := 31) rfl rfl rfl rfl rfl rfl rfl rfl rfl 1 rfl ?_
  refine AL.clo good (d := 32) rfl rfl rfl rfl rfl rfl rfl (v30 ⟨#[101, 113]⟩ [opE ⟨#[100, 105, 118]⟩ [litE (intV n), litE (intV 0)], xE]) (rfl) (rfl) ?_
  refine AL.alc good (d := 7) rfl rfl rfl rfl rfl 2 rfl ?_
  refine AL.st good rfl rfl rfl rfl rfl rfl rfl rfl rfl rfl rfl ?_
  refine AW.seq ?_
  refine AW.region (M := fun _ => true) ?_
  refine AL.v good (d := 33) rfl rfl rfl rfl ?_
  refine AL.clp good (d := 34) rfl rfl rfl rfl rfl rfl rfl (v32 _) (rfl) ?_
  refine AL.clp good (d := 35) rfl rfl rfl rfl rfl rfl rfl (v31 (boolV true)) (rfl) ?_
  refine AL.alc good (d := 8) rfl rfl rfl rfl rfl 3 rfl ?_
  refine AL.st good rfl rfl rfl rfl rfl rfl rfl rfl rfl rfl rfl ?_
  refine AW.seq ?_
  refine AW.region (M := fun _ => true) ?_
  refine AL.v good (d := 36) rfl rfl rfl rfl ?_
  refine AL.clp good (d := 37) rfl rfl rfl rfl rfl rfl rfl (v32 _) (rfl) ?_
  refine AL.clp good (d := 38) rfl rfl rfl rfl rfl rfl rfl (v31 (boolV false)) (rfl) ?_
  refine AL.alc good (d := 9) rfl rfl rfl rfl rfl 4 rfl ?_
  refine AL.st good rfl rfl rfl rfl rfl rfl rfl rfl rfl rfl rfl ?_
  refine AW.seq ?_
  refine AW.region (M := fun _ => true) ?_
  refine AL.v good (d := 39) rfl rfl rfl rfl ?_
  refine AL.clp good (d := 40) rfl rfl rfl rfl rfl rfl rfl (v28 _) (rfl) ?_
  refine AL.alc good (d := 10) rfl rfl rfl rfl rfl 5 rfl ?_
  refine AL.st good rfl rfl rfl rfl rfl rfl rfl rfl rfl rfl rfl ?_
  refine AW.seq ?_
  refine AW.draw (M := fun i => Nat.beq i 10) good.wide (by kernel_rfl) ?_
  refine AL.v good (d := 42) rfl rfl rfl rfl ?_
  refine AL.v good (d := 43) rfl rfl rfl rfl ?_
  refine AL.lit good (d := 44) rfl rfl rfl rfl rfl rfl rfl rfl rfl 6 rfl ?_
  refine AL.clo good (d := 45) rfl rfl rfl rfl rfl rfl rfl (v30 ⟨#[97, 110, 100]⟩ [litE (boolV true), litE (boolV false)]) (rfl) (rfl) ?_
  refine AL.v good (d := 46) rfl rfl rfl rfl ?_
  refine AL.clp good (d := 47) rfl rfl rfl rfl rfl rfl rfl (w23 (opE ⟨#[97, 110, 100]⟩ [litE (boolV true), litE (boolV false)]) (intV n) ((boolV false, 0)) (by rfl)) (rfl) ?_
  refine AL.v good (d := 41) rfl rfl rfl rfl ?_
  refine AL.v good (d := 48) rfl rfl rfl rfl ?_
  refine AL.v good (d := 49) rfl rfl rfl rfl ?_
  refine AL.alc good (d := 11) rfl rfl rfl rfl rfl 7 rfl ?_
  refine AL.st good rfl rfl rfl rfl rfl rfl rfl rfl rfl rfl rfl ?_
  refine AL.v good (d := 12) rfl rfl rfl rfl ?_
  refine AW.seq ?_
  refine AW.draw (M := fun i => Nat.beq i 10) good.wide (by kernel_rfl) ?_
  refine AL.v good (d := 51) rfl rfl rfl rfl ?_
  refine AL.v good (d := 52) rfl rfl rfl rfl ?_
  refine AL.lit good (d := 53) rfl rfl rfl rfl rfl rfl rfl rfl rfl 8 rfl ?_
  refine AL.clo good (d := 54) rfl rfl rfl rfl rfl rfl rfl (v30 ⟨#[111, 114]⟩ [litE (boolV true), litE (boolV false)]) (rfl) (rfl) ?_
  refine AL.v good (d := 55) rfl rfl rfl rfl ?_
  refine AL.clp good (d := 56) rfl rfl rfl rfl rfl rfl rfl (w23 (opE ⟨#[111, 114]⟩ [litE (boolV true), litE (boolV false)]) (intV n) ((boolV true, 0)) (by rfl)) (rfl) ?_
  refine AL.v good (d := 50) rfl rfl rfl rfl ?_
  refine AL.v good (d := 57) rfl rfl rfl rfl ?_
  refine AL.v good (d := 58) rfl rfl rfl rfl ?_
  refine AL.alc good (d := 13) rfl rfl rfl rfl rfl 9 rfl ?_
  refine AL.st good rfl rfl rfl rfl rfl rfl rfl rfl rfl rfl rfl ?_
  refine AL.v good (d := 14) rfl rfl rfl rfl ?_
  refine AW.seq ?_
  refine AW.draw (M := fun i => Nat.beq i 10) good.wide (by kernel_rfl) ?_
  refine AL.v good (d := 60) rfl rfl rfl rfl ?_
  refine AL.v good (d := 61) rfl rfl rfl rfl ?_
  refine AL.lit good (d := 62) rfl rfl rfl rfl rfl rfl rfl rfl rfl 10 rfl ?_
  refine AL.clo good (d := 63) rfl rfl rfl rfl rfl rfl rfl (v30 ⟨#[97, 110, 100]⟩ [litE (boolV true), opE ⟨#[101, 113]⟩ [opE ⟨#[100, 105, 118]⟩ [litE (intV n), litE (intV 0)], xE]]) (rfl) (rfl) ?_
  refine AL.v good (d := 64) rfl rfl rfl rfl ?_
  refine AL.clp good (d := 65) rfl rfl rfl rfl rfl rfl rfl (w23 (opE ⟨#[97, 110, 100]⟩ [litE (boolV true), opE ⟨#[101, 113]⟩ [opE ⟨#[100, 105, 118]⟩ [litE (intV n), litE (intV 0)], xE]]) (intV n) ((zeroV, 8)) (by rfl)) (rfl) ?_
  refine AL.v good (d := 59) rfl rfl rfl rfl ?_
  refine AL.v good (d := 66) rfl rfl rfl rfl ?_
  refine AL.v good (d := 67) rfl rfl rfl rfl ?_
  refine AL.alc good (d := 15) rfl rfl rfl rfl rfl 11 rfl ?_
  refine AL.st good rfl rfl rfl rfl rfl rfl rfl rfl rfl rfl rfl ?_
  refine AL.v good (d := 16) rfl rfl rfl rfl ?_
  refine AW.seq ?_
  refine AW.draw (M := fun i => Nat.beq i 10) good.wide (by kernel_rfl) ?_
  refine AL.v good (d := 69) rfl rfl rfl rfl ?_
  refine AL.v good (d := 70) rfl rfl rfl rfl ?_
  refine AL.lit good (d := 71) rfl rfl rfl rfl rfl rfl rfl rfl rfl 12 rfl ?_
  refine AL.clo good (d := 72) rfl rfl rfl rfl rfl rfl rfl (v30 ⟨#[111, 114]⟩ [litE (boolV true), opE ⟨#[101, 113]⟩ [opE ⟨#[100, 105, 118]⟩ [litE (intV n), litE (intV 0)], xE]]) (rfl) (rfl) ?_
  refine AL.v good (d := 73) rfl rfl rfl rfl ?_
  refine AL.clp good (d := 74) rfl rfl rfl rfl rfl rfl rfl (w23 (opE ⟨#[111, 114]⟩ [litE (boolV true), opE ⟨#[101, 113]⟩ [opE ⟨#[100, 105, 118]⟩ [litE (intV n), litE (intV 0)], xE]]) (intV n) ((boolV true, 0)) (by rfl)) (rfl) ?_
  refine AL.v good (d := 68) rfl rfl rfl rfl ?_
  refine AL.v good (d := 75) rfl rfl rfl rfl ?_
  refine AL.v good (d := 76) rfl rfl rfl rfl ?_
  refine AL.alc good (d := 17) rfl rfl rfl rfl rfl 13 rfl ?_
  refine AL.st good rfl rfl rfl rfl rfl rfl rfl rfl rfl rfl rfl ?_
  refine AL.v good (d := 18) rfl rfl rfl rfl ?_
  refine AW.seq ?_
  refine AW.draw (M := fun i => Nat.beq i 11) good.wide (by kernel_rfl) ?_
  refine AL.v good (d := 78) rfl rfl rfl rfl ?_
  refine AL.v good (d := 79) rfl rfl rfl rfl ?_
  refine AL.v good (d := 80) rfl rfl rfl rfl ?_
  refine AL.lit good (d := 81) rfl rfl rfl rfl rfl rfl rfl rfl rfl 14 rfl ?_
  refine AL.clo good (d := 82) rfl rfl rfl rfl rfl rfl rfl (v30 ⟨#[105, 102]⟩ [litE (boolV true), litE (boolV false), opE ⟨#[101, 113]⟩ [opE ⟨#[100, 105, 118]⟩ [litE (intV n), litE (intV 0)], xE]]) (rfl) (rfl) ?_
  refine AL.v good (d := 83) rfl rfl rfl rfl ?_
  refine AL.clp good (d := 84) rfl rfl rfl rfl rfl rfl rfl (w23 (opE ⟨#[105, 102]⟩ [litE (boolV true), litE (boolV false), opE ⟨#[101, 113]⟩ [opE ⟨#[100, 105, 118]⟩ [litE (intV n), litE (intV 0)], xE]]) (intV n) ((boolV false, 0)) (by rfl)) (rfl) ?_
  refine AL.v good (d := 77) rfl rfl rfl rfl ?_
  refine AL.v good (d := 85) rfl rfl rfl rfl ?_
  refine AL.v good (d := 86) rfl rfl rfl rfl ?_
  refine AL.alc good (d := 19) rfl rfl rfl rfl rfl 15 rfl ?_
  refine AL.st good rfl rfl rfl rfl rfl rfl rfl rfl rfl rfl rfl ?_
  refine AL.v good (d := 20) rfl rfl rfl rfl ?_
  refine AW.seq ?_
  refine AW.seq ?_
  refine AW.region (M := fun _ => true) ?_
  refine AL.v good (d := 87) rfl rfl rfl rfl ?_
  refine AL.v good (d := 88) rfl rfl rfl rfl ?_
  refine AL.v good (d := 89) rfl rfl rfl rfl ?_
  refine AL.v good (d := 90) rfl rfl rfl rfl ?_
  refine AL.v good (d := 91) rfl rfl rfl rfl ?_
  refine AL.cs 91 rfl (fun h => absurd h (by decide)) (fun _ => ?_)
  refine AL.v good (d := 92) rfl rfl rfl rfl ?_
  refine AL.v good (d := 93) rfl rfl rfl rfl ?_
  refine AL.v good (d := 94) rfl rfl rfl rfl ?_
  refine AL.v good (d := 95) rfl rfl rfl rfl ?_
  refine AL.v good (d := 96) rfl rfl rfl rfl ?_
  refine AL.v good (d := 97) rfl rfl rfl rfl ?_
  refine AL.v good (d := 98) rfl rfl rfl rfl ?_
  refine AL.v good (d := 99) rfl rfl rfl rfl ?_
  refine AL.v good (d := 100) rfl rfl rfl rfl ?_
  refine AL.cs 100 rfl (fun h => absurd h (by decide)) (fun _ => ?_)
  refine AL.v good (d := 101) rfl rfl rfl rfl ?_
  refine AL.v good (d := 102) rfl rfl rfl rfl ?_
  refine AL.v good (d := 103) rfl rfl rfl rfl ?_
  refine AL.v good (d := 104) rfl rfl rfl rfl ?_
  refine AL.sk good (d := 105) rfl rfl rfl ?_
  refine AL.v good (d := 106) rfl rfl rfl rfl ?_
  refine AL.v good (d := 107) rfl rfl rfl rfl ?_
  refine AL.v good (d := 108) rfl rfl rfl rfl ?_
  refine AW.if rfl (fun h => absurd h (by decide)) (fun _ => ?_)
  refine AW.skip ?_
  refine AW.seq ?_
  refine AW.seq ?_
  refine AW.region (M := fun _ => true) ?_
  refine AL.v good (d := 109) rfl rfl rfl rfl ?_
  refine AW.if rfl (fun _ => ?_) (fun h => by cases h)
  refine AW.seq ?_
  refine AW.region (M := fun _ => true) ?_
  refine AL.v good (d := 110) rfl rfl rfl rfl ?_
  refine AL.v good (d := 111) rfl rfl rfl rfl ?_
  refine AL.v good (d := 112) rfl rfl rfl rfl ?_
  refine AL.cs 112 rfl (fun _ => ?_) (fun h => absurd h (by decide))
  refine AL.v good (d := 113) rfl rfl rfl rfl ?_
  refine AL.v good (d := 114) rfl rfl rfl rfl ?_
  refine AL.v good (d := 115) rfl rfl rfl rfl ?_
  refine AL.v good (d := 116) rfl rfl rfl rfl ?_
  refine AL.cs 116 rfl (fun _ => ?_) (fun h => absurd h (by decide))
  refine AL.v good (d := 117) rfl rfl rfl rfl ?_
  refine AL.v good (d := 118) rfl rfl rfl rfl ?_
  refine AL.v good (d := 119) rfl rfl rfl rfl ?_
  refine AL.v good (d := 120) rfl rfl rfl rfl ?_
  refine AL.cs 120 rfl (fun _ => ?_) (fun h => absurd h (by decide))
  refine AL.v good (d := 121) rfl rfl rfl rfl ?_
  refine AL.v good (d := 122) rfl rfl rfl rfl ?_
  refine AL.v good (d := 123) rfl rfl rfl rfl ?_
  refine AL.v good (d := 124) rfl rfl rfl rfl ?_
  refine AL.cs 124 rfl (fun _ => ?_) (fun h => absurd h (by decide))
  refine AL.v good (d := 125) rfl rfl rfl rfl ?_
  refine AL.v good (d := 126) rfl rfl rfl rfl ?_
  refine AL.v good (d := 127) rfl rfl rfl rfl ?_
  refine AL.v good (d := 128) rfl rfl rfl rfl ?_
  refine AL.v good (d := 129) rfl rfl rfl rfl ?_
  refine AL.v good (d := 6) rfl rfl rfl rfl ?_
  refine AW.ret ?_
  refine RetQ.mk good (.inr rfl) rfl rfl ?_
  exact rfl

theorem w5_false_true (n : Int) : ACall Try.prog 5 [.bool false, .bool true, .int .i64 n] (.bool true) := by
  refine ACall.go [(0, .bool false), (1, .bool true), (2, .int .i64 n)] Try.func5 rfl Try.ntmps5 rfl rfl rfl ?_
  refine AW.seq ?_
  refine AW.region (M := fun _ => true) ?_
  refine AL.v good (d := 6) rfl rfl rfl rfl ?_
  refine AW.seq ?_
  refine AW.seq ?_
  refine AW.region (M := fun _ => true) ?_
  refine AL.clp good (d := 21) rfl rfl rfl rfl rfl rfl rfl (w16) (rfl) ?_
  refine AL.v good (d := 22) rfl rfl rfl rfl ?_
  refine AW.if rfl (fun h => by cases h) (fun _ => ?_)
  refine AW.skip ?_
  refine AW.seq ?_
  refine AW.region (M := fun _ => true) ?_
  refine AL.v good (d := 23) rfl rfl rfl rfl ?_
  refine AL.clp good (d := 24) rfl rfl rfl rfl rfl rfl rfl (v28 _) (rfl) ?_
  refine AL.clp good (d := 25) rfl rfl rfl rfl rfl rfl rfl (v31 (intV n)) (rfl) ?_
  refine AL.clp good (d := 26) rfl rfl rfl rfl rfl rfl rfl (v28 _) (rfl) ?_
  refine AL.clp good (d := 27) rfl rfl rfl rfl rfl rfl rfl (v31 (intV 0)) (rfl) ?_
  refine AL.lit good (d := 28) rfl rfl rfl rfl rfl rfl rfl rfl rfl 0 rfl ?_
  refine AL.clo good (d := 29) rfl rfl rfl rfl rfl rfl rfl (v30 ⟨#[100, 105, 118]⟩ [litE (intV n), litE (intV 0)]) (rfl) (rfl) ?_
  refine AL.clp good (d := 30) rfl rfl rfl rfl rfl rfl rfl (v29) (rfl) ?_
  refine AL.lit good (d := 31) rfl rfl rfl rfl rfl rfl rfl rfl rfl 1 rfl ?_
  refine AL.clo good (d := 32) rfl rfl rfl rfl rfl rfl rfl (v30 ⟨#[101, 113]⟩ [opE ⟨#[100, 105, 118]⟩ [litE (intV n), litE (intV 0)], xE]) (rfl) (rfl) ?_
  refine AL.alc good (d := 7) rfl rfl rfl rfl rfl 2 rfl ?_
  refine AL.st good rfl rfl rfl rfl rfl rfl rfl rfl rfl rfl rfl ?_
  refine AW.seq ?_
  refine AW.region (M := fun _ => true) ?_
  refine AL.v good (d := 33) rfl rfl rfl rfl ?_
  refine AL.clp good (d := 34) rfl rfl rfl rfl rfl rfl rfl (v32 _) (rfl) ?_
  refine AL.clp good (d := 35) rfl rfl rfl rfl rfl rfl rfl (v31 (boolV false)) (rfl) ?_
  refine AL.alc good (d := 8) rfl rfl rfl rfl rfl 3 rfl ?_
  refine AL.st good rfl rfl rfl rfl rfl rfl rfl rfl rfl rfl rfl ?_
  refine AW.seq ?_
  refine AW.region (M := fun _ => true) ?_
  refine AL.v good (d := 36) rfl rfl rfl rfl ?_
  refine AL.clp good (d := 37) rfl rfl rfl rfl rfl rfl rfl (v32 _) (rfl) ?_
  refine AL.clp good (d := 38) rfl rfl rfl rfl rfl rfl rfl (v31 (boolV true)) (rfl) ?_
  refine AL.alc good (d := 9) rfl rfl rfl rfl rfl 4 rfl ?_
  refine AL.st good rfl rfl rfl rfl rfl rfl rfl rfl rfl rfl rfl ?_
  refine AW.seq ?_
  refine AW.region (M := fun _ => true) ?_
  refine AL.v good (d := 39) rfl rfl rfl rfl ?_
  refine AL.clp good (d := 40) rfl rfl rfl rfl rfl rfl rfl (v28 _) (rfl) ?_
  refine AL.alc good (d := 10) rfl rfl rfl rfl rfl 5 rfl ?_
  refine AL.st good rfl rfl rfl rfl rfl rfl rfl rfl rfl rfl rfl ?_
  refine AW.seq ?_
  refine AW.draw (M := fun i => Nat.beq i 10) good.wide (by kernel_rfl) ?_
  refine AL.v good (d := 42) rfl rfl rfl rfl ?_
  refine AL.v good (d := 43) rfl rfl rfl rfl ?_
  refine AL.lit good (d := 44) rfl rfl rfl rfl rfl rfl rfl rfl rfl 6 rfl ?_
  refine AL.clo good (d := 45) rfl rfl rfl rfl rfl rfl rfl (v30 ⟨#[97, 110, 100]⟩ [litE (boolV false), litE (boolV true)]) (rfl) (rfl) ?_
  refine AL.v good (d := 46) rfl rfl rfl rfl ?_
  refine AL.clp good (d := 47) rfl rfl rfl rfl rfl rfl rfl (w23 (opE ⟨#[97, 110, 100]⟩ [litE (boolV false), litE (boolV true)]) (intV n) ((boolV false, 0)) (by rfl)) (rfl) ?_
  refine AL.v good (d := 41) rfl rfl rfl rfl ?_
  refine AL.v good (d := 48) rfl rfl rfl rfl ?_
  refine AL.v good (d := 49) rfl rfl rfl rfl ?_
  refine AL.alc good (d := 11) rfl rfl rfl rfl rfl 7 rfl ?_
  refine AL.st good rfl rfl rfl rfl rfl rfl rfl rfl rfl rfl rfl ?_
  refine AL.v good (d := 12) rfl rfl rfl rfl ?_
  refine AW.seq ?_
  refine AW.draw (M := fun i => Nat.beq i 10) good.wide (by kernel_rfl) ?_
  refine AL.v good (d := 51) rfl rfl rfl rfl ?_
  refine AL.v good (d := 52) rfl rfl rfl rfl ?_
  refine AL.lit good (d := 53) rfl rfl rfl rfl rfl rfl rfl rfl rfl 8 rfl ?_
  refine AL.clo good (d := 54) rfl rfl rfl rfl rfl rfl rfl (v30 ⟨#[111, 114]⟩ [litE (boolV false), litE (boolV true)]) (rfl) (rfl) ?_
  refine AL.v good (d := 55) rfl rfl rfl rfl ?_
  refine AL.clp good (d := 56) rfl rfl rfl rfl rfl rfl rfl (w23 (opE ⟨#[111, 114]⟩ [litE (boolV false), litE (boolV true)]) (intV n) ((boolV true, 0)) (by rfl)) (rfl) ?_
  refine AL.v good (d := 50) rfl rfl rfl rfl ?_
  refine AL.v good (d := 57) rfl rfl rfl rfl ?_
  refine AL.v good (d := 58) rfl rfl rfl rfl ?_
  refine AL.alc good (d := 13) rfl rfl rfl rfl rfl 9 rfl ?_
  refine AL.st good rfl rfl rfl rfl rfl rfl rfl rfl rfl rfl rfl ?_
  refine AL.v good (d := 14) rfl rfl rfl rfl ?_
  refine AW.seq ?_
  refine AW.draw (M := fun i => Nat.beq i 10) good.wide (by kernel_rfl) ?_
  refine AL.v good (d := 60) rfl rfl rfl rfl ?_
  refine AL.v good (d := 61) rfl rfl rfl rfl ?_
  refine AL.lit good (d := 62) rfl rfl rfl rfl rfl rfl rfl rfl rfl 10 rfl ?_
  refine AL.clo good (d := 63) rfl rfl rfl rfl rfl rfl rfl (v30 ⟨#[97, 110, 100]⟩ [litE (boolV false), opE ⟨#[101, 113]⟩ [opE ⟨#[100, 105, 118]⟩ [litE (intV n), litE (intV 0)], xE]]) (rfl) (rfl) ?_
  refine AL.v good (d := 64) rfl rfl rfl rfl ?_
  refine AL.clp good (d := 65) rfl rfl rfl rfl rfl rfl rfl (w23 (opE ⟨#[97, 110, 100]⟩ [litE (boolV false), opE ⟨#[101, 113]⟩ [opE ⟨#[100, 105, 118]⟩ [litE (intV n), litE (intV 0)], xE]]) (intV n) ((boolV false, 0)) (by rfl)) (rfl) ?_
  refine AL.v good (d := 59) rfl rfl rfl rfl ?_
  refine AL.v good (d := 66) rfl rfl rfl rfl ?_
  refine AL.v good (d := 67) rfl rfl rfl rfl ?_
  refine AL.alc good (d := 15) rfl rfl rfl rfl rfl 11 rfl ?_
  refine AL.st good rfl rfl rfl rfl rfl rfl rfl rfl rfl rfl rfl ?_
  refine AL.v good (d := 16) rfl rfl rfl rfl ?_
  refine AW.seq ?_
  refine AW.draw (M := fun i => Nat.beq i 10) good.wide (by kernel_rfl) ?_
  refine AL.v good (d := 69) rfl rfl rfl rfl ?_
  refine AL.v good (d := 70) rfl rfl rfl rfl ?_
  refine AL.lit good (d := 71) rfl rfl rfl rfl rfl rfl rfl rfl rfl 12 rfl ?_
  refine AL.clo good (d := 72) rfl rfl rfl rfl rfl rfl rfl (v30 ⟨#[111, 114]⟩ [litE (boolV false), opE ⟨#[101, 113]⟩ [opE ⟨#[100, 105, 118]⟩ [litE (intV n), litE (intV 0)], xE]]) (rfl) (rfl) ?_
  refine AL.v good (d := 73) rfl rfl rfl rfl ?_
  refine AL.clp good (d := 74) rfl rfl rfl rfl rfl rfl rfl (w23 (opE ⟨#[111, 114]⟩ [litE (boolV false), opE ⟨#[101, 113]⟩ [opE ⟨#[100, 105, 118]⟩ [litE (intV n), litE (intV 0)], xE]]) (intV n) ((zeroV, 8)) (by rfl)) (rfl) ?_
  refine AL.v good (d := 68) rfl rfl rfl rfl ?_
  refine AL.v good (d := 75) rfl rfl rfl rfl ?_
  refine AL.v good (d := 76) rfl rfl rfl rfl ?_
  refine AL.alc good (d := 17) rfl rfl rfl rfl rfl 13 rfl ?_
  refine AL.st good rfl rfl rfl rfl rfl rfl rfl rfl rfl rfl rfl ?_
  refine AL.v good (d := 18) rfl rfl rfl rfl ?_
  refine AW.seq ?_
  refine AW.draw (M := fun i => Nat.beq i 11) good.wide (by kernel_rfl) ?_
  refine AL.v good (d := 78) rfl rfl rfl rfl ?_
  refine AL.v good (d := 79) rfl rfl rfl rfl ?_
  refine AL.v good (d := 80) rfl rfl rfl rfl ?_
  refine AL.lit good (d := 81) rfl rfl rfl rfl rfl rfl rfl rfl rfl 14 rfl ?_
  refine AL.clo good (d := 82) rfl rfl rfl rfl rfl rfl rfl (v30 ⟨#[105, 102]⟩ [litE (boolV false), litE (boolV true), opE ⟨#[101, 113]⟩ [opE ⟨#[100, 105, 118]⟩ [litE (intV n), litE (intV 0)], xE]]) (rfl) (rfl) ?_
  refine AL.v good (d := 83) rfl rfl rfl rfl ?_
  refine AL.clp good (d := 84) rfl rfl rfl rfl rfl rfl rfl (w23 (opE ⟨#[105, 102]⟩ [litE (boolV false), litE (boolV true), opE ⟨#[101, 113]⟩ [opE ⟨#[100, 105, 118]⟩ [litE (intV n), litE (intV 0)], xE]]) (intV n) ((zeroV, 8)) (by rfl)) (rfl) ?_
  refine AL.v good (d := 77) rfl rfl rfl rfl ?_
  refine AL.v good (d := 85) rfl rfl rfl rfl ?_
  refine AL.v good (d := 86) rfl rfl rfl rfl ?_
  refine AL.alc good (d := 19) rfl rfl rfl rfl rfl 15 rfl ?_
  refine AL.st good rfl rfl rfl rfl rfl rfl rfl rfl rfl rfl rfl ?_
  refine AL.v good (d := 20) rfl rfl rfl rfl ?_
  refine AW.seq ?_
  refine AW.seq ?_
  refine AW.region (M := fun _ => true) ?_
  refine AL.v good (d := 87) rfl rfl rfl rfl ?_
  refine AL.v good (d := 88) rfl rfl rfl rfl ?_
  refine AL.v good (d := 89) rfl rfl rfl rfl ?_
  refine AL.v good (d := 90) rfl rfl rfl rfl ?_
  refine AL.v good (d := 91) rfl rfl rfl rfl ?_
  refine AL.cs 91 rfl (fun h => absurd h (by decide)) (fun _ => ?_)
  refine AL.v good (d := 92) rfl rfl rfl rfl ?_
  refine AL.v good (d := 93) rfl rfl rfl rfl ?_
  refine AL.v good (d := 94) rfl rfl rfl rfl ?_
  refine AL.v good (d := 95) rfl rfl rfl rfl ?_
  refine AL.sk good (d := 96) rfl rfl rfl ?_
  refine AL.v good (d := 97) rfl rfl rfl rfl ?_
  refine AL.v good (d := 98) rfl rfl rfl rfl ?_
  refine AL.v good (d := 99) rfl rfl rfl rfl ?_
  refine AL.v good (d := 100) rfl rfl rfl rfl ?_
  refine AL.cs 100 rfl (fun h => absurd h (by decide)) (fun _ => ?_)
  refine AL.v good (d := 101) rfl rfl rfl rfl ?_
  refine AL.v good (d := 102) rfl rfl rfl rfl ?_
  refine AL.v good (d := 103) rfl rfl rfl rfl ?_
  refine AL.v good (d := 104) rfl rfl rfl rfl ?_
  refine AL.v good (d := 105) rfl rfl rfl rfl ?_
  refine AL.v good (d := 106) rfl rfl rfl rfl ?_
  refine AL.v good (d := 107) rfl rfl rfl rfl ?_
  refine AL.v good (d := 108) rfl rfl rfl rfl ?_
  refine AW.if rfl (fun h => absurd h (by decide)) (fun _ => ?_)
  refine AW.skip ?_
  refine AW.seq ?_
  refine AW.seq ?_
  refine AW.region (M := fun _ => true) ?_
  refine AL.v good (d := 109) rfl rfl rfl rfl ?_
  refine AW.if rfl (fun h => by cases h) (fun _ => ?_)
  refine AW.skip ?_
  refine AW.seq ?_
  refine AW.region (M := fun _ => true) ?_
  refine AL.v good (d := 130) rfl rfl rfl rfl ?_
  refine AL.v good (d := 131) rfl rfl rfl rfl ?_
  refine AL.v good (d := 132) rfl rfl rfl rfl ?_
  refine AL.cs 132 rfl (fun _ => ?_) (fun h => absurd h (by decide))
  refine AL.v good (d := 133) rfl rfl rfl rfl ?_
  refine AL.v good (d := 134) rfl rfl rfl rfl ?_
  refine AL.v good (d := 135) rfl rfl rfl rfl ?_
  refine AL.v good (d := 136) rfl rfl rfl rfl ?_
  refine AL.v good (d := 137) rfl rfl rfl rfl ?_
  refine AL.cs 137 rfl (fun _ => ?_) (fun h => absurd h (by decide))
  refine AL.v good (d := 138) rfl rfl rfl rfl ?_
  refine AL.v good (d := 139) rfl rfl rfl rfl ?_
  refine AL.v good (d := 140) rfl rfl rfl rfl ?_
  refine AL.v good (d := 141) rfl rfl rfl rfl ?_
  refine AL.cs 141 rfl (fun _ => ?_) (fun h => absurd h (by decide))
  refine AL.v good (d := 142) rfl rfl rfl rfl ?_
  refine AL.v good (d := 143) rfl rfl rfl rfl ?_
  refine AL.v good (d := 144) rfl rfl rfl rfl ?_
  refine AL.v good (d := 6) rfl rfl rfl rfl ?_
  refine AW.ret ?_
  refine RetQ.mk good (.inr rfl) rfl rfl ?_
  exact rfl

theorem w5_false_false (n : Int) : ACall Try.prog 5 [.bool false, .bool false, .int .i64 n] (.bool true) := by
  refine ACall.go [(0, .bool false), (1, .bool false), (2, .int .i64 n)] Try.func5 rfl Try.ntmps5 rfl rfl rfl ?_
  refine AW.seq ?_
  refine AW.region (M := fun _ => true) ?_
  refine AL.v good (d := 6) rfl rfl rfl rfl ?_
  refine AW.seq ?_
  refine AW.seq ?_
  refine AW.region (M := fun _ => true) ?_
  refine AL.clp good (d := 21) rfl rfl rfl rfl rfl rfl rfl (w16) (rfl) ?_
  refine AL.v good (d := 22) rfl rfl rfl rfl ?_
  refine AW.if rfl (fun h => by cases h) (fun _ => ?_)
  refine AW.skip ?_
  refine AW.seq ?_
  refine AW.region (M := fun _ => true) ?_
  refine AL.v good (d := 23) rfl rfl rfl rfl ?_
  refine AL.clp good (d := 24) rfl rfl rfl rfl rfl rfl rfl (v28 _) (rfl) ?_
  refine AL.clp good (d := 25) rfl rfl rfl rfl rfl rfl rfl (v31 (intV n)) (rfl) ?_
  refine AL.clp good (d := 26) rfl rfl rfl rfl rfl rfl rfl (v28 _) (rfl) ?_
  refine AL.clp good (d := 27) rfl rfl rfl rfl rfl rfl rfl (v31 (intV 0)) (rfl) ?_
  refine AL.lit good (d := 28) rfl rfl rfl rfl rfl rfl rfl rfl rfl 0 rfl ?_
  refine AL.clo good (d := 29) rfl rfl rfl rfl rfl rfl rfl (v30 ⟨#[100, 105, 118]⟩ [litE (intV n), litE (intV 0)]) (rfl) (rfl) ?_
  refine AL.clp good (d := 30) rfl rfl rfl rfl rfl rfl rfl (v29) (rfl) ?_
  refine AL.lit good (d := 31) rfl rfl rfl rfl rfl rfl rfl rfl rfl 1 rfl ?_
  refine AL.clo good (d := 32) rfl rfl rfl rfl rfl rfl rfl (v30 ⟨#[101, 113]⟩ [opE ⟨#[100, 105, 118]⟩ [litE (intV n), litE (intV 0)], xE]) (rfl) (rfl) ?_
  refine AL.alc good (d := 7) rfl rfl rfl rfl rfl 2 rfl ?_
  refine AL.st good rfl rfl rfl rfl rfl rfl rfl rfl rfl rfl rfl ?_
  refine AW.seq ?_
  refine AW.region (M := fun _ => true) ?_
  refine AL.v good (d := 33) rfl rfl rfl rfl ?_
  refine AL.clp good (d := 34) rfl rfl rfl rfl rfl rfl rfl (v32 _) (rfl) ?_
  refine AL.clp good (d := 35) rfl rfl rfl rfl rfl rfl rfl (v31 (boolV false)) (rfl) ?_
  refine AL.alc good (d := 8) rfl rfl rfl rfl rfl 3 rfl ?_
  refine AL.st good rfl rfl rfl rfl rfl rfl rfl rfl rfl rfl rfl ?_
  refine AW.seq ?_
  refine AW.region (M := fun _ => true) ?_
  refine AL.v good (d := 36) rfl rfl rfl rfl ?_
  refine AL.clp good (d := 37) rfl rfl rfl rfl rfl rfl rfl (v32 _) (rfl) ?_
  refine AL.clp good (d := 38) rfl rfl rfl rfl rfl rfl rfl (v31 (boolV false)) (rfl) ?_
  refine AL.alc good (d := 9) rfl rfl rfl rfl rfl 4 rfl ?_
  refine AL.st good rfl rfl rfl rfl rfl rfl rfl rfl rfl rfl rfl ?_
  refine AW.seq ?_
  refine AW.region (M := fun _ => true) ?_
  refine AL.v good (d := 39) rfl rfl rfl rfl ?_
  refine AL.clp good (d := 40) rfl rfl rfl rfl rfl rfl rfl (v28 _) (rfl) ?_
  refine AL.alc good (d := 10) rfl rfl rfl rfl rfl 5 rfl ?_
  refine AL.st good rfl rfl rfl rfl rfl rfl rfl rfl rfl rfl rfl ?_
  refine AW.seq ?_
  refine AW.draw (M := fun i => Nat.beq i 10) good.wide (by kernel_rfl) ?_
  refine AL.v good (d := 42) rfl rfl rfl rfl ?_
  refine AL.v good (d := 43) rfl rfl rfl rfl ?_
  refine AL.lit good (d := 44) rfl rfl rfl rfl rfl rfl rfl rfl rfl 6 rfl ?_
  refine AL.clo good (d := 45) rfl rfl rfl rfl rfl rfl rfl (v30 ⟨#[97, 110, 100]⟩ [litE (boolV false), litE (boolV false)]) (rfl) (rfl) ?_
  refine AL.v good (d := 46) rfl rfl rfl rfl ?_
  refine AL.clp good (d := 47) rfl rfl rfl rfl rfl rfl rfl (w23 (opE ⟨#[97, 110, 100]⟩ [litE (boolV false), litE (boolV false)]) (intV n) ((boolV false, 0)) (by rfl)) (rfl) ?_
  refine AL.v good (d := 41) rfl rfl rfl rfl ?_
  refine AL.v good (d := 48) rfl rfl rfl rfl ?_
  refine AL.v good (d := 49) rfl rfl rfl rfl ?_
  refine AL.alc good (d := 11) rfl rfl rfl rfl rfl 7 rfl ?_
  refine AL.st good rfl rfl rfl rfl rfl rfl rfl rfl rfl rfl rfl ?_
  refine AL.v good (d := 12) rfl rfl rfl rfl ?_
  refine AW.seq ?_
  refine AW.draw (M := fun i => Nat.beq i 10) good.wide (by kernel_rfl) ?_
  refine AL.v good (d := 51) rfl rfl rfl rfl ?_
  refine AL.v good (d := 52) rfl rfl rfl rfl ?_
  refine AL.lit good (d := 53) rfl rfl rfl rfl rfl rfl rfl rfl rfl 8 rfl ?_
  refine AL.clo good (d := 54) rfl rfl rfl rfl rfl rfl rfl (v30 ⟨#[111, 114]⟩ [litE (boolV false), litE (boolV false)]) (rfl) (rfl) ?_
  refine AL.v good (d := 55) rfl rfl rfl rfl ?_
  refine AL.clp good (d := 56) rfl rfl rfl rfl rfl rfl rfl (w23 (opE ⟨#[111, 114]⟩ [litE (boolV false), litE (boolV false)]) (intV n) ((boolV false, 0)) (by rfl)) (rfl) ?_
  refine AL.v good (d := 50) rfl rfl rfl rfl ?_
  refine AL.v good (d := 57) rfl rfl rfl rfl ?_
  refine AL.v good (d := 58) rfl rfl rfl rfl ?_
  refine AL.alc good (d := 13) rfl rfl rfl rfl rfl 9 rfl ?_
  refine AL.st good rfl rfl rfl rfl rfl rfl rfl rfl rfl rfl rfl ?_
  refine AL.v good (d := 14) rfl rfl rfl rfl ?_
  refine AW.seq ?_
  refine AW.draw (M := fun i => Nat.beq i 10) good.wide (by kernel_rfl) ?_
  refine AL.v good (d := 60) rfl rfl rfl rfl ?_
  refine AL.v good (d := 61) rfl rfl rfl rfl ?_
  refine AL.lit good (d := 62) rfl rfl rfl rfl rfl rfl rfl rfl rfl 10 rfl ?_
  refine AL.clo good (d := 63) rfl rfl rfl rfl rfl rfl rfl (v30 ⟨#[97, 110, 100]⟩ [litE (boolV false), opE ⟨#[101, 113]⟩ [opE ⟨#[100, 105, 118]⟩ [litE (intV n), litE (intV 0)], xE]]) (rfl) (rfl) ?_
  refine AL.v good (d := 64) rfl rfl rfl rfl ?_
  refine AL.clp good (d := 65) rfl rfl rfl rfl rfl rfl rfl (w23 (opE ⟨#[97, 110, 100]⟩ [litE (boolV false), opE ⟨#[101, 113]⟩ [opE ⟨#[100, 105, 118]⟩ [litE (intV n), litE (intV 0)], xE]]) (intV n) ((boolV false, 0)) (by rfl)) (rfl) ?_
  refine AL.v good (d := 59) rfl rfl rfl rfl ?_
  refine AL.v good (d := 66) rfl rfl rfl rfl ?_
  refine AL.v good (d := 67) rfl rfl rfl rfl ?_
  refine AL.alc good (d := 15) rfl rfl rfl rfl rfl 11 rfl ?_
  refine AL.st good rfl rfl rfl rfl rfl rfl rfl rfl rfl rfl rfl ?_
  refine AL.v good (d := 16) rfl rfl rfl rfl ?_
  refine AW.seq ?_
  refine AW.draw (M := fun i => Nat.beq i 10) good.wide (by kernel_rfl) ?_
  refine AL.v good (d := 69) rfl rfl rfl rfl ?_
  refine AL.v good (d := 70) rfl rfl rfl rfl ?_
  refine AL.lit good (d := 71) rfl rfl rfl rfl rfl rfl rfl rfl rfl 12 rfl ?_
  refine AL.clo good (d := 72) rfl rfl rfl rfl rfl rfl rfl (v30 ⟨#[111, 114]⟩ [litE (boolV false), opE ⟨#[101, 113]⟩ [opE ⟨#[100, 105, 118]⟩ [litE (intV n), litE (intV 0)], xE]]) (rfl) (rfl) ?_
  refine AL.v good (d := 73) rfl rfl rfl rfl ?_
  refine AL.clp good (d := 74) rfl rfl rfl rfl rfl rfl rfl (w23 (opE ⟨#[111, 114]⟩ [litE (boolV false), opE ⟨#[101, 113]⟩ [opE ⟨#[100, 105, 118]⟩ [litE (intV n), litE (intV 0)], xE]]) (intV n) ((zeroV, 8)) (by rfl)) (rfl) ?_
  refine AL.v good (d := 68) rfl rfl rfl rfl ?_
  refine AL.v good (d := 75) rfl rfl rfl rfl ?_
  refine AL.v good (d := 76) rfl rfl rfl rfl ?_
  refine AL.alc good (d := 17) rfl rfl rfl rfl rfl 13 rfl ?_
  refine AL.st good rfl rfl rfl rfl rfl rfl rfl rfl rfl rfl rfl ?_
  refine AL.v good (d := 18) rfl rfl rfl rfl ?_
  refine AW.seq ?_
  refine AW.draw (M := fun i => Nat.beq i 11) good.wide (by kernel_rfl) ?_
  refine AL.v good (d := 78) rfl rfl rfl rfl ?_
  refine AL.v good (d := 79) rfl rfl rfl rfl ?_
  refine AL.v good (d := 80) rfl rfl rfl rfl ?_
  refine AL.lit good (d := 81) rfl rfl rfl rfl rfl rfl rfl rfl rfl 14 rfl ?_
  refine AL.clo good (d := 82) rfl rfl rfl rfl rfl rfl rfl (v30 ⟨#[105, 102]⟩ [litE (boolV false), litE (boolV false), opE ⟨#[101, 113]⟩ [opE ⟨#[100, 105, 118]⟩ [litE (intV n), litE (intV 0)], xE]]) (rfl) (rfl) ?_
  refine AL.v good (d := 83) rfl rfl rfl rfl ?_
  refine AL.clp good (d := 84) rfl rfl rfl rfl rfl rfl rfl (w23 (opE ⟨#[105, 102]⟩ [litE (boolV false), litE (boolV false), opE ⟨#[101, 113]⟩ [opE ⟨#[100, 105, 118]⟩ [litE (intV n), litE (intV 0)], xE]]) (intV n) ((zeroV, 8)) (by rfl)) (rfl) ?_
  refine AL.v good (d := 77) rfl rfl rfl rfl ?_
  refine AL.v good (d := 85) rfl rfl rfl rfl ?_
  refine AL.v good (d := 86) rfl rfl rfl rfl ?_
  refine AL.alc good (d := 19) rfl rfl rfl rfl rfl 15 rfl ?_
  refine AL.st good rfl rfl rfl rfl rfl rfl rfl rfl rfl rfl rfl ?_
  refine AL.v good (d := 20) rfl rfl rfl rfl ?_
  refine AW.seq ?_
  refine AW.seq ?_
  refine AW.region (M := fun _ => true) ?_
  refine AL.v good (d := 87) rfl rfl rfl rfl ?_
  refine AL.v good (d := 88) rfl rfl rfl rfl ?_
  refine AL.v good (d := 89) rfl rfl rfl rfl ?_
  refine AL.v good (d := 90) rfl rfl rfl rfl ?_
  refine AL.v good (d := 91) rfl rfl rfl rfl ?_
  refine AL.cs 91 rfl (fun h => absurd h (by decide)) (fun _ => ?_)
  refine AL.v good (d := 92) rfl rfl rfl rfl ?_
  refine AL.v good (d := 93) rfl rfl rfl rfl ?_
  refine AL.v good (d := 94) rfl rfl rfl rfl ?_
  refine AL.v good (d := 95) rfl rfl rfl rfl ?_
  refine AL.sk good (d := 96) rfl rfl rfl ?_
  refine AL.v good (d := 97) rfl rfl rfl rfl ?_
  refine AL.v good (d := 98) rfl rfl rfl rfl ?_
  refine AL.v good (d := 99) rfl rfl rfl rfl ?_
  refine AL.v good (d := 100) rfl rfl rfl rfl ?_
  refine AL.cs 100 rfl (fun h => absurd h (by decide)) (fun _ => ?_)
  refine AL.v good (d := 101) rfl rfl rfl rfl ?_
  refine AL.v good (d := 102) rfl rfl rfl rfl ?_
  refine AL.v good (d := 103) rfl rfl rfl rfl ?_
  refine AL.v good (d := 104) rfl rfl rfl rfl ?_
  refine AL.v good (d := 105) rfl rfl rfl rfl ?_
  refine AL.v good (d := 106) rfl rfl rfl rfl ?_
  refine AL.v good (d := 107) rfl rfl rfl rfl ?_
  refine AL.v good (d := 108) rfl rfl rfl rfl ?_
  refine AW.if rfl (fun h => absurd h (by decide)) (fun _ => ?_)
  refine AW.skip ?_
  refine AW.seq ?_
  refine AW.seq ?_
  refine AW.region (M := fun _ => true) ?_
  refine AL.v good (d := 109) rfl rfl rfl rfl ?_
  refine AW.if rfl (fun h => by cases h) (fun _ => ?_)
  refine AW.skip ?_
  refine AW.seq ?_
  refine AW.region (M := fun _ => true) ?_
  refine AL.v good (d := 130) rfl rfl rfl rfl ?_
  refine AL.v good (d := 131) rfl rfl rfl rfl ?_
  refine AL.v good (d := 132) rfl rfl rfl rfl ?_
  refine AL.cs 132 rfl (fun _ => ?_) (fun h => absurd h (by decide))
  refine AL.v good (d := 133) rfl rfl rfl rfl ?_
  refine AL.v good (d := 134) rfl rfl rfl rfl ?_
  refine AL.v good (d := 135) rfl rfl rfl rfl ?_
  refine AL.v good (d := 136) rfl rfl rfl rfl ?_
  refine AL.v good (d := 137) rfl rfl rfl rfl ?_
  refine AL.cs 137 rfl (fun _ => ?_) (fun h => absurd h (by decide))
  refine AL.v good (d := 138) rfl rfl rfl rfl ?_
  refine AL.v good (d := 139) rfl rfl rfl rfl ?_
  refine AL.v good (d := 140) rfl rfl rfl rfl ?_
  refine AL.v good (d := 141) rfl rfl rfl rfl ?_
  refine AL.cs 141 rfl (fun _ => ?_) (fun h => absurd h (by decide))
  refine AL.v good (d := 142) rfl rfl rfl rfl ?_
  refine AL.v good (d := 143) rfl rfl rfl rfl ?_
  refine AL.v good (d := 144) rfl rfl rfl rfl ?_
  refine AL.v good (d := 6) rfl rfl rfl rfl ?_
  refine AW.ret ?_
  refine RetQ.mk good (.inr rfl) rfl rfl ?_
  exact rfl

end Go.Proofs.Ytbcjcekoonebiaa.Tl
