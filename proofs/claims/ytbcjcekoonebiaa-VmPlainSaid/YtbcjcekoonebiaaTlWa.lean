/- Walks: values are made and compared. Conditions: none. -/
import Derived.Test.YtbcjcekoonebiaaTlV
import Derived.Test.YtbcjcekoonebiaaTlTblA
set_option linter.unusedVariables false
set_option linter.unusedSimpArgs false
namespace Go.Proofs.Ytbcjcekoonebiaa.Tl
open Go Go.RowKit

theorem w28 (i : Int) : ACall Try.prog 28 [.int .i64 i] (.agg [.int .i64 1, .int .i64 i, .bool false, .str ⟨#[]⟩, .sl .ro 5 []]) := by
  refine ACall.go [(0, .int .i64 i)] Try.func28 rfl Try.ntmps28 rfl rfl rfl ?_
  refine AW.seq ?_
  refine AW.region (M := fun _ => true) ?_
  refine AL.alc good (d := 2) rfl rfl rfl rfl rfl 0 rfl ?_
  refine AW.seq ?_
  refine AW.region (M := fun _ => true) ?_
  refine AL.v good (d := 3) rfl rfl rfl rfl ?_
  refine AL.bld good (d := 4) rfl rfl rfl rfl rfl rfl rfl ?_
  refine AL.st good rfl rfl rfl rfl rfl rfl rfl rfl rfl rfl rfl ?_
  refine AW.ret ?_
  refine RetQ.mk good (.inr rfl) rfl rfl ?_
  simp [Wk, WkL, fz, fzL, fzR, tupA, spl]

theorem w32 (b : Bool) : ACall Try.prog 32 [.bool b] (.agg [.int .i64 2, .int .i64 0, .bool b, .str ⟨#[]⟩, .sl .ro 5 []]) := by
  refine ACall.go [(0, .bool b)] Try.func32 rfl Try.ntmps32 rfl rfl rfl ?_
  refine AW.seq ?_
  refine AW.region (M := fun _ => true) ?_
  refine AL.alc good (d := 2) rfl rfl rfl rfl rfl 0 rfl ?_
  refine AW.seq ?_
  refine AW.region (M := fun _ => true) ?_
  refine AL.v good (d := 3) rfl rfl rfl rfl ?_
  refine AL.bld good (d := 4) rfl rfl rfl rfl rfl rfl rfl ?_
  refine AL.st good rfl rfl rfl rfl rfl rfl rfl rfl rfl rfl rfl ?_
  refine AW.ret ?_
  refine RetQ.mk good (.inr rfl) rfl rfl ?_
  simp [Wk, WkL, fz, fzL, fzR, tupA, spl]

theorem w33 (s : ByteArray) : ACall Try.prog 33 [.str s] (.agg [.int .i64 3, .int .i64 0, .bool false, .str s, .sl .ro 5 []]) := by
  refine ACall.go [(0, .str s)] Try.func33 rfl Try.ntmps33 rfl rfl rfl ?_
  refine AW.seq ?_
  refine AW.region (M := fun _ => true) ?_
  refine AL.alc good (d := 2) rfl rfl rfl rfl rfl 0 rfl ?_
  refine AW.seq ?_
  refine AW.region (M := fun _ => true) ?_
  refine AL.v good (d := 3) rfl rfl rfl rfl ?_
  refine AL.bld good (d := 4) rfl rfl rfl rfl rfl rfl rfl ?_
  refine AL.st good rfl rfl rfl rfl rfl rfl rfl rfl rfl rfl rfl ?_
  refine AW.ret ?_
  refine RetQ.mk good (.inr rfl) rfl rfl ?_
  simp [Wk, WkL, fz, fzL, fzR, tupA, spl]

theorem w67 (r : List AV) (rows : List (List AV)) (hp : pureR (r :: rows) = true) (hl : rows.length ≤ 1000000) : ACall Try.prog 67 [.sl .ro 5 (r :: rows)] (.sl .ro 5 (r :: rows)) := by
  refine ACall.go [(0, .sl .ro 5 (r :: rows))] Try.func67 rfl Try.ntmps67 rfl rfl (by simpa [pureA, inA] using hp) ?_
  refine AW.seq ?_
  refine AW.region (M := fun _ => true) ?_
  refine AL.v good (d := 2) rfl rfl rfl rfl ?_
  refine AW.seq ?_
  refine AW.seq ?_
  refine AW.region (M := fun _ => true) ?_
  refine AL.v good (d := 3) rfl rfl rfl rfl ?_
  refine AL.v good (d := 4) rfl rfl rfl rfl ?_
  refine AW.if rfl (fun h => by cases h) (fun _ => ?_)
  refine AW.skip ?_
  refine AW.seq ?_
  refine AW.region (M := fun _ => true) ?_
  refine AL.lit good (d := 5) rfl rfl rfl rfl rfl rfl rfl rfl rfl 0 rfl ?_
  refine AL.v good (d := 6) rfl rfl rfl rfl ?_
  refine AL.app good (d := 7) rfl rfl rfl rfl rfl rfl rfl rfl rfl rfl rfl rfl (by simp) (by simp only [List.length_nil, List.length_cons]; omega) (by simp only [List.length_nil, List.length_cons]; omega) ?_
  refine AL.v good (d := 2) rfl rfl rfl rfl ?_
  refine AW.ret ?_
  refine RetQ.mk good (.inr rfl) rfl rfl ?_
  have hq : pureL r = true ∧ pureR rows = true := by simpa [pureR, inR] using hp
  simp [Wk, WkL, fz, fzL, fzR, tupA, fzL_pure _ _ hq.1, fzR_pure _ _ hq.2]

theorem w66 (rows : List (List AV)) (hp : pureR rows = true) : ACall Try.prog 66 [.sl .ro 5 rows] (.sl .ro 5 rows) := by
  refine ACall.go [(0, .sl .ro 5 rows)] Try.func66 rfl Try.ntmps66 rfl rfl (by simpa [pureA, inA] using hp) ?_
  refine AW.seq ?_
  refine AW.region (M := fun _ => true) ?_
  refine AL.v good (d := 2) rfl rfl rfl rfl ?_
  refine AW.seq ?_
  refine AW.region (M := fun _ => true) ?_
  refine AL.v good (d := 3) rfl rfl rfl rfl ?_
  refine AL.v good (d := 4) rfl rfl rfl rfl ?_
  refine AL.v good (d := 5) rfl rfl rfl rfl ?_
  refine AL.v good (d := 6) rfl rfl rfl rfl ?_
  refine AL.v good (d := 7) rfl rfl rfl rfl ?_
  refine AL.clip good (d := 8) rfl rfl rfl rfl rfl rfl rfl rfl rfl ?_
  refine AL.v good (d := 2) rfl rfl rfl rfl ?_
  refine AW.ret ?_
  refine RetQ.mk good (.inr rfl) rfl rfl ?_
  simp [Wk, WkL, fz, fzL, fzR, tupA, fzR_pure _ _ hp]

theorem w27 (r : List AV) (rows : List (List AV)) (hp : pureR (r :: rows) = true) (hl : rows.length ≤ 1000000) : ACall Try.prog 27 [.sl .ro 5 (r :: rows)] (.agg [.int .i64 4, .int .i64 0, .bool false, .str ⟨#[]⟩, .sl .ro 5 (r :: rows)]) := by
  refine ACall.go [(0, .sl .ro 5 (r :: rows))] Try.func27 rfl Try.ntmps27 rfl rfl (by simpa [pureA, inA, inL] using hp) ?_
  refine AW.seq ?_
  refine AW.region (M := fun _ => true) ?_
  refine AL.alc good (d := 2) rfl rfl rfl rfl rfl 0 rfl ?_
  refine AW.seq ?_
  refine AW.region (M := fun _ => true) ?_
  refine AL.v good (d := 3) rfl rfl rfl rfl ?_
  refine AL.clp good (d := 4) rfl rfl rfl rfl rfl rfl rfl (w67 r rows hp hl) ((by simpa [pureL, inL, inA, List.append] using hp)) ?_
  refine AL.clp good (d := 5) rfl rfl rfl rfl rfl rfl rfl (w66 (r :: rows) hp) ((by simpa [pureL, inL, inA, List.append] using hp)) ?_
  refine AL.bld good (d := 6) rfl rfl rfl rfl rfl rfl rfl ?_
  refine AL.st good rfl rfl rfl rfl rfl rfl rfl rfl rfl rfl rfl ?_
  refine AW.ret ?_
  refine RetQ.mk good (.inr rfl) rfl rfl ?_
  have hq : pureL r = true ∧ pureR rows = true := by simpa [pureR, inR] using hp
  simp [Wk, WkL, fz, fzL, fzR, tupA, spl, fzL_pure _ _ hq.1, fzR_pure _ _ hq.2]

theorem w29  : ACall Try.prog 29 [] (.agg [.str ⟨#[120]⟩, .int .i64 0, .int .i64 0, .bool false, .str ⟨#[]⟩, .sl .ro 5 [], .int .i64 0, .sl .ro 8 []]) := by
  refine ACall.go [] Try.func29 rfl Try.ntmps29 rfl rfl rfl ?_
  refine AW.seq ?_
  refine AW.region (M := fun _ => true) ?_
  refine AL.alc good (d := 0) rfl rfl rfl rfl rfl 0 rfl ?_
  refine AW.seq ?_
  refine AW.region (M := fun _ => true) ?_
  refine AL.bld good (d := 1) rfl rfl rfl rfl rfl rfl rfl ?_
  refine AL.st good rfl rfl rfl rfl rfl rfl rfl rfl rfl rfl rfl ?_
  refine AW.ret ?_
  refine RetQ.mk good (.inr rfl) rfl rfl ?_
  simp [Wk, WkL, fz, fzL, fzR, tupA, spl]

theorem w30 (op : ByteArray) (rows : List (List AV)) (hp : pureR rows = true) : ACall Try.prog 30 [.str op, .sl .ro 8 rows] (.agg [.str op, .int .i64 0, .int .i64 0, .bool false, .str ⟨#[]⟩, .sl .ro 5 [], .int .i64 0, .sl .ro 8 rows]) := by
  refine ACall.go [(0, .str op), (1, .sl .ro 8 rows)] Try.func30 rfl Try.ntmps30 rfl rfl (by simpa [pureA, inA, inL, inR] using hp) ?_
  refine AW.seq ?_
  refine AW.region (M := fun _ => true) ?_
  refine AL.alc good (d := 4) rfl rfl rfl rfl rfl 0 rfl ?_
  refine AW.seq ?_
  refine AW.region (M := fun _ => true) ?_
  refine AL.v good (d := 5) rfl rfl rfl rfl ?_
  refine AL.v good (d := 6) rfl rfl rfl rfl ?_
  refine AL.bld good (d := 7) rfl rfl rfl rfl rfl rfl rfl ?_
  refine AL.st good rfl rfl rfl rfl rfl rfl rfl rfl rfl rfl rfl ?_
  refine AW.ret ?_
  refine RetQ.mk good (.inr rfl) rfl rfl ?_
  simp [Wk, WkL, fz, fzL, fzR, tupA, spl, fzR_pure _ _ hp]

theorem w31 (v : Val) : ACall Try.prog 31 [.agg (valC v)] (.agg [.str ⟨#[108, 105, 116]⟩, .int .i64 v.kind, .int .i64 v.i, .bool v.b, .str v.s, .sl .ro 5 (encs v.t), .int .i64 0, .sl .ro 8 []]) := by
  refine ACall.go [(0, .agg (valC v))] Try.func31 rfl Try.ntmps31 rfl rfl (by simp [pureA, inA, inL, inR, encs_pure]) ?_
  refine AW.seq ?_
  refine AW.region (M := fun _ => true) ?_
  refine AL.bx good (d := 1) rfl rfl rfl rfl rfl rfl 0 rfl ?_
  refine AL.alc good (d := 2) rfl rfl rfl rfl rfl 1 rfl ?_
  refine AW.seq ?_
  refine AW.region (M := fun _ => true) ?_
  refine AL.v good (d := 3) rfl rfl rfl rfl ?_
  refine AL.bld good (d := 4) rfl rfl rfl rfl rfl rfl rfl ?_
  refine AL.st good rfl rfl rfl rfl rfl rfl rfl rfl rfl rfl rfl ?_
  refine AW.ret ?_
  refine RetQ.mk good (.inr rfl) rfl rfl ?_
  simp [Wk, WkL, fz, fzL, fzR, tupA, spl, encs_fz]

theorem w104 (b : Bool) : ACall Try.prog 104 [.bool b] (.int .i64 (bI b)) := by
  refine ACall.go [(0, .bool b)] Try.func104 rfl Try.ntmps104 rfl rfl rfl ?_
  refine AW.seq ?_
  refine AW.region (M := fun _ => true) ?_
  refine AL.v good (d := 2) rfl rfl rfl rfl ?_
  refine AW.seq ?_
  refine AW.seq ?_
  refine AW.region (M := fun _ => true) ?_
  refine AL.v good (d := 3) rfl rfl rfl rfl ?_
  refine AW.if rfl (fun h1 => ?_) (fun h1 => ?_)
  · skip
    refine AW.seq ?_
    refine AW.region (M := fun _ => true) ?_
    refine AL.v good (d := 2) rfl rfl rfl rfl ?_
    refine AW.ret ?_
    refine RetQ.mk good (.inr rfl) rfl rfl ?_
    simp_all [Wk, fz, tupA, bI]
  · skip
    refine AW.skip ?_
    refine AW.seq ?_
    refine AW.region (M := fun _ => true) ?_
    refine AL.v good (d := 2) rfl rfl rfl rfl ?_
    refine AW.ret ?_
    refine RetQ.mk good (.inr rfl) rfl rfl ?_
    simp_all [Wk, fz, tupA, bI]

theorem w135 (x : Int) : ACall Try.prog 135 [.int .i64 x] (.bool false) := by
  refine ACall.go [(0, .int .i64 x)] Try.func135 rfl Try.ntmps135 rfl rfl rfl ?_
  refine AW.seq ?_
  refine AW.region (M := fun _ => true) ?_
  refine AL.v good (d := 2) rfl rfl rfl rfl ?_
  refine AW.seq ?_
  refine AW.region (M := fun _ => true) ?_
  refine AL.v good (d := 3) rfl rfl rfl rfl ?_
  refine AL.v good (d := 4) rfl rfl rfl rfl ?_
  refine AL.v good (d := 5) rfl rfl rfl rfl ?_
  refine AL.v good (d := 2) rfl rfl rfl rfl ?_
  refine AW.ret ?_
  refine RetQ.mk good (.inr rfl) rfl rfl ?_
  simp [Wk, WkL, fz, fzL, fzR, tupA, spl]

theorem w136 (x : Int) : ACall Try.prog 136 [.int .i64 x] (.bool false) := by
  refine ACall.go [(0, .int .i64 x)] Try.func136 rfl Try.ntmps136 rfl rfl rfl ?_
  refine AW.seq ?_
  refine AW.region (M := fun _ => true) ?_
  refine AL.v good (d := 2) rfl rfl rfl rfl ?_
  refine AW.seq ?_
  refine AW.region (M := fun _ => true) ?_
  refine AL.v good (d := 3) rfl rfl rfl rfl ?_
  refine AL.v good (d := 4) rfl rfl rfl rfl ?_
  refine AL.v good (d := 5) rfl rfl rfl rfl ?_
  refine AL.v good (d := 2) rfl rfl rfl rfl ?_
  refine AW.ret ?_
  refine RetQ.mk good (.inr rfl) rfl rfl ?_
  simp [Wk, WkL, fz, fzL, fzR, tupA, spl]

theorem w102 (x y : Int) : ACall Try.prog 102 [.int .i64 x, .int .i64 y] (.int .i64 (cmpI x y)) := by
  refine ACall.go [(0, .int .i64 x), (1, .int .i64 y)] Try.func102 rfl Try.ntmps102 rfl rfl rfl ?_
  refine AW.seq ?_
  refine AW.region (M := fun _ => true) ?_
  refine AL.v good (d := 4) rfl rfl rfl rfl ?_
  refine AW.seq ?_
  refine AW.region (M := fun _ => true) ?_
  refine AL.v good (d := 7) rfl rfl rfl rfl ?_
  refine AL.clp good (d := 8) rfl rfl rfl rfl rfl rfl rfl (w135 _) (rfl) ?_
  refine AL.v good (d := 5) rfl rfl rfl rfl ?_
  refine AW.seq ?_
  refine AW.region (M := fun _ => true) ?_
  refine AL.v good (d := 9) rfl rfl rfl rfl ?_
  refine AL.clp good (d := 10) rfl rfl rfl rfl rfl rfl rfl (w135 _) (rfl) ?_
  refine AL.v good (d := 6) rfl rfl rfl rfl ?_
  refine AW.seq ?_
  refine AW.seq ?_
  refine AW.region (M := fun _ => true) ?_
  refine AL.v good (d := 11) rfl rfl rfl rfl ?_
  refine AW.if rfl (fun h => by cases h) (fun _ => ?_)
  refine AW.skip ?_
  refine AW.seq ?_
  refine AW.seq ?_
  refine AW.region (M := fun _ => true) ?_
  refine AL.v good (d := 13) rfl rfl rfl rfl ?_
  refine AW.if rfl (fun h => by cases h) (fun _ => ?_)
  refine AW.skip ?_
  refine AW.seq ?_
  refine AW.seq ?_
  refine AW.region (M := fun _ => true) ?_
  refine AL.v good (d := 14) rfl rfl rfl rfl ?_
  refine AL.v good (d := 15) rfl rfl rfl rfl ?_
  refine AL.v good (d := 16) rfl rfl rfl rfl ?_
  refine AW.if rfl (fun h1 => ?_) (fun h1 => ?_)
  · skip
    refine AW.seq ?_
    refine AW.region (M := fun _ => true) ?_
    refine AL.v good (d := 4) rfl rfl rfl rfl ?_
    refine AW.ret ?_
    refine RetQ.mk good (.inr rfl) rfl rfl ?_
    simp_all [Wk, fz, tupA, cmpI] <;> ((repeat (split)) <;> omega)
  · skip
    refine AW.skip ?_
    refine AW.seq ?_
    refine AW.seq ?_
    refine AW.region (M := fun _ => true) ?_
    refine AL.v good (d := 17) rfl rfl rfl rfl ?_
    refine AL.v good (d := 18) rfl rfl rfl rfl ?_
    refine AL.v good (d := 19) rfl rfl rfl rfl ?_
    refine AW.if rfl (fun h2 => ?_) (fun h2 => ?_)
    · skip
      refine AW.seq ?_
      refine AW.region (M := fun _ => true) ?_
      refine AL.v good (d := 4) rfl rfl rfl rfl ?_
      refine AW.ret ?_
      refine RetQ.mk good (.inr rfl) rfl rfl ?_
      simp_all [Wk, fz, tupA, cmpI] <;> ((repeat (split)) <;> omega)
    · skip
      refine AW.skip ?_
      refine AW.seq ?_
      refine AW.region (M := fun _ => true) ?_
      refine AL.v good (d := 4) rfl rfl rfl rfl ?_
      refine AW.ret ?_
      refine RetQ.mk good (.inr rfl) rfl rfl ?_
      simp_all [Wk, fz, tupA, cmpI] <;> ((repeat (split)) <;> omega)

theorem w103 (x y : Int) : ACall Try.prog 103 [.int .i64 x, .int .i64 y] (.int .i64 (cmpI x y)) := by
  refine ACall.go [(0, .int .i64 x), (1, .int .i64 y)] Try.func103 rfl Try.ntmps103 rfl rfl rfl ?_
  refine AW.seq ?_
  refine AW.region (M := fun _ => true) ?_
  refine AL.v good (d := 4) rfl rfl rfl rfl ?_
  refine AW.seq ?_
  refine AW.region (M := fun _ => true) ?_
  refine AL.v good (d := 7) rfl rfl rfl rfl ?_
  refine AL.clp good (d := 8) rfl rfl rfl rfl rfl rfl rfl (w136 _) (rfl) ?_
  refine AL.v good (d := 5) rfl rfl rfl rfl ?_
  refine AW.seq ?_
  refine AW.region (M := fun _ => true) ?_
  refine AL.v good (d := 9) rfl rfl rfl rfl ?_
  refine AL.clp good (d := 10) rfl rfl rfl rfl rfl rfl rfl (w136 _) (rfl) ?_
  refine AL.v good (d := 6) rfl rfl rfl rfl ?_
  refine AW.seq ?_
  refine AW.seq ?_
  refine AW.region (M := fun _ => true) ?_
  refine AL.v good (d := 11) rfl rfl rfl rfl ?_
  refine AW.if rfl (fun h => by cases h) (fun _ => ?_)
  refine AW.skip ?_
  refine AW.seq ?_
  refine AW.seq ?_
  refine AW.region (M := fun _ => true) ?_
  refine AL.v good (d := 13) rfl rfl rfl rfl ?_
  refine AW.if rfl (fun h => by cases h) (fun _ => ?_)
  refine AW.skip ?_
  refine AW.seq ?_
  refine AW.seq ?_
  refine AW.region (M := fun _ => true) ?_
  refine AL.v good (d := 14) rfl rfl rfl rfl ?_
  refine AL.v good (d := 15) rfl rfl rfl rfl ?_
  refine AL.v good (d := 16) rfl rfl rfl rfl ?_
  refine AW.if rfl (fun h1 => ?_) (fun h1 => ?_)
  · skip
    refine AW.seq ?_
    refine AW.region (M := fun _ => true) ?_
    refine AL.v good (d := 4) rfl rfl rfl rfl ?_
    refine AW.ret ?_
    refine RetQ.mk good (.inr rfl) rfl rfl ?_
    simp_all [Wk, fz, tupA, cmpI] <;> ((repeat (split)) <;> omega)
  · skip
    refine AW.skip ?_
    refine AW.seq ?_
    refine AW.seq ?_
    refine AW.region (M := fun _ => true) ?_
    refine AL.v good (d := 17) rfl rfl rfl rfl ?_
    refine AL.v good (d := 18) rfl rfl rfl rfl ?_
    refine AL.v good (d := 19) rfl rfl rfl rfl ?_
    refine AW.if rfl (fun h2 => ?_) (fun h2 => ?_)
    · skip
      refine AW.seq ?_
      refine AW.region (M := fun _ => true) ?_
      refine AL.v good (d := 4) rfl rfl rfl rfl ?_
      refine AW.ret ?_
      refine RetQ.mk good (.inr rfl) rfl rfl ?_
      simp_all [Wk, fz, tupA, cmpI] <;> ((repeat (split)) <;> omega)
    · skip
      refine AW.skip ?_
      refine AW.seq ?_
      refine AW.region (M := fun _ => true) ?_
      refine AL.v good (d := 4) rfl rfl rfl rfl ?_
      refine AW.ret ?_
      refine RetQ.mk good (.inr rfl) rfl rfl ?_
      simp_all [Wk, fz, tupA, cmpI] <;> ((repeat (split)) <;> omega)

theorem w137 (s t : ByteArray) : ACall Try.prog 137 [.str s, .str t] (.int .i64 (cmpB s t)) := by
  refine ACall.go [(0, .str s), (1, .str t)] Try.func137 rfl Try.ntmps137 rfl rfl rfl ?_
  refine AW.seq ?_
  refine AW.region (M := fun _ => true) ?_
  refine AL.v good (d := 4) rfl rfl rfl rfl ?_
  refine AW.seq ?_
  refine AW.region (M := fun _ => true) ?_
  refine AL.v good (d := 5) rfl rfl rfl rfl ?_
  refine AL.v good (d := 6) rfl rfl rfl rfl ?_
  refine AL.cmp good (d := 7) rfl rfl rfl rfl rfl rfl rfl Try.func149 (by kernel_rfl) (by kernel_rfl) (by kernel_rfl) (by kernel_rfl) ?_
  refine AL.v good (d := 4) rfl rfl rfl rfl ?_
  refine AW.ret ?_
  refine RetQ.mk good (.inr rfl) rfl rfl ?_
  simp [Wk, WkL, fz, fzL, fzR, tupA, spl]

theorem w105 (s t : ByteArray) : ACall Try.prog 105 [.str s, .str t] (.int .i64 (cmpB s t)) := by
  refine ACall.go [(0, .str s), (1, .str t)] Try.func105 rfl Try.ntmps105 rfl rfl rfl ?_
  refine AW.seq ?_
  refine AW.region (M := fun _ => true) ?_
  refine AL.v good (d := 4) rfl rfl rfl rfl ?_
  refine AW.seq ?_
  refine AW.region (M := fun _ => true) ?_
  refine AL.v good (d := 5) rfl rfl rfl rfl ?_
  refine AL.v good (d := 6) rfl rfl rfl rfl ?_
  refine AL.clp good (d := 7) rfl rfl rfl rfl rfl rfl rfl (w137 _ _) (rfl) ?_
  refine AL.v good (d := 4) rfl rfl rfl rfl ?_
  refine AW.ret ?_
  refine RetQ.mk good (.inr rfl) rfl rfl ?_
  simp [Wk, WkL, fz, fzL, fzR, tupA, spl]

theorem orI_drop {l : List Int} {k : Nat} {x : Int} (h : l[k]? = some x) (h0 : x = 0) : orI (l.drop (k + 1)) = orI (l.drop k) := by
  have hlt : k < l.length := (List.getElem?_eq_some_iff.1 h).1
  have : l.drop k = x :: l.drop (k + 1) := by rw [List.drop_eq_getElem_cons hlt]; rw [List.getElem?_eq_getElem hlt] at h; injection h with h; rw [h]
  rw [this, orI, if_pos h0]
theorem orI_at {l : List Int} {k : Nat} {x : Int} (h : l[k]? = some x) (h0 : x ≠ 0) : orI (l.drop k) = x := by
  have hlt : k < l.length := (List.getElem?_eq_some_iff.1 h).1
  have : l.drop k = x :: l.drop (k + 1) := by rw [List.drop_eq_getElem_cons hlt]; rw [List.getElem?_eq_getElem hlt] at h; injection h with h; rw [h]
  rw [this, orI, if_neg h0]
def rowI (l : List Int) : List (List AV) := l.map (fun x => [.int .i64 x])
theorem rowI_length (l : List Int) : (rowI l).length = l.length := by simp [rowI]
theorem rowI_get {l : List Int} {j : Nat} {x : Int} (h : l[j]? = some x) : (rowI l)[j]? = some [.int .i64 x] := by simp [rowI, h]
theorem rowI_pure (S : Nat → Bool) : ∀ l : List Int, inR S (rowI l) = true
  | [] => rfl
  | x :: r => by show inR S ([.int .i64 x] :: rowI r) = true; simp [inR, inL, inA, rowI_pure S r]

theorem w101 (l : List Int) : ACall Try.prog 101 [.sl .ro 1 (rowI l)] (.int .i64 (orI l)) := by
  refine ACall.go [(0, .sl .ro 1 (rowI l))] Try.func101 rfl Try.ntmps101 rfl rfl rfl ?_
  refine AW.seq ?_
  refine AW.region (M := fun _ => true) ?_
  refine AL.v good (d := 2) rfl rfl rfl rfl ?_
  refine AW.seq ?_
  refine AW.region (M := fun _ => true) ?_
  refine AL.v good (d := 3) rfl rfl rfl rfl ?_
  refine AW.seq ?_
  refine AW.seq ?_
  refine AW.region (M := fun _ => true) ?_
  refine AL.v good (d := 6) rfl rfl rfl rfl ?_
  refine AL.v good (d := 7) rfl rfl rfl rfl ?_
  refine AL.v good (d := 8) rfl rfl rfl rfl ?_
  refine AW.block ?_
  refine AW.len 6 rfl (fun hl => ?_)
  rw [rowI_length] at hl
  refine AW.lp (fun k : Nat => [(3, .int .i64 0), (6, .sl .ro 1 (rowI l)), (7, .int .i64 (l.length : Int)), (8, .int .i64 (k : Int))]) (fun k : Nat => []) (fun k : Nat => orI (l.drop k) = orI l) (fun k : Nat => l.length - k) 0 ⟨(fun _ h => by cases h), List.forall_mem_cons.2 ⟨⟨rfl, rfl⟩, List.forall_mem_cons.2 ⟨⟨rfl, (by simp [inA, rowI_pure])⟩, List.forall_mem_cons.2 ⟨⟨(by show some (AV.int .i64 ((rowI l).length : Int)) = _; rw [rowI_length]), rfl⟩, List.forall_mem_cons.2 ⟨⟨rfl, rfl⟩, (fun _ h => by cases h)⟩⟩⟩⟩, (fun _ h => by cases h)⟩ rfl (fun k hx => ?_)
  refine AW.seq ?_
  refine AW.region (M := fun _ => true) ?_
  refine AL.v good (d := 9) rfl rfl rfl rfl ?_
  refine AW.seq ?_
  refine AW.if rfl (fun h1 => ?_) (fun h1 => ?_)
  · skip
    refine AW.skip ?_
    refine AW.seq ?_
    refine AW.block ?_
    refine AW.seq ?_
    refine AW.region (M := fun _ => true) ?_
    have hk : k < l.length := by simpa using h1
    have hget : l[k]? = some l[k] := List.getElem?_eq_getElem hk
    refine AL.ix good (d := 10) rfl rfl rfl rfl rfl rfl rfl (Int.natCast_nonneg k) (rowI_get hget) ?_
    refine AL.v good (d := 11) rfl rfl rfl rfl ?_
    refine AL.v good (d := 5) rfl rfl rfl rfl ?_
    refine AW.seq ?_
    refine AW.region (M := fun _ => true) ?_
    refine AL.v good (d := 12) rfl rfl rfl rfl ?_
    refine AL.v good (d := 13) rfl rfl rfl rfl ?_
    refine AL.v good (d := 14) rfl rfl rfl rfl ?_
    refine AW.if rfl (fun h2 => ?_) (fun h2 => ?_)
    · skip
      refine AW.seq ?_
      refine AW.region (M := fun _ => true) ?_
      refine AL.v good (d := 15) rfl rfl rfl rfl ?_
      refine AL.v good (d := 2) rfl rfl rfl rfl ?_
      refine AW.ret ?_
      refine RetQ.mk good (.inr rfl) rfl rfl ?_
      simp only [Wk, fz, tupA]
      exact ⟨trivial, by rw [← hx, orI_at hget (by simpa using h2)]⟩
    · skip
      refine AW.skip ?_
      refine AW.region (M := fun _ => true) ?_
      refine AL.v good (d := 16) rfl rfl rfl rfl ?_
      refine AL.v good (d := 8) rfl rfl rfl rfl ?_
      exact ⟨k + 1, _, _, rfl, ⟨(fun _ h => by cases h), List.forall_mem_cons.2 ⟨⟨rfl, rfl⟩, List.forall_mem_cons.2 ⟨⟨rfl, (by simp [inA, rowI_pure])⟩, List.forall_mem_cons.2 ⟨⟨rfl, rfl⟩, List.forall_mem_cons.2 ⟨⟨(wnext hk hl), rfl⟩, (fun _ h => by cases h)⟩⟩⟩⟩, (fun _ h => by cases h)⟩, (by rw [orI_drop hget (by simpa using h2)]; exact hx), (by omega)⟩
  · skip
    refine AW.exit ?_
    refine AW.seq ?_
    refine AW.region (M := fun _ => true) ?_
    refine AL.v good (d := 17) rfl rfl rfl rfl ?_
    refine AL.v good (d := 2) rfl rfl rfl rfl ?_
    refine AW.ret ?_
    refine RetQ.mk good (.inr rfl) rfl rfl ?_
    have hk : l.length ≤ k := by simpa using h1
    rw [List.drop_eq_nil_of_le hk] at hx
    simp only [Wk, fz, tupA]
    exact ⟨trivial, hx⟩

end Go.Proofs.Ytbcjcekoonebiaa.Tl
