/- Walks: tables of functions, the functions in them. Conditions: none. -/
import Derived.Test.YtbcjcekoonebiaaTlWb
set_option linter.unusedVariables false
set_option linter.unusedSimpArgs false
namespace Go.Proofs.Ytbcjcekoonebiaa.Tl
open Go Go.RowKit

theorem w122 (a : Val) : ACall Try.prog 122 [.agg (valC a)] (.agg [.int .i64 1, .int .i64 (IntKind.i64.wrap (0 - a.i)), .bool false, .str ⟨#[]⟩, .sl .ro 5 []]) := by
  refine ACall.go [(0, .agg (valC a))] Try.func122 rfl Try.ntmps122 rfl rfl rfl ?_
  refine AW.seq ?_
  refine AW.region (M := fun _ => true) ?_
  refine AL.bx good (d := 1) rfl rfl rfl rfl rfl rfl 0 rfl ?_
  refine AL.alc good (d := 2) rfl rfl rfl rfl rfl 1 rfl ?_
  refine AW.seq ?_
  refine AW.region (M := fun _ => true) ?_
  refine AL.v good (d := 3) rfl rfl rfl rfl ?_
  refine AL.v good (d := 4) rfl rfl rfl rfl ?_
  refine AL.v good (d := 5) rfl rfl rfl rfl ?_
  refine AL.clp good (d := 6) rfl rfl rfl rfl rfl rfl rfl (w28 _) (rfl) ?_
  refine AL.st good rfl rfl rfl rfl rfl rfl rfl rfl rfl rfl rfl ?_
  refine AW.ret ?_
  refine RetQ.mk good (.inr rfl) rfl rfl ?_
  simp [Wk, WkL, fz, fzL, fzR, tupA, spl]

theorem w123 (a : Val) : ACall Try.prog 123 [.agg (valC a)] (.agg [.int .i64 2, .int .i64 0, .bool (!a.b), .str ⟨#[]⟩, .sl .ro 5 []]) := by
  refine ACall.go [(0, .agg (valC a))] Try.func123 rfl Try.ntmps123 rfl rfl rfl ?_
  refine AW.seq ?_
  refine AW.region (M := fun _ => true) ?_
  refine AL.bx good (d := 1) rfl rfl rfl rfl rfl rfl 0 rfl ?_
  refine AL.alc good (d := 2) rfl rfl rfl rfl rfl 1 rfl ?_
  refine AW.seq ?_
  refine AW.region (M := fun _ => true) ?_
  refine AL.v good (d := 3) rfl rfl rfl rfl ?_
  refine AL.v good (d := 4) rfl rfl rfl rfl ?_
  refine AL.v good (d := 5) rfl rfl rfl rfl ?_
  refine AL.clp good (d := 6) rfl rfl rfl rfl rfl rfl rfl (w32 _) (rfl) ?_
  refine AL.st good rfl rfl rfl rfl rfl rfl rfl rfl rfl rfl rfl ?_
  refine AW.ret ?_
  refine RetQ.mk good (.inr rfl) rfl rfl ?_
  simp [Wk, WkL, fz, fzL, fzR, tupA, spl]

theorem w124 (a : Val) : ACall Try.prog 124 [.agg (valC a)] (.agg [.int .i64 1, .int .i64 (a.s.size : Int), .bool false, .str ⟨#[]⟩, .sl .ro 5 []]) := by
  refine ACall.go [(0, .agg (valC a))] Try.func124 rfl Try.ntmps124 rfl rfl rfl ?_
  refine AW.seq ?_
  refine AW.region (M := fun _ => true) ?_
  refine AL.bx good (d := 1) rfl rfl rfl rfl rfl rfl 0 rfl ?_
  refine AL.alc good (d := 2) rfl rfl rfl rfl rfl 1 rfl ?_
  refine AW.seq ?_
  refine AW.region (M := fun _ => true) ?_
  refine AL.v good (d := 3) rfl rfl rfl rfl ?_
  refine AL.v good (d := 4) rfl rfl rfl rfl ?_
  refine AL.v good (d := 5) rfl rfl rfl rfl ?_
  refine AL.clp good (d := 6) rfl rfl rfl rfl rfl rfl rfl (w28 _) (rfl) ?_
  refine AL.st good rfl rfl rfl rfl rfl rfl rfl rfl rfl rfl rfl ?_
  refine AW.ret ?_
  refine RetQ.mk good (.inr rfl) rfl rfl ?_
  simp [Wk, WkL, fz, fzL, fzR, tupA, spl]

theorem w126 (x y : Int) : ACall Try.prog 126 [.int .i64 x, .int .i64 y] (.int .i64 (IntKind.i64.wrap (x + y))) := by
  refine ACall.go [(0, .int .i64 x), (1, .int .i64 y)] Try.func126 rfl Try.ntmps126 rfl rfl rfl ?_
  refine AW.seq ?_
  refine AW.region (M := fun _ => true) ?_
  refine AL.v good (d := 4) rfl rfl rfl rfl ?_
  refine AW.seq ?_
  refine AW.region (M := fun _ => true) ?_
  refine AL.v good (d := 5) rfl rfl rfl rfl ?_
  refine AL.v good (d := 6) rfl rfl rfl rfl ?_
  refine AL.v good (d := 7) rfl rfl rfl rfl ?_
  refine AL.v good (d := 4) rfl rfl rfl rfl ?_
  refine AW.ret ?_
  refine RetQ.mk good (.inr rfl) rfl rfl ?_
  simp [Wk, WkL, fz, fzL, fzR, tupA, spl]

theorem w127 (x y : Int) : ACall Try.prog 127 [.int .i64 x, .int .i64 y] (.int .i64 (IntKind.i64.wrap (x - y))) := by
  refine ACall.go [(0, .int .i64 x), (1, .int .i64 y)] Try.func127 rfl Try.ntmps127 rfl rfl rfl ?_
  refine AW.seq ?_
  refine AW.region (M := fun _ => true) ?_
  refine AL.v good (d := 4) rfl rfl rfl rfl ?_
  refine AW.seq ?_
  refine AW.region (M := fun _ => true) ?_
  refine AL.v good (d := 5) rfl rfl rfl rfl ?_
  refine AL.v good (d := 6) rfl rfl rfl rfl ?_
  refine AL.v good (d := 7) rfl rfl rfl rfl ?_
  refine AL.v good (d := 4) rfl rfl rfl rfl ?_
  refine AW.ret ?_
  refine RetQ.mk good (.inr rfl) rfl rfl ?_
  simp [Wk, WkL, fz, fzL, fzR, tupA, spl]

theorem w128 (x y : Int) : ACall Try.prog 128 [.int .i64 x, .int .i64 y] (.int .i64 (IntKind.i64.wrap (x * y))) := by
  refine ACall.go [(0, .int .i64 x), (1, .int .i64 y)] Try.func128 rfl Try.ntmps128 rfl rfl rfl ?_
  refine AW.seq ?_
  refine AW.region (M := fun _ => true) ?_
  refine AL.v good (d := 4) rfl rfl rfl rfl ?_
  refine AW.seq ?_
  refine AW.region (M := fun _ => true) ?_
  refine AL.v good (d := 5) rfl rfl rfl rfl ?_
  refine AL.v good (d := 6) rfl rfl rfl rfl ?_
  refine AL.v good (d := 7) rfl rfl rfl rfl ?_
  refine AL.v good (d := 4) rfl rfl rfl rfl ?_
  refine AW.ret ?_
  refine RetQ.mk good (.inr rfl) rfl rfl ?_
  simp [Wk, WkL, fz, fzL, fzR, tupA, spl]

theorem w130 (x y : Int) (hy : y ≠ 0) : ACall Try.prog 130 [.int .i64 x, .int .i64 y] (.int .i64 (IntKind.i64.wrap (x.tdiv y))) := by
  refine ACall.go [(0, .int .i64 x), (1, .int .i64 y)] Try.func130 rfl Try.ntmps130 rfl rfl rfl ?_
  refine AW.seq ?_
  refine AW.region (M := fun _ => true) ?_
  refine AL.v good (d := 4) rfl rfl rfl rfl ?_
  refine AW.seq ?_
  refine AW.region (M := fun _ => true) ?_
  refine AL.v good (d := 5) rfl rfl rfl rfl ?_
  refine AL.v good (d := 6) rfl rfl rfl rfl ?_
  refine AL.v good (d := 7) rfl rfl rfl (by show Option.map (fun z => (z, [])) (if y = 0 then none else some (AV.int .i64 (IntKind.i64.wrap (x.tdiv y)))) = _; rw [if_neg hy]; rfl) ?_
  refine AL.v good (d := 4) rfl rfl rfl rfl ?_
  refine AW.ret ?_
  refine RetQ.mk good (.inr rfl) rfl rfl ?_
  simp [Wk, WkL, fz, fzL, fzR, tupA, spl]

theorem w131 (x y : Int) (hy : y ≠ 0) : ACall Try.prog 131 [.int .i64 x, .int .i64 y] (.int .i64 (x.tmod y)) := by
  refine ACall.go [(0, .int .i64 x), (1, .int .i64 y)] Try.func131 rfl Try.ntmps131 rfl rfl rfl ?_
  refine AW.seq ?_
  refine AW.region (M := fun _ => true) ?_
  refine AL.v good (d := 4) rfl rfl rfl rfl ?_
  refine AW.seq ?_
  refine AW.region (M := fun _ => true) ?_
  refine AL.v good (d := 5) rfl rfl rfl rfl ?_
  refine AL.v good (d := 6) rfl rfl rfl rfl ?_
  refine AL.v good (d := 7) rfl rfl rfl (by show Option.map (fun z => (z, [])) (if y = 0 then none else some (AV.int .i64 (x.tmod y))) = _; rw [if_neg hy]; rfl) ?_
  refine AL.v good (d := 4) rfl rfl rfl rfl ?_
  refine AW.ret ?_
  refine RetQ.mk good (.inr rfl) rfl rfl ?_
  simp [Wk, WkL, fz, fzL, fzR, tupA, spl]

theorem w125_126  : ACall Try.prog 125 [.func 126 [] []] (.func 147 [] [.ep [.func 126 [] []]]) := by
  refine ACall.go [(0, .func 126 [] [])] Try.func125 rfl Try.ntmps125 rfl rfl rfl ?_
  refine AW.seq ?_
  refine AW.region (M := fun _ => true) ?_
  refine AL.bx good (d := 1) rfl rfl rfl rfl rfl rfl 0 rfl ?_
  refine AL.v good (d := 2) rfl rfl rfl rfl ?_
  refine AW.seq ?_
  refine AW.region (M := fun _ => true) ?_
  refine AL.v good (d := 3) rfl rfl rfl rfl ?_
  refine AL.v good (d := 2) rfl rfl rfl rfl ?_
  refine AW.ret ?_
  refine RetQ.mk good (.inr rfl) rfl rfl ?_
  exact rfl

theorem w125_127  : ACall Try.prog 125 [.func 127 [] []] (.func 147 [] [.ep [.func 127 [] []]]) := by
  refine ACall.go [(0, .func 127 [] [])] Try.func125 rfl Try.ntmps125 rfl rfl rfl ?_
  refine AW.seq ?_
  refine AW.region (M := fun _ => true) ?_
  refine AL.bx good (d := 1) rfl rfl rfl rfl rfl rfl 0 rfl ?_
  refine AL.v good (d := 2) rfl rfl rfl rfl ?_
  refine AW.seq ?_
  refine AW.region (M := fun _ => true) ?_
  refine AL.v good (d := 3) rfl rfl rfl rfl ?_
  refine AL.v good (d := 2) rfl rfl rfl rfl ?_
  refine AW.ret ?_
  refine RetQ.mk good (.inr rfl) rfl rfl ?_
  exact rfl

theorem w125_128  : ACall Try.prog 125 [.func 128 [] []] (.func 147 [] [.ep [.func 128 [] []]]) := by
  refine ACall.go [(0, .func 128 [] [])] Try.func125 rfl Try.ntmps125 rfl rfl rfl ?_
  refine AW.seq ?_
  refine AW.region (M := fun _ => true) ?_
  refine AL.bx good (d := 1) rfl rfl rfl rfl rfl rfl 0 rfl ?_
  refine AL.v good (d := 2) rfl rfl rfl rfl ?_
  refine AW.seq ?_
  refine AW.region (M := fun _ => true) ?_
  refine AL.v good (d := 3) rfl rfl rfl rfl ?_
  refine AL.v good (d := 2) rfl rfl rfl rfl ?_
  refine AW.ret ?_
  refine RetQ.mk good (.inr rfl) rfl rfl ?_
  exact rfl

theorem w129_130  : ACall Try.prog 129 [.func 130 [] []] (.func 148 [] [.ep [.func 130 [] []]]) := by
  refine ACall.go [(0, .func 130 [] [])] Try.func129 rfl Try.ntmps129 rfl rfl rfl ?_
  refine AW.seq ?_
  refine AW.region (M := fun _ => true) ?_
  refine AL.bx good (d := 1) rfl rfl rfl rfl rfl rfl 0 rfl ?_
  refine AL.v good (d := 2) rfl rfl rfl rfl ?_
  refine AW.seq ?_
  refine AW.region (M := fun _ => true) ?_
  refine AL.v good (d := 3) rfl rfl rfl rfl ?_
  refine AL.v good (d := 2) rfl rfl rfl rfl ?_
  refine AW.ret ?_
  refine RetQ.mk good (.inr rfl) rfl rfl ?_
  exact rfl

theorem w129_131  : ACall Try.prog 129 [.func 131 [] []] (.func 148 [] [.ep [.func 131 [] []]]) := by
  refine ACall.go [(0, .func 131 [] [])] Try.func129 rfl Try.ntmps129 rfl rfl rfl ?_
  refine AW.seq ?_
  refine AW.region (M := fun _ => true) ?_
  refine AL.bx good (d := 1) rfl rfl rfl rfl rfl rfl 0 rfl ?_
  refine AL.v good (d := 2) rfl rfl rfl rfl ?_
  refine AW.seq ?_
  refine AW.region (M := fun _ => true) ?_
  refine AL.v good (d := 3) rfl rfl rfl rfl ?_
  refine AL.v good (d := 2) rfl rfl rfl rfl ?_
  refine AW.ret ?_
  refine RetQ.mk good (.inr rfl) rfl rfl ?_
  exact rfl

theorem w147_126 (a b : Val) : ACall Try.prog 147 [.agg (valC a), .agg (valC b), .ep [.func 126 [] []]] (.tup [.agg [.int .i64 1, .int .i64 (IntKind.i64.wrap (a.i + b.i)), .bool false, .str ⟨#[]⟩, .sl .ro 5 []], .int .i64 0]) := by
  refine ACall.go [(0, .agg (valC a)), (1, .agg (valC b)), (2, .ep [.func 126 [] []])] Try.func147 rfl Try.ntmps147 rfl rfl rfl ?_
  refine AW.seq ?_
  refine AW.region (M := fun _ => true) ?_
  refine AL.bx good (d := 3) rfl rfl rfl rfl rfl rfl 0 rfl ?_
  refine AL.bx good (d := 4) rfl rfl rfl rfl rfl rfl 1 rfl ?_
  refine AL.alc good (d := 5) rfl rfl rfl rfl rfl 2 rfl ?_
  refine AL.v good (d := 6) rfl rfl rfl rfl ?_
  refine AW.seq ?_
  refine AW.region (M := fun _ => true) ?_
  refine AL.v good (d := 7) rfl rfl rfl rfl ?_
  refine AL.v good (d := 8) rfl rfl rfl rfl ?_
  refine AL.v good (d := 9) rfl rfl rfl rfl ?_
  refine AL.v good (d := 10) rfl rfl rfl rfl ?_
  refine AL.v good (d := 11) rfl rfl rfl rfl ?_
  refine AL.clp good (d := 12) rfl rfl rfl rfl rfl rfl rfl (w126 _ _) (rfl) ?_
  refine AL.clp good (d := 13) rfl rfl rfl rfl rfl rfl rfl (w28 _) (rfl) ?_
  refine AL.st good rfl rfl rfl rfl rfl rfl rfl rfl rfl rfl rfl ?_
  refine AL.v good (d := 6) rfl rfl rfl rfl ?_
  refine AW.ret ?_
  refine RetQ.mk good (.inr rfl) rfl rfl ?_
  simp [Wk, WkL, fz, fzL, fzR, tupA, spl]

theorem w147_127 (a b : Val) : ACall Try.prog 147 [.agg (valC a), .agg (valC b), .ep [.func 127 [] []]] (.tup [.agg [.int .i64 1, .int .i64 (IntKind.i64.wrap (a.i - b.i)), .bool false, .str ⟨#[]⟩, .sl .ro 5 []], .int .i64 0]) := by
  refine ACall.go [(0, .agg (valC a)), (1, .agg (valC b)), (2, .ep [.func 127 [] []])] Try.func147 rfl Try.ntmps147 rfl rfl rfl ?_
  refine AW.seq ?_
  refine AW.region (M := fun _ => true) ?_
  refine AL.bx good (d := 3) rfl rfl rfl rfl rfl rfl 0 rfl ?_
  refine AL.bx good (d := 4) rfl rfl rfl rfl rfl rfl 1 rfl ?_
  refine AL.alc good (d := 5) rfl rfl rfl rfl rfl 2 rfl ?_
  refine AL.v good (d := 6) rfl rfl rfl rfl ?_
  refine AW.seq ?_
  refine AW.region (M := fun _ => true) ?_
  refine AL.v good (d := 7) rfl rfl rfl rfl ?_
  refine AL.v good (d := 8) rfl rfl rfl rfl ?_
  refine AL.v good (d := 9) rfl rfl rfl rfl ?_
  refine AL.v good (d := 10) rfl rfl rfl rfl ?_
  refine AL.v good (d := 11) rfl rfl rfl rfl ?_
  refine AL.clp good (d := 12) rfl rfl rfl rfl rfl rfl rfl (w127 _ _) (rfl) ?_
  refine AL.clp good (d := 13) rfl rfl rfl rfl rfl rfl rfl (w28 _) (rfl) ?_
  refine AL.st good rfl rfl rfl rfl rfl rfl rfl rfl rfl rfl rfl ?_
  refine AL.v good (d := 6) rfl rfl rfl rfl ?_
  refine AW.ret ?_
  refine RetQ.mk good (.inr rfl) rfl rfl ?_
  simp [Wk, WkL, fz, fzL, fzR, tupA, spl]

theorem w147_128 (a b : Val) : ACall Try.prog 147 [.agg (valC a), .agg (valC b), .ep [.func 128 [] []]] (.tup [.agg [.int .i64 1, .int .i64 (IntKind.i64.wrap (a.i * b.i)), .bool false, .str ⟨#[]⟩, .sl .ro 5 []], .int .i64 0]) := by
  refine ACall.go [(0, .agg (valC a)), (1, .agg (valC b)), (2, .ep [.func 128 [] []])] Try.func147 rfl Try.ntmps147 rfl rfl rfl ?_
  refine AW.seq ?_
  refine AW.region (M := fun _ => true) ?_
  refine AL.bx good (d := 3) rfl rfl rfl rfl rfl rfl 0 rfl ?_
  refine AL.bx good (d := 4) rfl rfl rfl rfl rfl rfl 1 rfl ?_
  refine AL.alc good (d := 5) rfl rfl rfl rfl rfl 2 rfl ?_
  refine AL.v good (d := 6) rfl rfl rfl rfl ?_
  refine AW.seq ?_
  refine AW.region (M := fun _ => true) ?_
  refine AL.v good (d := 7) rfl rfl rfl rfl ?_
  refine AL.v good (d := 8) rfl rfl rfl rfl ?_
  refine AL.v good (d := 9) rfl rfl rfl rfl ?_
  refine AL.v good (d := 10) rfl rfl rfl rfl ?_
  refine AL.v good (d := 11) rfl rfl rfl rfl ?_
  refine AL.clp good (d := 12) rfl rfl rfl rfl rfl rfl rfl (w128 _ _) (rfl) ?_
  refine AL.clp good (d := 13) rfl rfl rfl rfl rfl rfl rfl (w28 _) (rfl) ?_
  refine AL.st good rfl rfl rfl rfl rfl rfl rfl rfl rfl rfl rfl ?_
  refine AL.v good (d := 6) rfl rfl rfl rfl ?_
  refine AW.ret ?_
  refine RetQ.mk good (.inr rfl) rfl rfl ?_
  simp [Wk, WkL, fz, fzL, fzR, tupA, spl]

theorem w148_130 (a b : Val) : ACall Try.prog 148 [.agg (valC a), .agg (valC b), .ep [.func 130 [] []]] ((if b.i = 0 then .tup [.agg [.int .i64 0, .int .i64 0, .bool false, .str ⟨#[]⟩, .sl .ro 5 []], .int .i64 8] else .tup [.agg [.int .i64 1, .int .i64 (IntKind.i64.wrap (a.i.tdiv b.i)), .bool false, .str ⟨#[]⟩, .sl .ro 5 []], .int .i64 0])) := by
  refine ACall.go [(0, .agg (valC a)), (1, .agg (valC b)), (2, .ep [.func 130 [] []])] Try.func148 rfl Try.ntmps148 rfl rfl (by split <;> rfl) ?_
  refine AW.seq ?_
  refine AW.region (M := fun _ => true) ?_
  refine AL.bx good (d := 3) rfl rfl rfl rfl rfl rfl 0 rfl ?_
  refine AL.bx good (d := 4) rfl rfl rfl rfl rfl rfl 1 rfl ?_
  refine AL.alc good (d := 5) rfl rfl rfl rfl rfl 2 rfl ?_
  refine AL.v good (d := 6) rfl rfl rfl rfl ?_
  refine AW.seq ?_
  refine AW.seq ?_
  refine AW.region (M := fun _ => true) ?_
  refine AL.v good (d := 7) rfl rfl rfl rfl ?_
  refine AL.v good (d := 8) rfl rfl rfl rfl ?_
  refine AL.v good (d := 9) rfl rfl rfl rfl ?_
  refine AW.if rfl (fun h1 => ?_) (fun h1 => ?_)
  · skip
    refine AW.seq ?_
    refine AW.region (M := fun _ => true) ?_
    refine AL.bld good (d := 10) rfl rfl rfl rfl rfl rfl rfl ?_
    refine AL.st good rfl rfl rfl rfl rfl rfl rfl rfl rfl rfl rfl ?_
    refine AL.v good (d := 6) rfl rfl rfl rfl ?_
    refine AW.ret ?_
    refine RetQ.mk good (.inr rfl) rfl rfl ?_
    rw [if_pos (by simpa using h1)]
    simp [Wk, WkL, fz, fzL, fzR, tupA, spl]
  · skip
    refine AW.skip ?_
    refine AW.seq ?_
    refine AW.region (M := fun _ => true) ?_
    refine AL.v good (d := 11) rfl rfl rfl rfl ?_
    refine AL.v good (d := 12) rfl rfl rfl rfl ?_
    refine AL.v good (d := 13) rfl rfl rfl rfl ?_
    refine AL.v good (d := 14) rfl rfl rfl rfl ?_
    refine AL.v good (d := 15) rfl rfl rfl rfl ?_
    refine AL.clp good (d := 16) rfl rfl rfl rfl rfl rfl rfl (w130 _ _ (by simpa using h1)) (rfl) ?_
    refine AL.clp good (d := 17) rfl rfl rfl rfl rfl rfl rfl (w28 _) (rfl) ?_
    refine AL.st good rfl rfl rfl rfl rfl rfl rfl rfl rfl rfl rfl ?_
    refine AL.v good (d := 6) rfl rfl rfl rfl ?_
    refine AW.ret ?_
    refine RetQ.mk good (.inr rfl) rfl rfl ?_
    rw [if_neg (by simpa using h1)]
    simp [Wk, WkL, fz, fzL, fzR, tupA, spl]

theorem w148_131 (a b : Val) : ACall Try.prog 148 [.agg (valC a), .agg (valC b), .ep [.func 131 [] []]] ((if b.i = 0 then .tup [.agg [.int .i64 0, .int .i64 0, .bool false, .str ⟨#[]⟩, .sl .ro 5 []], .int .i64 8] else .tup [.agg [.int .i64 1, .int .i64 (a.i.tmod b.i), .bool false, .str ⟨#[]⟩, .sl .ro 5 []], .int .i64 0])) := by
  refine ACall.go [(0, .agg (valC a)), (1, .agg (valC b)), (2, .ep [.func 131 [] []])] Try.func148 rfl Try.ntmps148 rfl rfl (by split <;> rfl) ?_
  refine AW.seq ?_
  refine AW.region (M := fun _ => true) ?_
  refine AL.bx good (d := 3) rfl rfl rfl rfl rfl rfl 0 rfl ?_
  refine AL.bx good (d := 4) rfl rfl rfl rfl rfl rfl 1 rfl ?_
  refine AL.alc good (d := 5) rfl rfl rfl rfl rfl 2 rfl ?_
  refine AL.v good (d := 6) rfl rfl rfl rfl ?_
  refine AW.seq ?_
  refine AW.seq ?_
  refine AW.region (M := fun _ => true) ?_
  refine AL.v good (d := 7) rfl rfl rfl rfl ?_
  refine AL.v good (d := 8) rfl rfl rfl rfl ?_
  refine AL.v good (d := 9) rfl rfl rfl rfl ?_
  refine AW.if rfl (fun h1 => ?_) (fun h1 => ?_)
  · skip
    refine AW.seq ?_
    refine AW.region (M := fun _ => true) ?_
    refine AL.bld good (d := 10) rfl rfl rfl rfl rfl rfl rfl ?_
    refine AL.st good rfl rfl rfl rfl rfl rfl rfl rfl rfl rfl rfl ?_
    refine AL.v good (d := 6) rfl rfl rfl rfl ?_
    refine AW.ret ?_
    refine RetQ.mk good (.inr rfl) rfl rfl ?_
    rw [if_pos (by simpa using h1)]
    simp [Wk, WkL, fz, fzL, fzR, tupA, spl]
  · skip
    refine AW.skip ?_
    refine AW.seq ?_
    refine AW.region (M := fun _ => true) ?_
    refine AL.v good (d := 11) rfl rfl rfl rfl ?_
    refine AL.v good (d := 12) rfl rfl rfl rfl ?_
    refine AL.v good (d := 13) rfl rfl rfl rfl ?_
    refine AL.v good (d := 14) rfl rfl rfl rfl ?_
    refine AL.v good (d := 15) rfl rfl rfl rfl ?_
    refine AL.clp good (d := 16) rfl rfl rfl rfl rfl rfl rfl (w131 _ _ (by simpa using h1)) (rfl) ?_
    refine AL.clp good (d := 17) rfl rfl rfl rfl rfl rfl rfl (w28 _) (rfl) ?_
    refine AL.st good rfl rfl rfl rfl rfl rfl rfl rfl rfl rfl rfl ?_
    refine AL.v good (d := 6) rfl rfl rfl rfl ?_
    refine AW.ret ?_
    refine RetQ.mk good (.inr rfl) rfl rfl ?_
    rw [if_neg (by simpa using h1)]
    simp [Wk, WkL, fz, fzL, fzR, tupA, spl]

def tabR (tb : List (ByteArray × AV)) : List (List AV) := tb.map fun p => [.str p.1, p.2]
theorem tabR_length (tb : List (ByteArray × AV)) : (tabR tb).length = tb.length := by simp [tabR]
theorem tabR_get {tb : List (ByteArray × AV)} {j : Nat} {p : ByteArray × AV} (h : tb[j]? = some p) : (tabR tb)[j]? = some [.str p.1, p.2] := by simp [tabR, h]
def findT : List (ByteArray × AV) → ByteArray → AV
  | [], _ => .tup [.nilf, .bool false]
  | p :: r, n => if p.1.data.toList = n.data.toList then .tup [p.2, .bool true] else findT r n
def tabP (tb : List (ByteArray × AV)) : Prop := ∀ p ∈ tb, pureA p.2 = true
theorem tabR_pure (S : Nat → Bool) (hS : ∀ x, pureA x = true → inA S x = true) : ∀ tb : List (ByteArray × AV), tabP tb → inR S (tabR tb) = true
  | [], _ => rfl
  | p :: r, h => by
    show inR S ([.str p.1, p.2] :: tabR r) = true
    simp only [inR, inL, inA, hS p.2 (h p (by simp)), tabR_pure S hS r (fun q hq => h q (by simp [hq])), Bool.and_self]
theorem findT_pure : ∀ (tb : List (ByteArray × AV)) (n : ByteArray), tabP tb → pureA (findT tb n) = true
  | [], _, _ => rfl
  | p :: r, n, h => by
    unfold findT
    split
    · simp only [pureA, inA, inL, Bool.and_self, Bool.and_true]; exact h p (by simp)
    · exact findT_pure r n (fun q hq => h q (by simp [hq]))

theorem w96 (tb : List (ByteArray × AV)) (n : ByteArray) (hp : tabP tb) : ACall Try.prog 96 [.sl .ro 2 (tabR tb), .str n] (findT tb n) := by
  refine ACall.go [(0, .sl .ro 2 (tabR tb)), (1, .str n)] Try.func96 rfl Try.ntmps96 rfl rfl (findT_pure tb n hp) ?_
  refine AW.seq ?_
  refine AW.region (M := fun _ => true) ?_
  refine AL.v good (d := 4) rfl rfl rfl rfl ?_
  refine AL.v good (d := 5) rfl rfl rfl rfl ?_
  refine AW.seq ?_
  refine AW.seq ?_
  refine AW.region (M := fun _ => true) ?_
  refine AL.v good (d := 9) rfl rfl rfl rfl ?_
  refine AL.v good (d := 10) rfl rfl rfl rfl ?_
  refine AL.v good (d := 11) rfl rfl rfl rfl ?_
  refine AW.block ?_
  refine AW.len 0 rfl (fun hl => ?_)
  rw [tabR_length] at hl
  refine AW.lp (fun k : Nat => [(1, .str n), (9, .sl .ro 2 (tabR tb)), (10, .int .i64 (tb.length : Int)), (11, .int .i64 (k : Int))]) (fun k : Nat => []) (fun k : Nat => findT (tb.drop k) n = findT tb n ∧ k ≤ tb.length) (fun k : Nat => tb.length - k) 0 ⟨(fun _ h => by cases h), List.forall_mem_cons.2 ⟨⟨rfl, rfl⟩, List.forall_mem_cons.2 ⟨⟨rfl, (by simp only [inA, Bool.true_and]; exact tabR_pure _ (fun _ h => h) _ hp)⟩, List.forall_mem_cons.2 ⟨⟨(by show some (AV.int .i64 ((tabR tb).length : Int)) = _; rw [tabR_length]), rfl⟩, List.forall_mem_cons.2 ⟨⟨rfl, rfl⟩, (fun _ h => by cases h)⟩⟩⟩⟩, (fun _ h => by cases h)⟩ ⟨rfl, Nat.zero_le _⟩ (fun k hx => ?_)
  obtain ⟨hx, hkl⟩ := hx
  refine AW.seq ?_
  refine AW.region (M := fun _ => true) ?_
  refine AL.v good (d := 12) rfl rfl rfl rfl ?_
  refine AW.seq ?_
  refine AW.if rfl (fun h1 => ?_) (fun h1 => ?_)
  · skip
    refine AW.skip ?_
    refine AW.seq ?_
    refine AW.block ?_
    refine AW.seq ?_
    refine AW.region (M := fun _ => true) ?_
    have hk : k < tb.length := by simpa using h1
    have hget : tb[k]? = some tb[k] := List.getElem?_eq_getElem hk
    refine AL.ix good (d := 13) rfl rfl rfl rfl rfl rfl rfl (Int.natCast_nonneg k) (tabR_get hget) ?_
    refine AL.v good (d := 14) rfl rfl rfl rfl ?_
    refine AL.alc good (d := 7) rfl rfl rfl rfl rfl 0 rfl ?_
    refine AL.st good rfl rfl rfl rfl rfl rfl rfl rfl rfl rfl rfl ?_
    refine AW.seq ?_
    refine AW.region (M := fun _ => true) ?_
    refine AL.v good (d := 15) rfl rfl rfl rfl ?_
    refine AL.v good (d := 16) rfl rfl rfl rfl ?_
    refine AL.v good (d := 17) rfl rfl rfl rfl ?_
    refine AL.v good (d := 18) rfl rfl rfl rfl ?_
    refine AW.if rfl (fun h2 => ?_) (fun h2 => ?_)
    · skip
      refine AW.seq ?_
      refine AW.region (M := fun _ => true) ?_
      refine AL.v good (d := 19) rfl rfl rfl rfl ?_
      refine AL.v good (d := 20) rfl rfl rfl rfl ?_
      refine AL.v good (d := 4) rfl rfl rfl rfl ?_
      refine AL.v good (d := 5) rfl rfl rfl rfl ?_
      refine AW.ret ?_
      refine RetQ.mk good (.inr rfl) rfl rfl ?_
      rw [← hx, drop_get hget]
      simp only [findT]
      rw [if_pos (by simpa [ByteArray.toList_eq] using h2)]
      simp [Wk, WkL, fz, fzL, tupA, spl, fz_pure _ _ (hp _ (List.getElem_mem hk)), Wk.refl]
    · skip
      refine AW.skip ?_
      refine AW.region (M := fun _ => true) ?_
      refine AL.v good (d := 21) rfl rfl rfl rfl ?_
      refine AL.v good (d := 11) rfl rfl rfl rfl ?_
      exact ⟨k + 1, _, _, rfl, ⟨(fun _ h => by cases h), List.forall_mem_cons.2 ⟨⟨rfl, rfl⟩, List.forall_mem_cons.2 ⟨⟨rfl, (by simp only [inA, Bool.true_and]; exact tabR_pure _ (fun _ h => h) _ hp)⟩, List.forall_mem_cons.2 ⟨⟨rfl, rfl⟩, List.forall_mem_cons.2 ⟨⟨(wnext hk hl), rfl⟩, (fun _ h => by cases h)⟩⟩⟩⟩, (fun _ h => by cases h)⟩, (by rw [drop_get hget] at hx; simp only [findT] at hx; rw [if_neg (by simpa [ByteArray.toList_eq] using h2)] at hx; exact ⟨hx, by omega⟩), (by omega)⟩
  · skip
    refine AW.exit ?_
    refine AW.seq ?_
    refine AW.region (M := fun _ => true) ?_
    refine AL.v good (d := 8) rfl rfl rfl rfl ?_
    refine AW.seq ?_
    refine AW.region (M := fun _ => true) ?_
    refine AL.v good (d := 22) rfl rfl rfl rfl ?_
    refine AL.v good (d := 4) rfl rfl rfl rfl ?_
    refine AL.v good (d := 5) rfl rfl rfl rfl ?_
    refine AW.ret ?_
    refine RetQ.mk good (.inr rfl) rfl rfl ?_
    have hk : tb.length ≤ k := by simpa using h1
    rw [← hx, List.drop_eq_nil_of_le hk]
    simp [Wk, WkL, fz, fzL, tupA, findT]

theorem w98 (tb : List (ByteArray × AV)) (n : ByteArray) (hp : tabP tb) : ACall Try.prog 98 [.sl .ro 2 (tabR tb), .str n] (findT tb n) := by
  refine ACall.go [(0, .sl .ro 2 (tabR tb)), (1, .str n)] Try.func98 rfl Try.ntmps98 rfl rfl (findT_pure tb n hp) ?_
  refine AW.seq ?_
  refine AW.region (M := fun _ => true) ?_
  refine AL.v good (d := 4) rfl rfl rfl rfl ?_
  refine AL.v good (d := 5) rfl rfl rfl rfl ?_
  refine AW.seq ?_
  refine AW.seq ?_
  refine AW.region (M := fun _ => true) ?_
  refine AL.v good (d := 9) rfl rfl rfl rfl ?_
  refine AL.v good (d := 10) rfl rfl rfl rfl ?_
  refine AL.v good (d := 11) rfl rfl rfl rfl ?_
  refine AW.block ?_
  refine AW.len 0 rfl (fun hl => ?_)
  rw [tabR_length] at hl
  refine AW.lp (fun k : Nat => [(1, .str n), (9, .sl .ro 2 (tabR tb)), (10, .int .i64 (tb.length : Int)), (11, .int .i64 (k : Int))]) (fun k : Nat => []) (fun k : Nat => findT (tb.drop k) n = findT tb n ∧ k ≤ tb.length) (fun k : Nat => tb.length - k) 0 ⟨(fun _ h => by cases h), List.forall_mem_cons.2 ⟨⟨rfl, rfl⟩, List.forall_mem_cons.2 ⟨⟨rfl, (by simp only [inA, Bool.true_and]; exact tabR_pure _ (fun _ h => h) _ hp)⟩, List.forall_mem_cons.2 ⟨⟨(by show some (AV.int .i64 ((tabR tb).length : Int)) = _; rw [tabR_length]), rfl⟩, List.forall_mem_cons.2 ⟨⟨rfl, rfl⟩, (fun _ h => by cases h)⟩⟩⟩⟩, (fun _ h => by cases h)⟩ ⟨rfl, Nat.zero_le _⟩ (fun k hx => ?_)
  obtain ⟨hx, hkl⟩ := hx
  refine AW.seq ?_
  refine AW.region (M := fun _ => true) ?_
  refine AL.v good (d := 12) rfl rfl rfl rfl ?_
  refine AW.seq ?_
  refine AW.if rfl (fun h1 => ?_) (fun h1 => ?_)
  · skip
    refine AW.skip ?_
    refine AW.seq ?_
    refine AW.block ?_
    refine AW.seq ?_
    refine AW.region (M := fun _ => true) ?_
    have hk : k < tb.length := by simpa using h1
    have hget : tb[k]? = some tb[k] := List.getElem?_eq_getElem hk
    refine AL.ix good (d := 13) rfl rfl rfl rfl rfl rfl rfl (Int.natCast_nonneg k) (tabR_get hget) ?_
    refine AL.v good (d := 14) rfl rfl rfl rfl ?_
    refine AL.alc good (d := 7) rfl rfl rfl rfl rfl 0 rfl ?_
    refine AL.st good rfl rfl rfl rfl rfl rfl rfl rfl rfl rfl rfl ?_
    refine AW.seq ?_
    refine AW.region (M := fun _ => true) ?_
    refine AL.v good (d := 15) rfl rfl rfl rfl ?_
    refine AL.v good (d := 16) rfl rfl rfl rfl ?_
    refine AL.v good (d := 17) rfl rfl rfl rfl ?_
    refine AL.v good (d := 18) rfl rfl rfl rfl ?_
    refine AW.if rfl (fun h2 => ?_) (fun h2 => ?_)
    · skip
      refine AW.seq ?_
      refine AW.region (M := fun _ => true) ?_
      refine AL.v good (d := 19) rfl rfl rfl rfl ?_
      refine AL.v good (d := 20) rfl rfl rfl rfl ?_
      refine AL.v good (d := 4) rfl rfl rfl rfl ?_
      refine AL.v good (d := 5) rfl rfl rfl rfl ?_
      refine AW.ret ?_
      refine RetQ.mk good (.inr rfl) rfl rfl ?_
      rw [← hx, drop_get hget]
      simp only [findT]
      rw [if_pos (by simpa [ByteArray.toList_eq] using h2)]
      simp [Wk, WkL, fz, fzL, tupA, spl, fz_pure _ _ (hp _ (List.getElem_mem hk)), Wk.refl]
    · skip
      refine AW.skip ?_
      refine AW.region (M := fun _ => true) ?_
      refine AL.v good (d := 21) rfl rfl rfl rfl ?_
      refine AL.v good (d := 11) rfl rfl rfl rfl ?_
      exact ⟨k + 1, _, _, rfl, ⟨(fun _ h => by cases h), List.forall_mem_cons.2 ⟨⟨rfl, rfl⟩, List.forall_mem_cons.2 ⟨⟨rfl, (by simp only [inA, Bool.true_and]; exact tabR_pure _ (fun _ h => h) _ hp)⟩, List.forall_mem_cons.2 ⟨⟨rfl, rfl⟩, List.forall_mem_cons.2 ⟨⟨(wnext hk hl), rfl⟩, (fun _ h => by cases h)⟩⟩⟩⟩, (fun _ h => by cases h)⟩, (by rw [drop_get hget] at hx; simp only [findT] at hx; rw [if_neg (by simpa [ByteArray.toList_eq] using h2)] at hx; exact ⟨hx, by omega⟩), (by omega)⟩
  · skip
    refine AW.exit ?_
    refine AW.seq ?_
    refine AW.region (M := fun _ => true) ?_
    refine AL.v good (d := 8) rfl rfl rfl rfl ?_
    refine AW.seq ?_
    refine AW.region (M := fun _ => true) ?_
    refine AL.v good (d := 22) rfl rfl rfl rfl ?_
    refine AL.v good (d := 4) rfl rfl rfl rfl ?_
    refine AL.v good (d := 5) rfl rfl rfl rfl ?_
    refine AW.ret ?_
    refine RetQ.mk good (.inr rfl) rfl rfl ?_
    have hk : tb.length ≤ k := by simpa using h1
    rw [← hx, List.drop_eq_nil_of_le hk]
    simp [Wk, WkL, fz, fzL, tupA, findT]

def onesT : List (ByteArray × AV) := [(⟨#[110, 101, 103]⟩, .func 122 [] []), (⟨#[110, 111, 116]⟩, .func 123 [] []), (⟨#[108, 101, 110]⟩, .func 124 [] [])]
def twosT : List (ByteArray × AV) := [(⟨#[97, 100, 100]⟩, .func 147 [] [.ep [.func 126 [] []]]), (⟨#[115, 117, 98]⟩, .func 147 [] [.ep [.func 127 [] []]]), (⟨#[109, 117, 108]⟩, .func 147 [] [.ep [.func 128 [] []]]), (⟨#[100, 105, 118]⟩, .func 148 [] [.ep [.func 130 [] []]]), (⟨#[114, 101, 109]⟩, .func 148 [] [.ep [.func 131 [] []]]), (⟨#[101, 113]⟩, .func 132 [] []), (⟨#[108, 116]⟩, .func 133 [] []), (⟨#[99, 97, 116]⟩, .func 134 [] [])]
theorem onesT_p : tabP onesT := by
  have h : onesT.all (fun p => pureA p.2) = true := rfl
  exact fun p hp => List.all_eq_true.1 h p hp
theorem twosT_p : tabP twosT := by
  have h : twosT.all (fun p => pureA p.2) = true := rfl
  exact fun p hp => List.all_eq_true.1 h p hp

theorem w95  : ACall Try.prog 95 [] (.sl .ro 2 (tabR onesT)) := by
  refine ACall.go [] Try.func95 rfl Try.ntmps95 rfl rfl rfl ?_
  refine AW.seq ?_
  refine AW.region (M := fun _ => true) ?_
  refine AL.v good (d := 0) rfl rfl rfl rfl ?_
  refine AW.seq ?_
  refine AW.region (M := fun _ => true) ?_
  refine AL.bld good (d := 1) rfl rfl rfl rfl rfl rfl rfl ?_
  refine AL.bld good (d := 2) rfl rfl rfl rfl rfl rfl rfl ?_
  refine AL.bld good (d := 3) rfl rfl rfl rfl rfl rfl rfl ?_
  refine AL.lit good (d := 4) rfl rfl rfl rfl rfl rfl rfl rfl rfl 0 rfl ?_
  refine AL.v good (d := 0) rfl rfl rfl rfl ?_
  refine AW.ret ?_
  refine RetQ.mk good (.inr rfl) rfl rfl ?_
  exact ⟨.inl rfl, rfl, .inl rfl⟩

theorem w97  : ACall Try.prog 97 [] (.sl .ro 2 (tabR twosT)) := by
  refine ACall.go [] Try.func97 rfl Try.ntmps97 rfl rfl rfl ?_
  refine AW.seq ?_
  refine AW.region (M := fun _ => true) ?_
  refine AL.v good (d := 0) rfl rfl rfl rfl ?_
  refine AW.seq ?_
  refine AW.region (M := fun _ => true) ?_
  refine AL.clp good (d := 1) rfl rfl rfl rfl rfl rfl rfl (w125_126) (rfl) ?_
  refine AL.bld good (d := 2) rfl rfl rfl rfl rfl rfl rfl ?_
  refine AL.clp good (d := 3) rfl rfl rfl rfl rfl rfl rfl (w125_127) (rfl) ?_
  refine AL.bld good (d := 4) rfl rfl rfl rfl rfl rfl rfl ?_
  refine AL.clp good (d := 5) rfl rfl rfl rfl rfl rfl rfl (w125_128) (rfl) ?_
  refine AL.bld good (d := 6) rfl rfl rfl rfl rfl rfl rfl ?_
  refine AL.clp good (d := 7) rfl rfl rfl rfl rfl rfl rfl (w129_130) (rfl) ?_
  refine AL.bld good (d := 8) rfl rfl rfl rfl rfl rfl rfl ?_
  refine AL.clp good (d := 9) rfl rfl rfl rfl rfl rfl rfl (w129_131) (rfl) ?_
  refine AL.bld good (d := 10) rfl rfl rfl rfl rfl rfl rfl ?_
  refine AL.bld good (d := 11) rfl rfl rfl rfl rfl rfl rfl ?_
  refine AL.bld good (d := 12) rfl rfl rfl rfl rfl rfl rfl ?_
  refine AL.bld good (d := 13) rfl rfl rfl rfl rfl rfl rfl ?_
  refine AL.lit good (d := 14) rfl rfl rfl rfl rfl rfl rfl rfl rfl 0 rfl ?_
  refine AL.v good (d := 0) rfl rfl rfl rfl ?_
  refine AW.ret ?_
  refine RetQ.mk good (.inr rfl) rfl rfl ?_
  exact ⟨.inl rfl, rfl, .inl rfl⟩

end Go.Proofs.Ytbcjcekoonebiaa.Tl
