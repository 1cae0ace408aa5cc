/- Walks: ops of one value, of two. Conditions: none. -/
import Derived.Test.YtbcjcekoonebiaaTlWc
set_option linter.unusedVariables false
set_option linter.unusedSimpArgs false
namespace Go.Proofs.Ytbcjcekoonebiaa.Tl
open Go Go.RowKit

theorem w132 (a b : Val) : ACall Try.prog 132 [.agg (valC a), .agg (valC b)] (.tup [.agg [.int .i64 2, .int .i64 0, .bool (cmpV a b == 0), .str ⟨#[]⟩, .sl .ro 5 []], .int .i64 0]) := by
  refine ACall.go [(0, .agg (valC a)), (1, .agg (valC b))] Try.func132 rfl Try.ntmps132 rfl rfl rfl ?_
  refine AW.seq ?_
  refine AW.region (M := fun _ => true) ?_
  refine AL.bx good (d := 2) rfl rfl rfl rfl rfl rfl 0 rfl ?_
  refine AL.bx good (d := 3) rfl rfl rfl rfl rfl rfl 1 rfl ?_
  refine AL.alc good (d := 4) rfl rfl rfl rfl rfl 2 rfl ?_
  refine AL.v good (d := 5) rfl rfl rfl rfl ?_
  refine AW.seq ?_
  refine AW.region (M := fun _ => true) ?_
  refine AL.v good (d := 6) rfl rfl rfl rfl ?_
  refine AL.v good (d := 7) rfl rfl rfl rfl ?_
  refine AL.clp good (d := 8) rfl rfl rfl rfl rfl rfl rfl (w35 a b) ((by simp [pureL, inL, inA, inR, spl, encs_pure])) ?_
  refine AL.clp good (d := 9) rfl rfl rfl rfl rfl rfl rfl (w32 _) (rfl) ?_
  refine AL.st good rfl rfl rfl rfl rfl rfl rfl rfl rfl rfl rfl ?_
  refine AL.v good (d := 5) rfl rfl rfl rfl ?_
  refine AW.ret ?_
  refine RetQ.mk good (.inr rfl) rfl rfl ?_
  simp [Wk, WkL, fz, fzL, fzR, tupA, spl]

theorem w133 (a b : Val) : ACall Try.prog 133 [.agg (valC a), .agg (valC b)] (.tup [.agg [.int .i64 2, .int .i64 0, .bool (decide (cmpV a b < 0)), .str ⟨#[]⟩, .sl .ro 5 []], .int .i64 0]) := by
  refine ACall.go [(0, .agg (valC a)), (1, .agg (valC b))] Try.func133 rfl Try.ntmps133 rfl rfl rfl ?_
  refine AW.seq ?_
  refine AW.region (M := fun _ => true) ?_
  refine AL.bx good (d := 2) rfl rfl rfl rfl rfl rfl 0 rfl ?_
  refine AL.bx good (d := 3) rfl rfl rfl rfl rfl rfl 1 rfl ?_
  refine AL.alc good (d := 4) rfl rfl rfl rfl rfl 2 rfl ?_
  refine AL.v good (d := 5) rfl rfl rfl rfl ?_
  refine AW.seq ?_
  refine AW.region (M := fun _ => true) ?_
  refine AL.v good (d := 6) rfl rfl rfl rfl ?_
  refine AL.v good (d := 7) rfl rfl rfl rfl ?_
  refine AL.clp good (d := 8) rfl rfl rfl rfl rfl rfl rfl (w69 a b) ((by simp [pureL, inL, inA, inR, spl, encs_pure])) ?_
  refine AL.v good (d := 9) rfl rfl rfl rfl ?_
  refine AL.clp good (d := 10) rfl rfl rfl rfl rfl rfl rfl (w32 _) (rfl) ?_
  refine AL.st good rfl rfl rfl rfl rfl rfl rfl rfl rfl rfl rfl ?_
  refine AL.v good (d := 5) rfl rfl rfl rfl ?_
  refine AW.ret ?_
  refine RetQ.mk good (.inr rfl) rfl rfl ?_
  simp [Wk, WkL, fz, fzL, fzR, tupA, spl]

theorem w134 (a b : Val) (hs : a.s.size + b.s.size ≤ 9223372036854775807) : ACall Try.prog 134 [.agg (valC a), .agg (valC b)] ((if 255 < a.s.size + b.s.size then .tup [.agg [.int .i64 0, .int .i64 0, .bool false, .str ⟨#[]⟩, .sl .ro 5 []], .int .i64 4] else .tup [.agg [.int .i64 3, .int .i64 0, .bool false, .str (a.s ++ b.s), .sl .ro 5 []], .int .i64 0])) := by
  refine ACall.go [(0, .agg (valC a)), (1, .agg (valC b))] Try.func134 rfl Try.ntmps134 rfl rfl (by split <;> rfl) ?_
  refine AW.seq ?_
  refine AW.region (M := fun _ => true) ?_
  refine AL.bx good (d := 2) rfl rfl rfl rfl rfl rfl 0 rfl ?_
  refine AL.bx good (d := 3) rfl rfl rfl rfl rfl rfl 1 rfl ?_
  refine AL.alc good (d := 4) rfl rfl rfl rfl rfl 2 rfl ?_
  refine AL.v good (d := 5) rfl rfl rfl rfl ?_
  refine AW.seq ?_
  refine AW.seq ?_
  refine AW.region (M := fun _ => true) ?_
  refine AL.v good (d := 6) rfl rfl rfl rfl ?_
  refine AL.v good (d := 7) rfl rfl rfl rfl ?_
  refine AL.v good (d := 8) rfl rfl rfl rfl ?_
  refine AL.v good (d := 9) rfl rfl rfl rfl ?_
  refine AL.v good (d := 10) rfl rfl rfl rfl ?_
  refine AL.v good (d := 11) rfl rfl rfl rfl ?_
  refine AL.v good (d := 12) rfl rfl rfl rfl ?_
  refine AL.v good (d := 13) rfl rfl rfl rfl ?_
  refine AW.if rfl (fun h1 => ?_) (fun h1 => ?_)
  · skip
    refine AW.seq ?_
    refine AW.region (M := fun _ => true) ?_
    refine AL.bld good (d := 14) rfl rfl rfl rfl rfl rfl rfl ?_
    refine AL.st good rfl rfl rfl rfl rfl rfl rfl rfl rfl rfl rfl ?_
    refine AL.v good (d := 5) rfl rfl rfl rfl ?_
    refine AW.ret ?_
    refine RetQ.mk good (.inr rfl) rfl rfl ?_
    rw [wrap64 (by omega) (by omega)] at h1
    rw [if_pos (by simpa using (by simpa using h1 : (255 : Int) < (a.s.size : Int) + (b.s.size : Int)) |> fun h => by omega)]
    simp [Wk, WkL, fz, fzL, fzR, tupA, spl]
  · skip
    refine AW.skip ?_
    refine AW.seq ?_
    refine AW.region (M := fun _ => true) ?_
    refine AL.v good (d := 15) rfl rfl rfl rfl ?_
    refine AL.v good (d := 16) rfl rfl rfl rfl ?_
    refine AL.v good (d := 17) rfl rfl rfl rfl ?_
    refine AL.v good (d := 18) rfl rfl rfl rfl ?_
    refine AL.v good (d := 19) rfl rfl rfl (by show Option.map (fun z => (z, [])) (if a.s.size + b.s.size ≤ 9223372036854775807 then some (AV.str (a.s ++ b.s)) else none) = _; rw [if_pos hs]; rfl) ?_
    refine AL.clp good (d := 20) rfl rfl rfl rfl rfl rfl rfl (w33 _) (rfl) ?_
    refine AL.st good rfl rfl rfl rfl rfl rfl rfl rfl rfl rfl rfl ?_
    refine AL.v good (d := 5) rfl rfl rfl rfl ?_
    refine AW.ret ?_
    refine RetQ.mk good (.inr rfl) rfl rfl ?_
    rw [wrap64 (by omega) (by omega)] at h1
    have hq : (a.s.size : Int) + (b.s.size : Int) ≤ 255 := by simpa using h1
    rw [if_neg (by omega)]
    simp [Wk, WkL, fz, fzL, fzR, tupA, spl]

theorem w134_l (a b : Val) (hs : a.s.size + b.s.size ≤ 9223372036854775807) (h : 255 < a.s.size + b.s.size) : ACall Try.prog 134 [.agg (valC a), .agg (valC b)] (.tup [.agg [.int .i64 0, .int .i64 0, .bool false, .str ⟨#[]⟩, .sl .ro 5 []], .int .i64 4]) := by
  have := w134 a b hs
  rw [if_pos h] at this
  exact this
theorem w134_o (a b : Val) (h : ¬ 255 < a.s.size + b.s.size) : ACall Try.prog 134 [.agg (valC a), .agg (valC b)] (.tup [.agg [.int .i64 3, .int .i64 0, .bool false, .str (a.s ++ b.s), .sl .ro 5 []], .int .i64 0]) := by
  have := w134 a b (by omega)
  rw [if_neg h] at this
  exact this

theorem w148_130_z (a b : Val) (h : b.i = 0) : ACall Try.prog 148 [.agg (valC a), .agg (valC b), .ep [.func 130 [] []]] (.tup [.agg [.int .i64 0, .int .i64 0, .bool false, .str ⟨#[]⟩, .sl .ro 5 []], .int .i64 8]) := by
  have := w148_130 a b
  rw [if_pos h] at this
  exact this
theorem w148_130_n (a b : Val) (h : ¬ b.i = 0) : ACall Try.prog 148 [.agg (valC a), .agg (valC b), .ep [.func 130 [] []]] (.tup [.agg [.int .i64 1, .int .i64 (IntKind.i64.wrap (a.i.tdiv b.i)), .bool false, .str ⟨#[]⟩, .sl .ro 5 []], .int .i64 0]) := by
  have := w148_130 a b
  rw [if_neg h] at this
  exact this

theorem w148_131_z (a b : Val) (h : b.i = 0) : ACall Try.prog 148 [.agg (valC a), .agg (valC b), .ep [.func 131 [] []]] (.tup [.agg [.int .i64 0, .int .i64 0, .bool false, .str ⟨#[]⟩, .sl .ro 5 []], .int .i64 8]) := by
  have := w148_131 a b
  rw [if_pos h] at this
  exact this
theorem w148_131_n (a b : Val) (h : ¬ b.i = 0) : ACall Try.prog 148 [.agg (valC a), .agg (valC b), .ep [.func 131 [] []]] (.tup [.agg [.int .i64 1, .int .i64 (a.i.tmod b.i), .bool false, .str ⟨#[]⟩, .sl .ro 5 []], .int .i64 0]) := by
  have := w148_131 a b
  rw [if_neg h] at this
  exact this

theorem w61_neg (op : ByteArray) (a : Val) (hf : findT onesT op = .tup [.func 122 [] [], .bool true]) : ACall Try.prog 61 [.str op, .agg (valC a)] (.tup [.agg [.int .i64 1, .int .i64 (IntKind.i64.wrap (0 - a.i)), .bool false, .str ⟨#[]⟩, .sl .ro 5 []], .bool true]) := by
  refine ACall.go [(0, .str op), (1, .agg (valC a))] Try.func61 rfl Try.ntmps61 rfl rfl rfl ?_
  refine AW.seq ?_
  refine AW.region (M := fun _ => true) ?_
  refine AL.bx good (d := 3) rfl rfl rfl rfl rfl rfl 0 rfl ?_
  refine AL.alc good (d := 4) rfl rfl rfl rfl rfl 1 rfl ?_
  refine AL.v good (d := 5) rfl rfl rfl rfl ?_
  refine AW.seq ?_
  refine AW.region (M := fun _ => true) ?_
  refine AL.clp good (d := 9) rfl rfl rfl rfl rfl rfl rfl (w95) (rfl) ?_
  refine AL.v good (d := 10) rfl rfl rfl rfl ?_
  refine AL.clp good (d := 11) rfl rfl rfl rfl rfl rfl rfl (by have hq := w96 onesT op onesT_p; rw [hf] at hq; exact hq) (rfl) ?_
  refine AL.v good (d := 8) rfl rfl rfl rfl ?_
  refine AL.v good (d := 12) rfl rfl rfl rfl ?_
  refine AL.v good (d := 13) rfl rfl rfl rfl ?_
  refine AL.v good (d := 6) rfl rfl rfl rfl ?_
  refine AL.v good (d := 7) rfl rfl rfl rfl ?_
  refine AW.seq ?_
  refine AW.seq ?_
  refine AW.region (M := fun _ => true) ?_
  refine AL.v good (d := 14) rfl rfl rfl rfl ?_
  refine AL.v good (d := 15) rfl rfl rfl rfl ?_
  refine AW.if rfl (fun h => by cases h) (fun _ => ?_)
  refine AW.skip ?_
  refine AW.seq ?_
  refine AW.region (M := fun _ => true) ?_
  refine AL.v good (d := 17) rfl rfl rfl rfl ?_
  refine AL.v good (d := 18) rfl rfl rfl rfl ?_
  refine AL.clp good (d := 19) rfl rfl rfl rfl rfl rfl rfl (w122 a) ((by simp [pureL, inL, inA, inR, spl, encs_pure])) ?_
  refine AL.st good rfl rfl rfl rfl rfl rfl rfl rfl rfl rfl rfl ?_
  refine AL.v good (d := 5) rfl rfl rfl rfl ?_
  refine AW.ret ?_
  refine RetQ.mk good (.inr rfl) rfl rfl ?_
  simp [Wk, WkL, fz, fzL, fzR, tupA, spl]

theorem w61_not (op : ByteArray) (a : Val) (hf : findT onesT op = .tup [.func 123 [] [], .bool true]) : ACall Try.prog 61 [.str op, .agg (valC a)] (.tup [.agg [.int .i64 2, .int .i64 0, .bool (!a.b), .str ⟨#[]⟩, .sl .ro 5 []], .bool true]) := by
  refine ACall.go [(0, .str op), (1, .agg (valC a))] Try.func61 rfl Try.ntmps61 rfl rfl rfl ?_
  refine AW.seq ?_
  refine AW.region (M := fun _ => true) ?_
  refine AL.bx good (d := 3) rfl rfl rfl rfl rfl rfl 0 rfl ?_
  refine AL.alc good (d := 4) rfl rfl rfl rfl rfl 1 rfl ?_
  refine AL.v good (d := 5) rfl rfl rfl rfl ?_
  refine AW.seq ?_
  refine AW.region (M := fun _ => true) ?_
  refine AL.clp good (d := 9) rfl rfl rfl rfl rfl rfl rfl (w95) (rfl) ?_
  refine AL.v good (d := 10) rfl rfl rfl rfl ?_
  refine AL.clp good (d := 11) rfl rfl rfl rfl rfl rfl rfl (by have hq := w96 onesT op onesT_p; rw [hf] at hq; exact hq) (rfl) ?_
  refine AL.v good (d := 8) rfl rfl rfl rfl ?_
  refine AL.v good (d := 12) rfl rfl rfl rfl ?_
  refine AL.v good (d := 13) rfl rfl rfl rfl ?_
  refine AL.v good (d := 6) rfl rfl rfl rfl ?_
  refine AL.v good (d := 7) rfl rfl rfl rfl ?_
  refine AW.seq ?_
  refine AW.seq ?_
  refine AW.region (M := fun _ => true) ?_
  refine AL.v good (d := 14) rfl rfl rfl rfl ?_
  refine AL.v good (d := 15) rfl rfl rfl rfl ?_
  refine AW.if rfl (fun h => by cases h) (fun _ => ?_)
  refine AW.skip ?_
  refine AW.seq ?_
  refine AW.region (M := fun _ => true) ?_
  refine AL.v good (d := 17) rfl rfl rfl rfl ?_
  refine AL.v good (d := 18) rfl rfl rfl rfl ?_
  refine AL.clp good (d := 19) rfl rfl rfl rfl rfl rfl rfl (w123 a) ((by simp [pureL, inL, inA, inR, spl, encs_pure])) ?_
  refine AL.st good rfl rfl rfl rfl rfl rfl rfl rfl rfl rfl rfl ?_
  refine AL.v good (d := 5) rfl rfl rfl rfl ?_
  refine AW.ret ?_
  refine RetQ.mk good (.inr rfl) rfl rfl ?_
  simp [Wk, WkL, fz, fzL, fzR, tupA, spl]

theorem w61_len (op : ByteArray) (a : Val) (hf : findT onesT op = .tup [.func 124 [] [], .bool true]) : ACall Try.prog 61 [.str op, .agg (valC a)] (.tup [.agg [.int .i64 1, .int .i64 (a.s.size : Int), .bool false, .str ⟨#[]⟩, .sl .ro 5 []], .bool true]) := by
  refine ACall.go [(0, .str op), (1, .agg (valC a))] Try.func61 rfl Try.ntmps61 rfl rfl rfl ?_
  refine AW.seq ?_
  refine AW.region (M := fun _ => true) ?_
  refine AL.bx good (d := 3) rfl rfl rfl rfl rfl rfl 0 rfl ?_
  refine AL.alc good (d := 4) rfl rfl rfl rfl rfl 1 rfl ?_
  refine AL.v good (d := 5) rfl rfl rfl rfl ?_
  refine AW.seq ?_
  refine AW.region (M := fun _ => true) ?_
  refine AL.clp good (d := 9) rfl rfl rfl rfl rfl rfl rfl (w95) (rfl) ?_
  refine AL.v good (d := 10) rfl rfl rfl rfl ?_
  refine AL.clp good (d := 11) rfl rfl rfl rfl rfl rfl rfl (by have hq := w96 onesT op onesT_p; rw [hf] at hq; exact hq) (rfl) ?_
  refine AL.v good (d := 8) rfl rfl rfl rfl ?_
  refine AL.v good (d := 12) rfl rfl rfl rfl ?_
  refine AL.v good (d := 13) rfl rfl rfl rfl ?_
  refine AL.v good (d := 6) rfl rfl rfl rfl ?_
  refine AL.v good (d := 7) rfl rfl rfl rfl ?_
  refine AW.seq ?_
  refine AW.seq ?_
  refine AW.region (M := fun _ => true) ?_
  refine AL.v good (d := 14) rfl rfl rfl rfl ?_
  refine AL.v good (d := 15) rfl rfl rfl rfl ?_
  refine AW.if rfl (fun h => by cases h) (fun _ => ?_)
  refine AW.skip ?_
  refine AW.seq ?_
  refine AW.region (M := fun _ => true) ?_
  refine AL.v good (d := 17) rfl rfl rfl rfl ?_
  refine AL.v good (d := 18) rfl rfl rfl rfl ?_
  refine AL.clp good (d := 19) rfl rfl rfl rfl rfl rfl rfl (w124 a) ((by simp [pureL, inL, inA, inR, spl, encs_pure])) ?_
  refine AL.st good rfl rfl rfl rfl rfl rfl rfl rfl rfl rfl rfl ?_
  refine AL.v good (d := 5) rfl rfl rfl rfl ?_
  refine AW.ret ?_
  refine RetQ.mk good (.inr rfl) rfl rfl ?_
  simp [Wk, WkL, fz, fzL, fzR, tupA, spl]

theorem w62_add (op : ByteArray) (a b : Val) (hf : findT twosT op = .tup [.func 147 [] [.ep [.func 126 [] []]], .bool true])  : ACall Try.prog 62 [.str op, .agg (valC a), .agg (valC b)] (.tup [.agg [.int .i64 1, .int .i64 (IntKind.i64.wrap (a.i + b.i)), .bool false, .str ⟨#[]⟩, .sl .ro 5 []], .int .i64 0, .bool true]) := by
  refine ACall.go [(0, .str op), (1, .agg (valC a)), (2, .agg (valC b))] Try.func62 rfl Try.ntmps62 rfl rfl rfl ?_
  refine AW.seq ?_
  refine AW.region (M := fun _ => true) ?_
  refine AL.bx good (d := 4) rfl rfl rfl rfl rfl rfl 0 rfl ?_
  refine AL.bx good (d := 5) rfl rfl rfl rfl rfl rfl 1 rfl ?_
  refine AL.alc good (d := 6) rfl rfl rfl rfl rfl 2 rfl ?_
  refine AL.v good (d := 7) rfl rfl rfl rfl ?_
  refine AL.v good (d := 8) rfl rfl rfl rfl ?_
  refine AW.seq ?_
  refine AW.region (M := fun _ => true) ?_
  refine AL.clp good (d := 14) rfl rfl rfl rfl rfl rfl rfl (w97) (rfl) ?_
  refine AL.v good (d := 15) rfl rfl rfl rfl ?_
  refine AL.clp good (d := 16) rfl rfl rfl rfl rfl rfl rfl (by have hq := w98 twosT op twosT_p; rw [hf] at hq; exact hq) (rfl) ?_
  refine AL.v good (d := 13) rfl rfl rfl rfl ?_
  refine AL.v good (d := 17) rfl rfl rfl rfl ?_
  refine AL.v good (d := 18) rfl rfl rfl rfl ?_
  refine AL.v good (d := 9) rfl rfl rfl rfl ?_
  refine AL.v good (d := 10) rfl rfl rfl rfl ?_
  refine AW.seq ?_
  refine AW.seq ?_
  refine AW.region (M := fun _ => true) ?_
  refine AL.v good (d := 19) rfl rfl rfl rfl ?_
  refine AL.v good (d := 20) rfl rfl rfl rfl ?_
  refine AW.if rfl (fun h => by cases h) (fun _ => ?_)
  refine AW.skip ?_
  refine AW.seq ?_
  refine AW.region (M := fun _ => true) ?_
  refine AL.v good (d := 23) rfl rfl rfl rfl ?_
  refine AL.v good (d := 24) rfl rfl rfl rfl ?_
  refine AL.v good (d := 25) rfl rfl rfl rfl ?_
  refine AL.clp good (d := 26) rfl rfl rfl rfl rfl rfl rfl (w147_126 a b) ((by simp [pureL, inL, inA, inR, spl, encs_pure])) ?_
  refine AL.v good (d := 22) rfl rfl rfl rfl ?_
  refine AL.v good (d := 27) rfl rfl rfl rfl ?_
  refine AL.v good (d := 28) rfl rfl rfl rfl ?_
  refine AL.alc good (d := 11) rfl rfl rfl rfl rfl 3 rfl ?_
  refine AL.st good rfl rfl rfl rfl rfl rfl rfl rfl rfl rfl rfl ?_
  refine AL.v good (d := 12) rfl rfl rfl rfl ?_
  refine AW.seq ?_
  refine AW.region (M := fun _ => true) ?_
  refine AL.v good (d := 29) rfl rfl rfl rfl ?_
  refine AL.v good (d := 30) rfl rfl rfl rfl ?_
  refine AL.st good rfl rfl rfl rfl rfl rfl rfl rfl rfl rfl rfl ?_
  refine AL.v good (d := 7) rfl rfl rfl rfl ?_
  refine AL.v good (d := 8) rfl rfl rfl rfl ?_
  refine AW.ret ?_
  refine RetQ.mk good (.inr rfl) rfl rfl ?_
  simp [Wk, WkL, fz, fzL, fzR, tupA, spl]

theorem w62_sub (op : ByteArray) (a b : Val) (hf : findT twosT op = .tup [.func 147 [] [.ep [.func 127 [] []]], .bool true])  : ACall Try.prog 62 [.str op, .agg (valC a), .agg (valC b)] (.tup [.agg [.int .i64 1, .int .i64 (IntKind.i64.wrap (a.i - b.i)), .bool false, .str ⟨#[]⟩, .sl .ro 5 []], .int .i64 0, .bool true]) := by
  refine ACall.go [(0, .str op), (1, .agg (valC a)), (2, .agg (valC b))] Try.func62 rfl Try.ntmps62 rfl rfl rfl ?_
  refine AW.seq ?_
  refine AW.region (M := fun _ => true) ?_
  refine AL.bx good (d := 4) rfl rfl rfl rfl rfl rfl 0 rfl ?_
  refine AL.bx good (d := 5) rfl rfl rfl rfl rfl rfl 1 rfl ?_
  refine AL.alc good (d := 6) rfl rfl rfl rfl rfl 2 rfl ?_
  refine AL.v good (d := 7) rfl rfl rfl rfl ?_
  refine AL.v good (d := 8) rfl rfl rfl rfl ?_
  refine AW.seq ?_
  refine AW.region (M := fun _ => true) ?_
  refine AL.clp good (d := 14) rfl rfl rfl rfl rfl rfl rfl (w97) (rfl) ?_
  refine AL.v good (d := 15) rfl rfl rfl rfl ?_
  refine AL.clp good (d := 16) rfl rfl rfl rfl rfl rfl rfl (by have hq := w98 twosT op twosT_p; rw [hf] at hq; exact hq) (rfl) ?_
  refine AL.v good (d := 13) rfl rfl rfl rfl ?_
  refine AL.v good (d := 17) rfl rfl rfl rfl ?_
  refine AL.v good (d := 18) rfl rfl rfl rfl ?_
  refine AL.v good (d := 9) rfl rfl rfl rfl ?_
  refine AL.v good (d := 10) rfl rfl rfl rfl ?_
  refine AW.seq ?_
  refine AW.seq ?_
  refine AW.region (M := fun _ => true) ?_
  refine AL.v good (d := 19) rfl rfl rfl rfl ?_
  refine AL.v good (d := 20) rfl rfl rfl rfl ?_
  refine AW.if rfl (fun h => by cases h) (fun _ => ?_)
  refine AW.skip ?_
  refine AW.seq ?_
  refine AW.region (M := fun _ => true) ?_
  refine AL.v good (d := 23) rfl rfl rfl rfl ?_
  refine AL.v good (d := 24) rfl rfl rfl rfl ?_
  refine AL.v good (d := 25) rfl rfl rfl rfl ?_
  refine AL.clp good (d := 26) rfl rfl rfl rfl rfl rfl rfl (w147_127 a b) ((by simp [pureL, inL, inA, inR, spl, encs_pure])) ?_
  refine AL.v good (d := 22) rfl rfl rfl rfl ?_
  refine AL.v good (d := 27) rfl rfl rfl rfl ?_
  refine AL.v good (d := 28) rfl rfl rfl rfl ?_
  refine AL.alc good (d := 11) rfl rfl rfl rfl rfl 3 rfl ?_
  refine AL.st good rfl rfl rfl rfl rfl rfl rfl rfl rfl rfl rfl ?_
  refine AL.v good (d := 12) rfl rfl rfl rfl ?_
  refine AW.seq ?_
  refine AW.region (M := fun _ => true) ?_
  refine AL.v good (d := 29) rfl rfl rfl rfl ?_
  refine AL.v good (d := 30) rfl rfl rfl rfl ?_
  refine AL.st good rfl rfl rfl rfl rfl rfl rfl rfl rfl rfl rfl ?_
  refine AL.v good (d := 7) rfl rfl rfl rfl ?_
  refine AL.v good (d := 8) rfl rfl rfl rfl ?_
  refine AW.ret ?_
  refine RetQ.mk good (.inr rfl) rfl rfl ?_
  simp [Wk, WkL, fz, fzL, fzR, tupA, spl]

theorem w62_mul (op : ByteArray) (a b : Val) (hf : findT twosT op = .tup [.func 147 [] [.ep [.func 128 [] []]], .bool true])  : ACall Try.prog 62 [.str op, .agg (valC a), .agg (valC b)] (.tup [.agg [.int .i64 1, .int .i64 (IntKind.i64.wrap (a.i * b.i)), .bool false, .str ⟨#[]⟩, .sl .ro 5 []], .int .i64 0, .bool true]) := by
  refine ACall.go [(0, .str op), (1, .agg (valC a)), (2, .agg (valC b))] Try.func62 rfl Try.ntmps62 rfl rfl rfl ?_
  refine AW.seq ?_
  refine AW.region (M := fun _ => true) ?_
  refine AL.bx good (d := 4) rfl rfl rfl rfl rfl rfl 0 rfl ?_
  refine AL.bx good (d := 5) rfl rfl rfl rfl rfl rfl 1 rfl ?_
  refine AL.alc good (d := 6) rfl rfl rfl rfl rfl 2 rfl ?_
  refine AL.v good (d := 7) rfl rfl rfl rfl ?_
  refine AL.v good (d := 8) rfl rfl rfl rfl ?_
  refine AW.seq ?_
  refine AW.region (M := fun _ => true) ?_
  refine AL.clp good (d := 14) rfl rfl rfl rfl rfl rfl rfl (w97) (rfl) ?_
  refine AL.v good (d := 15) rfl rfl rfl rfl ?_
  refine AL.clp good (d := 16) rfl rfl rfl rfl rfl rfl rfl (by have hq := w98 twosT op twosT_p; rw [hf] at hq; exact hq) (rfl) ?_
  refine AL.v good (d := 13) rfl rfl rfl rfl ?_
  refine AL.v good (d := 17) rfl rfl rfl rfl ?_
  refine AL.v good (d := 18) rfl rfl rfl rfl ?_
  refine AL.v good (d := 9) rfl rfl rfl rfl ?_
  refine AL.v good (d := 10) rfl rfl rfl rfl ?_
  refine AW.seq ?_
  refine AW.seq ?_
  refine AW.region (M := fun _ => true) ?_
  refine AL.v good (d := 19) rfl rfl rfl rfl ?_
  refine AL.v good (d := 20) rfl rfl rfl rfl ?_
  refine AW.if rfl (fun h => by cases h) (fun _ => ?_)
  refine AW.skip ?_
  refine AW.seq ?_
  refine AW.region (M := fun _ => true) ?_
  refine AL.v good (d := 23) rfl rfl rfl rfl ?_
  refine AL.v good (d := 24) rfl rfl rfl rfl ?_
  refine AL.v good (d := 25) rfl rfl rfl rfl ?_
  refine AL.clp good (d := 26) rfl rfl rfl rfl rfl rfl rfl (w147_128 a b) ((by simp [pureL, inL, inA, inR, spl, encs_pure])) ?_
  refine AL.v good (d := 22) rfl rfl rfl rfl ?_
  refine AL.v good (d := 27) rfl rfl rfl rfl ?_
  refine AL.v good (d := 28) rfl rfl rfl rfl ?_
  refine AL.alc good (d := 11) rfl rfl rfl rfl rfl 3 rfl ?_
  refine AL.st good rfl rfl rfl rfl rfl rfl rfl rfl rfl rfl rfl ?_
  refine AL.v good (d := 12) rfl rfl rfl rfl ?_
  refine AW.seq ?_
  refine AW.region (M := fun _ => true) ?_
  refine AL.v good (d := 29) rfl rfl rfl rfl ?_
  refine AL.v good (d := 30) rfl rfl rfl rfl ?_
  refine AL.st good rfl rfl rfl rfl rfl rfl rfl rfl rfl rfl rfl ?_
  refine AL.v good (d := 7) rfl rfl rfl rfl ?_
  refine AL.v good (d := 8) rfl rfl rfl rfl ?_
  refine AW.ret ?_
  refine RetQ.mk good (.inr rfl) rfl rfl ?_
  simp [Wk, WkL, fz, fzL, fzR, tupA, spl]

theorem w62_divz (op : ByteArray) (a b : Val) (hf : findT twosT op = .tup [.func 148 [] [.ep [.func 130 [] []]], .bool true]) (hc : b.i = 0) : ACall Try.prog 62 [.str op, .agg (valC a), .agg (valC b)] (.tup [.agg [.int .i64 0, .int .i64 0, .bool false, .str ⟨#[]⟩, .sl .ro 5 []], .int .i64 8, .bool true]) := by
  refine ACall.go [(0, .str op), (1, .agg (valC a)), (2, .agg (valC b))] Try.func62 rfl Try.ntmps62 rfl rfl rfl ?_
  refine AW.seq ?_
  refine AW.region (M := fun _ => true) ?_
  refine AL.bx good (d := 4) rfl rfl rfl rfl rfl rfl 0 rfl ?_
  refine AL.bx good (d := 5) rfl rfl rfl rfl rfl rfl 1 rfl ?_
  refine AL.alc good (d := 6) rfl rfl rfl rfl rfl 2 rfl ?_
  refine AL.v good (d := 7) rfl rfl rfl rfl ?_
  refine AL.v good (d := 8) rfl rfl rfl rfl ?_
  refine AW.seq ?_
  refine AW.region (M := fun _ => true) ?_
  refine AL.clp good (d := 14) rfl rfl rfl rfl rfl rfl rfl (w97) (rfl) ?_
  refine AL.v good (d := 15) rfl rfl rfl rfl ?_
  refine AL.clp good (d := 16) rfl rfl rfl rfl rfl rfl rfl (by have hq := w98 twosT op twosT_p; rw [hf] at hq; exact hq) (rfl) ?_
  refine AL.v good (d := 13) rfl rfl rfl rfl ?_
  refine AL.v good (d := 17) rfl rfl rfl rfl ?_
  refine AL.v good (d := 18) rfl rfl rfl rfl ?_
  refine AL.v good (d := 9) rfl rfl rfl rfl ?_
  refine AL.v good (d := 10) rfl rfl rfl rfl ?_
  refine AW.seq ?_
  refine AW.seq ?_
  refine AW.region (M := fun _ => true) ?_
  refine AL.v good (d := 19) rfl rfl rfl rfl ?_
  refine AL.v good (d := 20) rfl rfl rfl rfl ?_
  refine AW.if rfl (fun h => by cases h) (fun _ => ?_)
  refine AW.skip ?_
  refine AW.seq ?_
  refine AW.region (M := fun _ => true) ?_
  refine AL.v good (d := 23) rfl rfl rfl rfl ?_
  refine AL.v good (d := 24) rfl rfl rfl rfl ?_
  refine AL.v good (d := 25) rfl rfl rfl rfl ?_
  refine AL.clp good (d := 26) rfl rfl rfl rfl rfl rfl rfl (w148_130_z a b hc) ((by simp [pureL, inL, inA, inR, spl, encs_pure])) ?_
  refine AL.v good (d := 22) rfl rfl rfl rfl ?_
  refine AL.v good (d := 27) rfl rfl rfl rfl ?_
  refine AL.v good (d := 28) rfl rfl rfl rfl ?_
  refine AL.alc good (d := 11) rfl rfl rfl rfl rfl 3 rfl ?_
  refine AL.st good rfl rfl rfl rfl rfl rfl rfl rfl rfl rfl rfl ?_
  refine AL.v good (d := 12) rfl rfl rfl rfl ?_
  refine AW.seq ?_
  refine AW.region (M := fun _ => true) ?_
  refine AL.v good (d := 29) rfl rfl rfl rfl ?_
  refine AL.v good (d := 30) rfl rfl rfl rfl ?_
  refine AL.st good rfl rfl rfl rfl rfl rfl rfl rfl rfl rfl rfl ?_
  refine AL.v good (d := 7) rfl rfl rfl rfl ?_
  refine AL.v good (d := 8) rfl rfl rfl rfl ?_
  refine AW.ret ?_
  refine RetQ.mk good (.inr rfl) rfl rfl ?_
  simp [Wk, WkL, fz, fzL, fzR, tupA, spl]

theorem w62_divn (op : ByteArray) (a b : Val) (hf : findT twosT op = .tup [.func 148 [] [.ep [.func 130 [] []]], .bool true]) (hc : ¬ b.i = 0) : ACall Try.prog 62 [.str op, .agg (valC a), .agg (valC b)] (.tup [.agg [.int .i64 1, .int .i64 (IntKind.i64.wrap (a.i.tdiv b.i)), .bool false, .str ⟨#[]⟩, .sl .ro 5 []], .int .i64 0, .bool true]) := by
  refine ACall.go [(0, .str op), (1, .agg (valC a)), (2, .agg (valC b))] Try.func62 rfl Try.ntmps62 rfl rfl rfl ?_
  refine AW.seq ?_
  refine AW.region (M := fun _ => true) ?_
  refine AL.bx good (d := 4) rfl rfl rfl rfl rfl rfl 0 rfl ?_
  refine AL.bx good (d := 5) rfl rfl rfl rfl rfl rfl 1 rfl ?_
  refine AL.alc good (d := 6) rfl rfl rfl rfl rfl 2 rfl ?_
  refine AL.v good (d := 7) rfl rfl rfl rfl ?_
  refine AL.v good (d := 8) rfl rfl rfl rfl ?_
  refine AW.seq ?_
  refine AW.region (M := fun _ => true) ?_
  refine AL.clp good (d := 14) rfl rfl rfl rfl rfl rfl rfl (w97) (rfl) ?_
  refine AL.v good (d := 15) rfl rfl rfl rfl ?_
  refine AL.clp good (d := 16) rfl rfl rfl rfl rfl rfl rfl (by have hq := w98 twosT op twosT_p; rw [hf] at hq; exact hq) (rfl) ?_
  refine AL.v good (d := 13) rfl rfl rfl rfl ?_
  refine AL.v good (d := 17) rfl rfl rfl rfl ?_
  refine AL.v good (d := 18) rfl rfl rfl rfl ?_
  refine AL.v good (d := 9) rfl rfl rfl rfl ?_
  refine AL.v good (d := 10) rfl rfl rfl rfl ?_
  refine AW.seq ?_
  refine AW.seq ?_
  refine AW.region (M := fun _ => true) ?_
  refine AL.v good (d := 19) rfl rfl rfl rfl ?_
  refine AL.v good (d := 20) rfl rfl rfl rfl ?_
  refine AW.if rfl (fun h => by cases h) (fun _ => ?_)
  refine AW.skip ?_
  refine AW.seq ?_
  refine AW.region (M := fun _ => true) ?_
  refine AL.v good (d := 23) rfl rfl rfl rfl ?_
  refine AL.v good (d := 24) rfl rfl rfl rfl ?_
  refine AL.v good (d := 25) rfl rfl rfl rfl ?_
  refine AL.clp good (d := 26) rfl rfl rfl rfl rfl rfl rfl (w148_130_n a b hc) ((by simp [pureL, inL, inA, inR, spl, encs_pure])) ?_
  refine AL.v good (d := 22) rfl rfl rfl rfl ?_
  refine AL.v good (d := 27) rfl rfl rfl rfl ?_
  refine AL.v good (d := 28) rfl rfl rfl rfl ?_
  refine AL.alc good (d := 11) rfl rfl rfl rfl rfl 3 rfl ?_
  refine AL.st good rfl rfl rfl rfl rfl rfl rfl rfl rfl rfl rfl ?_
  refine AL.v good (d := 12) rfl rfl rfl rfl ?_
  refine AW.seq ?_
  refine AW.region (M := fun _ => true) ?_
  refine AL.v good (d := 29) rfl rfl rfl rfl ?_
  refine AL.v good (d := 30) rfl rfl rfl rfl ?_
  refine AL.st good rfl rfl rfl rfl rfl rfl rfl rfl rfl rfl rfl ?_
  refine AL.v good (d := 7) rfl rfl rfl rfl ?_
  refine AL.v good (d := 8) rfl rfl rfl rfl ?_
  refine AW.ret ?_
  refine RetQ.mk good (.inr rfl) rfl rfl ?_
  simp [Wk, WkL, fz, fzL, fzR, tupA, spl]

theorem w62_remz (op : ByteArray) (a b : Val) (hf : findT twosT op = .tup [.func 148 [] [.ep [.func 131 [] []]], .bool true]) (hc : b.i = 0) : ACall Try.prog 62 [.str op, .agg (valC a), .agg (valC b)] (.tup [.agg [.int .i64 0, .int .i64 0, .bool false, .str ⟨#[]⟩, .sl .ro 5 []], .int .i64 8, .bool true]) := by
  refine ACall.go [(0, .str op), (1, .agg (valC a)), (2, .agg (valC b))] Try.func62 rfl Try.ntmps62 rfl rfl rfl ?_
  refine AW.seq ?_
  refine AW.region (M := fun _ => true) ?_
  refine AL.bx good (d := 4) rfl rfl rfl rfl rfl rfl 0 rfl ?_
  refine AL.bx good (d := 5) rfl rfl rfl rfl rfl rfl 1 rfl ?_
  refine AL.alc good (d := 6) rfl rfl rfl rfl rfl 2 rfl ?_
  refine AL.v good (d := 7) rfl rfl rfl rfl ?_
  refine AL.v good (d := 8) rfl rfl rfl rfl ?_
  refine AW.seq ?_
  refine AW.region (M := fun _ => true) ?_
  refine AL.clp good (d := 14) rfl rfl rfl rfl rfl rfl rfl (w97) (rfl) ?_
  refine AL.v good (d := 15) rfl rfl rfl rfl ?_
  refine AL.clp good (d := 16) rfl rfl rfl rfl rfl rfl rfl (by have hq := w98 twosT op twosT_p; rw [hf] at hq; exact hq) (rfl) ?_
  refine AL.v good (d := 13) rfl rfl rfl rfl ?_
  refine AL.v good (d := 17) rfl rfl rfl rfl ?_
  refine AL.v good (d := 18) rfl rfl rfl rfl ?_
  refine AL.v good (d := 9) rfl rfl rfl rfl ?_
  refine AL.v good (d := 10) rfl rfl rfl rfl ?_
  refine AW.seq ?_
  refine AW.seq ?_
  refine AW.region (M := fun _ => true) ?_
  refine AL.v good (d := 19) rfl rfl rfl rfl ?_
  refine AL.v good (d := 20) rfl rfl rfl rfl ?_
  refine AW.if rfl (fun h => by cases h) (fun _ => ?_)
  refine AW.skip ?_
  refine AW.seq ?_
  refine AW.region (M := fun _ => true) ?_
  refine AL.v good (d := 23) rfl rfl rfl rfl ?_
  refine AL.v good (d := 24) rfl rfl rfl rfl ?_
  refine AL.v good (d := 25) rfl rfl rfl rfl ?_
  refine AL.clp good (d := 26) rfl rfl rfl rfl rfl rfl rfl (w148_131_z a b hc) ((by simp [pureL, inL, inA, inR, spl, encs_pure])) ?_
  refine AL.v good (d := 22) rfl rfl rfl rfl ?_
  refine AL.v good (d := 27) rfl rfl rfl rfl ?_
  refine AL.v good (d := 28) rfl rfl rfl rfl ?_
  refine AL.alc good (d := 11) rfl rfl rfl rfl rfl 3 rfl ?_
  refine AL.st good rfl rfl rfl rfl rfl rfl rfl rfl rfl rfl rfl ?_
  refine AL.v good (d := 12) rfl rfl rfl rfl ?_
  refine AW.seq ?_
  refine AW.region (M := fun _ => true) ?_
  refine AL.v good (d := 29) rfl rfl rfl rfl ?_
  refine AL.v good (d := 30) rfl rfl rfl rfl ?_
  refine AL.st good rfl rfl rfl rfl rfl rfl rfl rfl rfl rfl rfl ?_
  refine AL.v good (d := 7) rfl rfl rfl rfl ?_
  refine AL.v good (d := 8) rfl rfl rfl rfl ?_
  refine AW.ret ?_
  refine RetQ.mk good (.inr rfl) rfl rfl ?_
  simp [Wk, WkL, fz, fzL, fzR, tupA, spl]

theorem w62_remn (op : ByteArray) (a b : Val) (hf : findT twosT op = .tup [.func 148 [] [.ep [.func 131 [] []]], .bool true]) (hc : ¬ b.i = 0) : ACall Try.prog 62 [.str op, .agg (valC a), .agg (valC b)] (.tup [.agg [.int .i64 1, .int .i64 (a.i.tmod b.i), .bool false, .str ⟨#[]⟩, .sl .ro 5 []], .int .i64 0, .bool true]) := by
  refine ACall.go [(0, .str op), (1, .agg (valC a)), (2, .agg (valC b))] Try.func62 rfl Try.ntmps62 rfl rfl rfl ?_
  refine AW.seq ?_
  refine AW.region (M := fun _ => true) ?_
  refine AL.bx good (d := 4) rfl rfl rfl rfl rfl rfl 0 rfl ?_
  refine AL.bx good (d := 5) rfl rfl rfl rfl rfl rfl 1 rfl ?_
  refine AL.alc good (d := 6) rfl rfl rfl rfl rfl 2 rfl ?_
  refine AL.v good (d := 7) rfl rfl rfl rfl ?_
  refine AL.v good (d := 8) rfl rfl rfl rfl ?_
  refine AW.seq ?_
  refine AW.region (M := fun _ => true) ?_
  refine AL.clp good (d := 14) rfl rfl rfl rfl rfl rfl rfl (w97) (rfl) ?_
  refine AL.v good (d := 15) rfl rfl rfl rfl ?_
  refine AL.clp good (d := 16) rfl rfl rfl rfl rfl rfl rfl (by have hq := w98 twosT op twosT_p; rw [hf] at hq; exact hq) (rfl) ?_
  refine AL.v good (d := 13) rfl rfl rfl rfl ?_
  refine AL.v good (d := 17) rfl rfl rfl rfl ?_
  refine AL.v good (d := 18) rfl rfl rfl rfl ?_
  refine AL.v good (d := 9) rfl rfl rfl rfl ?_
  refine AL.v good (d := 10) rfl rfl rfl rfl ?_
  refine AW.seq ?_
  refine AW.seq ?_
  refine AW.region (M := fun _ => true) ?_
  refine AL.v good (d := 19) rfl rfl rfl rfl ?_
  refine AL.v good (d := 20) rfl rfl rfl rfl ?_
  refine AW.if rfl (fun h => by cases h) (fun _ => ?_)
  refine AW.skip ?_
  refine AW.seq ?_
  refine AW.region (M := fun _ => true) ?_
  refine AL.v good (d := 23) rfl rfl rfl rfl ?_
  refine AL.v good (d := 24) rfl rfl rfl rfl ?_
  refine AL.v good (d := 25) rfl rfl rfl rfl ?_
  refine AL.clp good (d := 26) rfl rfl rfl rfl rfl rfl rfl (w148_131_n a b hc) ((by simp [pureL, inL, inA, inR, spl, encs_pure])) ?_
  refine AL.v good (d := 22) rfl rfl rfl rfl ?_
  refine AL.v good (d := 27) rfl rfl rfl rfl ?_
  refine AL.v good (d := 28) rfl rfl rfl rfl ?_
  refine AL.alc good (d := 11) rfl rfl rfl rfl rfl 3 rfl ?_
  refine AL.st good rfl rfl rfl rfl rfl rfl rfl rfl rfl rfl rfl ?_
  refine AL.v good (d := 12) rfl rfl rfl rfl ?_
  refine AW.seq ?_
  refine AW.region (M := fun _ => true) ?_
  refine AL.v good (d := 29) rfl rfl rfl rfl ?_
  refine AL.v good (d := 30) rfl rfl rfl rfl ?_
  refine AL.st good rfl rfl rfl rfl rfl rfl rfl rfl rfl rfl rfl ?_
  refine AL.v good (d := 7) rfl rfl rfl rfl ?_
  refine AL.v good (d := 8) rfl rfl rfl rfl ?_
  refine AW.ret ?_
  refine RetQ.mk good (.inr rfl) rfl rfl ?_
  simp [Wk, WkL, fz, fzL, fzR, tupA, spl]

theorem w62_eq (op : ByteArray) (a b : Val) (hf : findT twosT op = .tup [.func 132 [] [], .bool true])  : ACall Try.prog 62 [.str op, .agg (valC a), .agg (valC b)] (.tup [.agg [.int .i64 2, .int .i64 0, .bool (cmpV a b == 0), .str ⟨#[]⟩, .sl .ro 5 []], .int .i64 0, .bool true]) := by
  refine ACall.go [(0, .str op), (1, .agg (valC a)), (2, .agg (valC b))] Try.func62 rfl Try.ntmps62 rfl rfl rfl ?_
  refine AW.seq ?_
  refine AW.region (M := fun _ => true) ?_
  refine AL.bx good (d := 4) rfl rfl rfl rfl rfl rfl 0 rfl ?_
  refine AL.bx good (d := 5) rfl rfl rfl rfl rfl rfl 1 rfl ?_
  refine AL.alc good (d := 6) rfl rfl rfl rfl rfl 2 rfl ?_
  refine AL.v good (d := 7) rfl rfl rfl rfl ?_
  refine AL.v good (d := 8) rfl rfl rfl rfl ?_
  refine AW.seq ?_
  refine AW.region (M := fun _ => true) ?_
  refine AL.clp good (d := 14) rfl rfl rfl rfl rfl rfl rfl (w97) (rfl) ?_
  refine AL.v good (d := 15) rfl rfl rfl rfl ?_
  refine AL.clp good (d := 16) rfl rfl rfl rfl rfl rfl rfl (by have hq := w98 twosT op twosT_p; rw [hf] at hq; exact hq) (rfl) ?_
  refine AL.v good (d := 13) rfl rfl rfl rfl ?_
  refine AL.v good (d := 17) rfl rfl rfl rfl ?_
  refine AL.v good (d := 18) rfl rfl rfl rfl ?_
  refine AL.v good (d := 9) rfl rfl rfl rfl ?_
  refine AL.v good (d := 10) rfl rfl rfl rfl ?_
  refine AW.seq ?_
  refine AW.seq ?_
  refine AW.region (M := fun _ => true) ?_
  refine AL.v good (d := 19) rfl rfl rfl rfl ?_
  refine AL.v good (d := 20) rfl rfl rfl rfl ?_
  refine AW.if rfl (fun h => by cases h) (fun _ => ?_)
  refine AW.skip ?_
  refine AW.seq ?_
  refine AW.region (M := fun _ => true) ?_
  refine AL.v good (d := 23) rfl rfl rfl rfl ?_
  refine AL.v good (d := 24) rfl rfl rfl rfl ?_
  refine AL.v good (d := 25) rfl rfl rfl rfl ?_
  refine AL.clp good (d := 26) rfl rfl rfl rfl rfl rfl rfl (w132 a b) ((by simp [pureL, inL, inA, inR, spl, encs_pure])) ?_
  refine AL.v good (d := 22) rfl rfl rfl rfl ?_
  refine AL.v good (d := 27) rfl rfl rfl rfl ?_
  refine AL.v good (d := 28) rfl rfl rfl rfl ?_
  refine AL.alc good (d := 11) rfl rfl rfl rfl rfl 3 rfl ?_
  refine AL.st good rfl rfl rfl rfl rfl rfl rfl rfl rfl rfl rfl ?_
  refine AL.v good (d := 12) rfl rfl rfl rfl ?_
  refine AW.seq ?_
  refine AW.region (M := fun _ => true) ?_
  refine AL.v good (d := 29) rfl rfl rfl rfl ?_
  refine AL.v good (d := 30) rfl rfl rfl rfl ?_
  refine AL.st good rfl rfl rfl rfl rfl rfl rfl rfl rfl rfl rfl ?_
  refine AL.v good (d := 7) rfl rfl rfl rfl ?_
  refine AL.v good (d := 8) rfl rfl rfl rfl ?_
  refine AW.ret ?_
  refine RetQ.mk good (.inr rfl) rfl rfl ?_
  simp [Wk, WkL, fz, fzL, fzR, tupA, spl]

theorem w62_lt (op : ByteArray) (a b : Val) (hf : findT twosT op = .tup [.func 133 [] [], .bool true])  : ACall Try.prog 62 [.str op, .agg (valC a), .agg (valC b)] (.tup [.agg [.int .i64 2, .int .i64 0, .bool (decide (cmpV a b < 0)), .str ⟨#[]⟩, .sl .ro 5 []], .int .i64 0, .bool true]) := by
  refine ACall.go [(0, .str op), (1, .agg (valC a)), (2, .agg (valC b))] Try.func62 rfl Try.ntmps62 rfl rfl rfl ?_
  refine AW.seq ?_
  refine AW.region (M := fun _ => true) ?_
  refine AL.bx good (d := 4) rfl rfl rfl rfl rfl rfl 0 rfl ?_
  refine AL.bx good (d := 5) rfl rfl rfl rfl rfl rfl 1 rfl ?_
  refine AL.alc good (d := 6) rfl rfl rfl rfl rfl 2 rfl ?_
  refine AL.v good (d := 7) rfl rfl rfl rfl ?_
  refine AL.v good (d := 8) rfl rfl rfl rfl ?_
  refine AW.seq ?_
  refine AW.region (M := fun _ => true) ?_
  refine AL.clp good (d := 14) rfl rfl rfl rfl rfl rfl rfl (w97) (rfl) ?_
  refine AL.v good (d := 15) rfl rfl rfl rfl ?_
  refine AL.clp good (d := 16) rfl rfl rfl rfl rfl rfl rfl (by have hq := w98 twosT op twosT_p; rw [hf] at hq; exact hq) (rfl) ?_
  refine AL.v good (d := 13) rfl rfl rfl rfl ?_
  refine AL.v good (d := 17) rfl rfl rfl rfl ?_
  refine AL.v good (d := 18) rfl rfl rfl rfl ?_
  refine AL.v good (d := 9) rfl rfl rfl rfl ?_
  refine AL.v good (d := 10) rfl rfl rfl rfl ?_
  refine AW.seq ?_
  refine AW.seq ?_
  refine AW.region (M := fun _ => true) ?_
  refine AL.v good (d := 19) rfl rfl rfl rfl ?_
  refine AL.v good (d := 20) rfl rfl rfl rfl ?_
  refine AW.if rfl (fun h => by cases h) (fun _ => ?_)
  refine AW.skip ?_
  refine AW.seq ?_
  refine AW.region (M := fun _ => true) ?_
  refine AL.v good (d := 23) rfl rfl rfl rfl ?_
  refine AL.v good (d := 24) rfl rfl rfl rfl ?_
  refine AL.v good (d := 25) rfl rfl rfl rfl ?_
  refine AL.clp good (d := 26) rfl rfl rfl rfl rfl rfl rfl (w133 a b) ((by simp [pureL, inL, inA, inR, spl, encs_pure])) ?_
  refine AL.v good (d := 22) rfl rfl rfl rfl ?_
  refine AL.v good (d := 27) rfl rfl rfl rfl ?_
  refine AL.v good (d := 28) rfl rfl rfl rfl ?_
  refine AL.alc good (d := 11) rfl rfl rfl rfl rfl 3 rfl ?_
  refine AL.st good rfl rfl rfl rfl rfl rfl rfl rfl rfl rfl rfl ?_
  refine AL.v good (d := 12) rfl rfl rfl rfl ?_
  refine AW.seq ?_
  refine AW.region (M := fun _ => true) ?_
  refine AL.v good (d := 29) rfl rfl rfl rfl ?_
  refine AL.v good (d := 30) rfl rfl rfl rfl ?_
  refine AL.st good rfl rfl rfl rfl rfl rfl rfl rfl rfl rfl rfl ?_
  refine AL.v good (d := 7) rfl rfl rfl rfl ?_
  refine AL.v good (d := 8) rfl rfl rfl rfl ?_
  refine AW.ret ?_
  refine RetQ.mk good (.inr rfl) rfl rfl ?_
  simp [Wk, WkL, fz, fzL, fzR, tupA, spl]

theorem w62_catl (op : ByteArray) (a b : Val) (hf : findT twosT op = .tup [.func 134 [] [], .bool true]) (hs : a.s.size + b.s.size ≤ 9223372036854775807) (hc : 255 < a.s.size + b.s.size) : ACall Try.prog 62 [.str op, .agg (valC a), .agg (valC b)] (.tup [.agg [.int .i64 0, .int .i64 0, .bool false, .str ⟨#[]⟩, .sl .ro 5 []], .int .i64 4, .bool true]) := by
  refine ACall.go [(0, .str op), (1, .agg (valC a)), (2, .agg (valC b))] Try.func62 rfl Try.ntmps62 rfl rfl rfl ?_
  refine AW.seq ?_
  refine AW.region (M := fun _ => true) ?_
  refine AL.bx good (d := 4) rfl rfl rfl rfl rfl rfl 0 rfl ?_
  refine AL.bx good (d := 5) rfl rfl rfl rfl rfl rfl 1 rfl ?_
  refine AL.alc good (d := 6) rfl rfl rfl rfl rfl 2 rfl ?_
  refine AL.v good (d := 7) rfl rfl rfl rfl ?_
  refine AL.v good (d := 8) rfl rfl rfl rfl ?_
  refine AW.seq ?_
  refine AW.region (M := fun _ => true) ?_
  refine AL.clp good (d := 14) rfl rfl rfl rfl rfl rfl rfl (w97) (rfl) ?_
  refine AL.v good (d := 15) rfl rfl rfl rfl ?_
  refine AL.clp good (d := 16) rfl rfl rfl rfl rfl rfl rfl (by have hq := w98 twosT op twosT_p; rw [hf] at hq; exact hq) (rfl) ?_
  refine AL.v good (d := 13) rfl rfl rfl rfl ?_
  refine AL.v good (d := 17) rfl rfl rfl rfl ?_
  refine AL.v good (d := 18) rfl rfl rfl rfl ?_
  refine AL.v good (d := 9) rfl rfl rfl rfl ?_
  refine AL.v good (d := 10) rfl rfl rfl rfl ?_
  refine AW.seq ?_
  refine AW.seq ?_
  refine AW.region (M := fun _ => true) ?_
  refine AL.v good (d := 19) rfl rfl rfl rfl ?_
  refine AL.v good (d := 20) rfl rfl rfl rfl ?_
  refine AW.if rfl (fun h => by cases h) (fun _ => ?_)
  refine AW.skip ?_
  refine AW.seq ?_
  refine AW.region (M := fun _ => true) ?_
  refine AL.v good (d := 23) rfl rfl rfl rfl ?_
  refine AL.v good (d := 24) rfl rfl rfl rfl ?_
  refine AL.v good (d := 25) rfl rfl rfl rfl ?_
  refine AL.clp good (d := 26) rfl rfl rfl rfl rfl rfl rfl (w134_l a b hs hc) ((by simp [pureL, inL, inA, inR, spl, encs_pure])) ?_
  refine AL.v good (d := 22) rfl rfl rfl rfl ?_
  refine AL.v good (d := 27) rfl rfl rfl rfl ?_
  refine AL.v good (d := 28) rfl rfl rfl rfl ?_
  refine AL.alc good (d := 11) rfl rfl rfl rfl rfl 3 rfl ?_
  refine AL.st good rfl rfl rfl rfl rfl rfl rfl rfl rfl rfl rfl ?_
  refine AL.v good (d := 12) rfl rfl rfl rfl ?_
  refine AW.seq ?_
  refine AW.region (M := fun _ => true) ?_
  refine AL.v good (d := 29) rfl rfl rfl rfl ?_
  refine AL.v good (d := 30) rfl rfl rfl rfl ?_
  refine AL.st good rfl rfl rfl rfl rfl rfl rfl rfl rfl rfl rfl ?_
  refine AL.v good (d := 7) rfl rfl rfl rfl ?_
  refine AL.v good (d := 8) rfl rfl rfl rfl ?_
  refine AW.ret ?_
  refine RetQ.mk good (.inr rfl) rfl rfl ?_
  simp [Wk, WkL, fz, fzL, fzR, tupA, spl]

theorem w62_cato (op : ByteArray) (a b : Val) (hf : findT twosT op = .tup [.func 134 [] [], .bool true]) (hc : ¬ 255 < a.s.size + b.s.size) : ACall Try.prog 62 [.str op, .agg (valC a), .agg (valC b)] (.tup [.agg [.int .i64 3, .int .i64 0, .bool false, .str (a.s ++ b.s), .sl .ro 5 []], .int .i64 0, .bool true]) := by
  refine ACall.go [(0, .str op), (1, .agg (valC a)), (2, .agg (valC b))] Try.func62 rfl Try.ntmps62 rfl rfl rfl ?_
  refine AW.seq ?_
  refine AW.region (M := fun _ => true) ?_
  refine AL.bx good (d := 4) rfl rfl rfl rfl rfl rfl 0 rfl ?_
  refine AL.bx good (d := 5) rfl rfl rfl rfl rfl rfl 1 rfl ?_
  refine AL.alc good (d := 6) rfl rfl rfl rfl rfl 2 rfl ?_
  refine AL.v good (d := 7) rfl rfl rfl rfl ?_
  refine AL.v good (d := 8) rfl rfl rfl rfl ?_
  refine AW.seq ?_
  refine AW.region (M := fun _ => true) ?_
  refine AL.clp good (d := 14) rfl rfl rfl rfl rfl rfl rfl (w97) (rfl) ?_
  refine AL.v good (d := 15) rfl rfl rfl rfl ?_
  refine AL.clp good (d := 16) rfl rfl rfl rfl rfl rfl rfl (by have hq := w98 twosT op twosT_p; rw [hf] at hq; exact hq) (rfl) ?_
  refine AL.v good (d := 13) rfl rfl rfl rfl ?_
  refine AL.v good (d := 17) rfl rfl rfl rfl ?_
  refine AL.v good (d := 18) rfl rfl rfl rfl ?_
  refine AL.v good (d := 9) rfl rfl rfl rfl ?_
  refine AL.v good (d := 10) rfl rfl rfl rfl ?_
  refine AW.seq ?_
  refine AW.seq ?_
  refine AW.region (M := fun _ => true) ?_
  refine AL.v good (d := 19) rfl rfl rfl rfl ?_
  refine AL.v good (d := 20) rfl rfl rfl rfl ?_
  refine AW.if rfl (fun h => by cases h) (fun _ => ?_)
  refine AW.skip ?_
  refine AW.seq ?_
  refine AW.region (M := fun _ => true) ?_
  refine AL.v good (d := 23) rfl rfl rfl rfl ?_
  refine AL.v good (d := 24) rfl rfl rfl rfl ?_
  refine AL.v good (d := 25) rfl rfl rfl rfl ?_
  refine AL.clp good (d := 26) rfl rfl rfl rfl rfl rfl rfl (w134_o a b hc) ((by simp [pureL, inL, inA, inR, spl, encs_pure])) ?_
  refine AL.v good (d := 22) rfl rfl rfl rfl ?_
  refine AL.v good (d := 27) rfl rfl rfl rfl ?_
  refine AL.v good (d := 28) rfl rfl rfl rfl ?_
  refine AL.alc good (d := 11) rfl rfl rfl rfl rfl 3 rfl ?_
  refine AL.st good rfl rfl rfl rfl rfl rfl rfl rfl rfl rfl rfl ?_
  refine AL.v good (d := 12) rfl rfl rfl rfl ?_
  refine AW.seq ?_
  refine AW.region (M := fun _ => true) ?_
  refine AL.v good (d := 29) rfl rfl rfl rfl ?_
  refine AL.v good (d := 30) rfl rfl rfl rfl ?_
  refine AL.st good rfl rfl rfl rfl rfl rfl rfl rfl rfl rfl rfl ?_
  refine AL.v good (d := 7) rfl rfl rfl rfl ?_
  refine AL.v good (d := 8) rfl rfl rfl rfl ?_
  refine AW.ret ?_
  refine RetQ.mk good (.inr rfl) rfl rfl ?_
  simp [Wk, WkL, fz, fzL, fzR, tupA, spl]

end Go.Proofs.Ytbcjcekoonebiaa.Tl
