/- Walks: which value stands first. Conditions: none. -/
import Derived.Test.YtbcjcekoonebiaaTlWa
set_option linter.unusedVariables false
set_option linter.unusedSimpArgs false
namespace Go.Proofs.Ytbcjcekoonebiaa.Tl
open Go Go.RowKit

theorem w138 (l m : List Val) (h69 : ∀ (j : Nat) (x y : Val), l[j]? = some x → m[j]? = some y → ACall Try.prog 69 [.agg (valC x), .agg (valC y)] (.int .i64 (cmpV x y))) : ACall Try.prog 138 [.sl .ro 5 (encs l), .sl .ro 5 (encs m), .func 69 [] []] (.int .i64 (cmpVs l m)) := by
  refine ACall.go [(0, .sl .ro 5 (encs l)), (1, .sl .ro 5 (encs m)), (2, .func 69 [] [])] Try.func138 rfl Try.ntmps138 rfl rfl rfl ?_
  refine AW.seq ?_
  refine AW.region (M := fun _ => true) ?_
  refine AL.v good (d := 6) rfl rfl rfl rfl ?_
  refine AW.seq ?_
  refine AW.seq ?_
  refine AW.region (M := fun _ => true) ?_
  refine AL.v good (d := 11) rfl rfl rfl rfl ?_
  refine AL.v good (d := 12) rfl rfl rfl rfl ?_
  refine AL.v good (d := 13) rfl rfl rfl rfl ?_
  refine AW.block ?_
  refine AW.len 0 rfl (fun hl => ?_)
  rw [encs_length] at hl
  refine AW.lp (fun k : Nat => [(0, .sl .ro 5 (encs l)), (1, .sl .ro 5 (encs m)), (2, .func 69 [] []), (11, .sl .ro 5 (encs l)), (12, .int .i64 (l.length : Int)), (13, .int .i64 (k : Int))]) (fun k : Nat => []) (fun k : Nat => cmpVs (l.drop k) (m.drop k) = cmpVs l m ∧ k ≤ l.length) (fun k : Nat => l.length - k) 0 ⟨(fun _ h => by cases h), List.forall_mem_cons.2 ⟨⟨rfl, (by simp [inA, encs_pure])⟩, List.forall_mem_cons.2 ⟨⟨rfl, (by simp [inA, encs_pure])⟩, List.forall_mem_cons.2 ⟨⟨rfl, rfl⟩, List.forall_mem_cons.2 ⟨⟨rfl, (by simp [inA, encs_pure])⟩, List.forall_mem_cons.2 ⟨⟨(by show some (AV.int .i64 ((encs l).length : Int)) = _; rw [encs_length]), rfl⟩, List.forall_mem_cons.2 ⟨⟨rfl, rfl⟩, (fun _ h => by cases h)⟩⟩⟩⟩⟩⟩, (fun _ h => by cases h)⟩ ⟨rfl, Nat.zero_le _⟩ (fun k hx => ?_)
  obtain ⟨hx, hkl⟩ := hx
  refine AW.seq ?_
  refine AW.region (M := fun _ => true) ?_
  refine AL.v good (d := 14) rfl rfl rfl rfl ?_
  refine AW.seq ?_
  refine AW.if rfl (fun h1 => ?_) (fun h1 => ?_)
  · skip
    refine AW.skip ?_
    refine AW.seq ?_
    refine AW.block ?_
    refine AW.seq ?_
    refine AW.region (M := fun _ => true) ?_
    refine AL.v good (d := 15) rfl rfl rfl rfl ?_
    have hk : k < l.length := by simpa using h1
    have hget : l[k]? = some l[k] := List.getElem?_eq_getElem hk
    refine AL.ix good (d := 16) rfl rfl rfl rfl rfl rfl rfl (Int.natCast_nonneg k) (encs_get hget) ?_
    refine AL.v good (d := 17) rfl rfl rfl rfl ?_
    refine AL.alc good (d := 8) rfl rfl rfl rfl rfl 0 rfl ?_
    refine AL.v good (d := 7) rfl rfl rfl rfl ?_
    refine AL.st good rfl rfl rfl rfl rfl rfl rfl rfl rfl rfl rfl ?_
    refine AW.seq ?_
    refine AW.seq ?_
    refine AW.region (M := fun _ => true) ?_
    refine AL.v good (d := 18) rfl rfl rfl rfl ?_
    refine AL.v good (d := 19) rfl rfl rfl rfl ?_
    refine AL.v good (d := 20) rfl rfl rfl rfl ?_
    refine AL.v good (d := 21) rfl rfl rfl rfl ?_
    refine AW.if rfl (fun h2 => ?_) (fun h2 => ?_)
    · skip
      refine AW.seq ?_
      refine AW.region (M := fun _ => true) ?_
      refine AL.v good (d := 6) rfl rfl rfl rfl ?_
      refine AW.ret ?_
      refine RetQ.mk good (.inr rfl) rfl rfl ?_
      have hk2 : m.length ≤ k := by simpa [encs_length] using h2
      rw [drop_get hget, List.drop_eq_nil_of_le hk2] at hx
      simp only [Wk, fz, tupA]
      exact ⟨trivial, hx⟩
    · skip
      refine AW.skip ?_
      refine AW.seq ?_
      refine AW.region (M := fun _ => true) ?_
      refine AL.v good (d := 22) rfl rfl rfl rfl ?_
      refine AL.v good (d := 23) rfl rfl rfl rfl ?_
      have hk2 : k < m.length := by simpa [encs_length] using h2
      have hget2 : m[k]? = some m[k] := List.getElem?_eq_getElem hk2
      refine AL.ix good (d := 24) rfl rfl rfl rfl rfl rfl rfl (Int.natCast_nonneg k) (encs_get hget2) ?_
      refine AL.v good (d := 25) rfl rfl rfl rfl ?_
      refine AL.alc good (d := 9) rfl rfl rfl rfl rfl 1 rfl ?_
      refine AL.st good rfl rfl rfl rfl rfl rfl rfl rfl rfl rfl rfl ?_
      refine AW.seq ?_
      refine AW.region (M := fun _ => true) ?_
      refine AL.v good (d := 26) rfl rfl rfl rfl ?_
      refine AL.v good (d := 27) rfl rfl rfl rfl ?_
      refine AL.v good (d := 28) rfl rfl rfl rfl ?_
      refine AL.clp good (d := 29) rfl rfl rfl rfl rfl rfl rfl (h69 _ _ _ hget hget2) ((by simp [pureL, inL, inA, inR, spl, encs_pure])) ?_
      refine AL.v good (d := 10) rfl rfl rfl rfl ?_
      refine AW.seq ?_
      refine AW.region (M := fun _ => true) ?_
      refine AL.v good (d := 30) rfl rfl rfl rfl ?_
      refine AL.v good (d := 31) rfl rfl rfl rfl ?_
      refine AW.if rfl (fun h3 => ?_) (fun h3 => ?_)
      · skip
        refine AW.seq ?_
        refine AW.region (M := fun _ => true) ?_
        refine AL.v good (d := 32) rfl rfl rfl rfl ?_
        refine AL.v good (d := 6) rfl rfl rfl rfl ?_
        refine AW.ret ?_
        refine RetQ.mk good (.inr rfl) rfl rfl ?_
        rw [drop_get hget, drop_get hget2] at hx
        simp only [cmpVs] at hx
        rw [if_neg (by simpa using h3)] at hx
        simp only [Wk, fz, tupA]
        exact ⟨trivial, hx⟩
      · skip
        refine AW.skip ?_
        refine AW.region (M := fun _ => true) ?_
        refine AL.v good (d := 33) rfl rfl rfl rfl ?_
        refine AL.v good (d := 13) rfl rfl rfl rfl ?_
        exact ⟨k + 1, _, _, rfl, ⟨(fun _ h => by cases h), List.forall_mem_cons.2 ⟨⟨rfl, (by simp [inA, encs_pure])⟩, List.forall_mem_cons.2 ⟨⟨rfl, (by simp [inA, encs_pure])⟩, List.forall_mem_cons.2 ⟨⟨rfl, rfl⟩, List.forall_mem_cons.2 ⟨⟨rfl, (by simp [inA, encs_pure])⟩, List.forall_mem_cons.2 ⟨⟨rfl, rfl⟩, List.forall_mem_cons.2 ⟨⟨(wnext hk hl), rfl⟩, (fun _ h => by cases h)⟩⟩⟩⟩⟩⟩, (fun _ h => by cases h)⟩, (by rw [drop_get hget, drop_get hget2] at hx; simp only [cmpVs] at hx; rw [if_pos (by simpa using h3)] at hx; exact ⟨hx, by omega⟩), (by omega)⟩
  · skip
    refine AW.exit ?_
    refine AW.seq ?_
    refine AW.seq ?_
    refine AW.region (M := fun _ => true) ?_
    refine AL.v good (d := 34) rfl rfl rfl rfl ?_
    refine AL.v good (d := 35) rfl rfl rfl rfl ?_
    refine AL.v good (d := 36) rfl rfl rfl rfl ?_
    refine AL.v good (d := 37) rfl rfl rfl rfl ?_
    refine AL.v good (d := 38) rfl rfl rfl rfl ?_
    refine AW.if rfl (fun h4 => ?_) (fun h4 => ?_)
    · skip
      refine AW.seq ?_
      refine AW.region (M := fun _ => true) ?_
      refine AL.v good (d := 6) rfl rfl rfl rfl ?_
      refine AW.ret ?_
      refine RetQ.mk good (.inr rfl) rfl rfl ?_
      have hk : l.length ≤ k := by simpa using h1
      have hk2 : l.length < m.length := by simpa [encs_length] using h4
      rw [List.drop_eq_nil_of_le hk] at hx
      cases hm : m.drop k with
      | nil => exact absurd (List.drop_eq_nil_iff.1 hm) (by omega)
      | cons y ys => rw [hm] at hx; simp only [cmpVs] at hx; simp only [Wk, fz, tupA]; exact ⟨trivial, hx⟩
    · skip
      refine AW.skip ?_
      refine AW.seq ?_
      refine AW.region (M := fun _ => true) ?_
      refine AL.v good (d := 6) rfl rfl rfl rfl ?_
      refine AW.ret ?_
      refine RetQ.mk good (.inr rfl) rfl rfl ?_
      have hk : l.length ≤ k := by simpa using h1
      have hk2 : m.length ≤ l.length := by simpa [encs_length] using h4
      rw [List.drop_eq_nil_of_le hk, List.drop_eq_nil_of_le (by omega : m.length ≤ k)] at hx
      simp only [cmpVs] at hx
      simp only [Wk, fz, tupA]
      exact ⟨trivial, hx⟩

theorem w106 (l m : List Val) (h138 : ACall Try.prog 138 [.sl .ro 5 (encs l), .sl .ro 5 (encs m), .func 69 [] []] (.int .i64 (cmpVs l m))) : ACall Try.prog 106 [.sl .ro 5 (encs l), .sl .ro 5 (encs m), .func 69 [] []] (.int .i64 (cmpVs l m)) := by
  refine ACall.go [(0, .sl .ro 5 (encs l)), (1, .sl .ro 5 (encs m)), (2, .func 69 [] [])] Try.func106 rfl Try.ntmps106 rfl rfl rfl ?_
  refine AW.seq ?_
  refine AW.region (M := fun _ => true) ?_
  refine AL.v good (d := 6) rfl rfl rfl rfl ?_
  refine AW.seq ?_
  refine AW.region (M := fun _ => true) ?_
  refine AL.v good (d := 7) rfl rfl rfl rfl ?_
  refine AL.v good (d := 8) rfl rfl rfl rfl ?_
  refine AL.v good (d := 9) rfl rfl rfl rfl ?_
  refine AL.clp good (d := 10) rfl rfl rfl rfl rfl rfl rfl (h138) ((by simp [pureL, inL, inA, inR, spl, encs_pure])) ?_
  refine AL.v good (d := 6) rfl rfl rfl rfl ?_
  refine AW.ret ?_
  refine RetQ.mk good (.inr rfl) rfl rfl ?_
  simp [Wk, WkL, fz, fzL, fzR, tupA, spl]

theorem w69a (a b : Val) (h106 : ACall Try.prog 106 [.sl .ro 5 (encs a.t), .sl .ro 5 (encs b.t), .func 69 [] []] (.int .i64 (cmpVs a.t b.t))) : ACall Try.prog 69 [.agg (valC a), .agg (valC b)] (.int .i64 (cmpV a b)) := by
  refine ACall.go [(0, .agg (valC a)), (1, .agg (valC b))] Try.func69 rfl Try.ntmps69 rfl rfl rfl ?_
  refine AW.seq ?_
  refine AW.region (M := fun _ => true) ?_
  refine AL.bx good (d := 2) rfl rfl rfl rfl rfl rfl 0 rfl ?_
  refine AL.bx good (d := 3) rfl rfl rfl rfl rfl rfl 1 rfl ?_
  refine AL.v good (d := 4) rfl rfl rfl rfl ?_
  refine AW.seq ?_
  refine AW.seq ?_
  refine AW.draw (M := fun i => false) good.wide (by kernel_rfl) ?_
  refine AL.v good (d := 6) rfl rfl rfl rfl ?_
  refine AL.v good (d := 7) rfl rfl rfl rfl ?_
  refine AL.v good (d := 8) rfl rfl rfl rfl ?_
  refine AL.v good (d := 9) rfl rfl rfl rfl ?_
  refine AL.clp good (d := 10) rfl rfl rfl rfl rfl rfl rfl (w102 _ _) (rfl) ?_
  refine AL.v good (d := 11) rfl rfl rfl rfl ?_
  refine AL.v good (d := 12) rfl rfl rfl rfl ?_
  refine AL.v good (d := 13) rfl rfl rfl rfl ?_
  refine AL.v good (d := 14) rfl rfl rfl rfl ?_
  refine AL.clp good (d := 15) rfl rfl rfl rfl rfl rfl rfl (w103 _ _) (rfl) ?_
  refine AL.v good (d := 16) rfl rfl rfl rfl ?_
  refine AL.v good (d := 17) rfl rfl rfl rfl ?_
  refine AL.clp good (d := 18) rfl rfl rfl rfl rfl rfl rfl (w104 _) (rfl) ?_
  refine AL.v good (d := 19) rfl rfl rfl rfl ?_
  refine AL.v good (d := 20) rfl rfl rfl rfl ?_
  refine AL.clp good (d := 21) rfl rfl rfl rfl rfl rfl rfl (w104 _) (rfl) ?_
  refine AL.clp good (d := 22) rfl rfl rfl rfl rfl rfl rfl (w102 _ _) (rfl) ?_
  refine AL.v good (d := 23) rfl rfl rfl rfl ?_
  refine AL.v good (d := 24) rfl rfl rfl rfl ?_
  refine AL.v good (d := 25) rfl rfl rfl rfl ?_
  refine AL.v good (d := 26) rfl rfl rfl rfl ?_
  refine AL.clp good (d := 27) rfl rfl rfl rfl rfl rfl rfl (w105 _ _) (rfl) ?_
  refine AL.lit good (d := 28) rfl rfl rfl rfl rfl rfl rfl rfl rfl 2 rfl ?_
  refine AL.clo good (d := 29) rfl rfl rfl rfl rfl rfl rfl (w101 [cmpI a.kind b.kind, cmpI a.i b.i, cmpI (bI a.b) (bI b.b), cmpB a.s b.s]) (rfl) (rfl) ?_
  refine AL.v good (d := 5) rfl rfl rfl rfl ?_
  refine AW.seq ?_
  refine AW.region (M := fun _ => true) ?_
  refine AL.v good (d := 30) rfl rfl rfl rfl ?_
  refine AL.v good (d := 31) rfl rfl rfl rfl ?_
  refine AW.if rfl (fun h1 => ?_) (fun h1 => ?_)
  · skip
    refine AW.seq ?_
    refine AW.region (M := fun _ => true) ?_
    refine AL.v good (d := 32) rfl rfl rfl rfl ?_
    refine AL.v good (d := 4) rfl rfl rfl rfl ?_
    refine AW.ret ?_
    refine RetQ.mk good (.inr rfl) rfl rfl ?_
    simp only [Wk, fz, tupA]
    exact ⟨trivial, by rw [cmpV_eq, if_neg (by simpa using h1)]⟩
  · skip
    refine AW.skip ?_
    refine AW.seq ?_
    refine AW.region (M := fun _ => true) ?_
    refine AL.v good (d := 33) rfl rfl rfl rfl ?_
    refine AL.v good (d := 34) rfl rfl rfl rfl ?_
    refine AL.v good (d := 35) rfl rfl rfl rfl ?_
    refine AL.v good (d := 36) rfl rfl rfl rfl ?_
    refine AL.clp good (d := 37) rfl rfl rfl rfl rfl rfl rfl (h106) ((by simp [pureL, inL, inA, inR, spl, encs_pure])) ?_
    refine AL.v good (d := 4) rfl rfl rfl rfl ?_
    refine AW.ret ?_
    refine RetQ.mk good (.inr rfl) rfl rfl ?_
    simp only [Wk, fz, tupA]
    exact ⟨trivial, by rw [cmpV_eq, if_pos (by simpa using h1)]⟩

theorem w69 (a b : Val) : ACall Try.prog 69 [.agg (valC a), .agg (valC b)] (.int .i64 (cmpV a b)) :=
  w69a a b (w106 a.t b.t (w138 a.t b.t fun j x y hx hy => w69 x y))
termination_by a
decreasing_by
  cases a with
  | mk k i bb s t =>
    have := List.sizeOf_lt_of_mem (List.mem_of_getElem? hx)
    simp only [Val.t] at this
    simp only [Val.mk.sizeOf_spec]
    omega

theorem w35 (a b : Val) : ACall Try.prog 35 [.agg (valC a), .agg (valC b)] (.bool (cmpV a b == 0)) := by
  refine ACall.go [(0, .agg (valC a)), (1, .agg (valC b))] Try.func35 rfl Try.ntmps35 rfl rfl rfl ?_
  refine AW.seq ?_
  refine AW.region (M := fun _ => true) ?_
  refine AL.bx good (d := 2) rfl rfl rfl rfl rfl rfl 0 rfl ?_
  refine AL.bx good (d := 3) rfl rfl rfl rfl rfl rfl 1 rfl ?_
  refine AL.v good (d := 4) rfl rfl rfl rfl ?_
  refine AW.seq ?_
  refine AW.region (M := fun _ => true) ?_
  refine AL.v good (d := 5) rfl rfl rfl rfl ?_
  refine AL.v good (d := 6) rfl rfl rfl rfl ?_
  refine AL.clp good (d := 7) rfl rfl rfl rfl rfl rfl rfl (w69 a b) ((by simp [pureL, inL, inA, inR, spl, encs_pure])) ?_
  refine AL.v good (d := 8) rfl rfl rfl rfl ?_
  refine AL.v good (d := 4) rfl rfl rfl rfl ?_
  refine AW.ret ?_
  refine RetQ.mk good (.inr rfl) rfl rfl ?_
  simp [Wk, WkL, fz, fzL, fzR, tupA, spl]

end Go.Proofs.Ytbcjcekoonebiaa.Tl
