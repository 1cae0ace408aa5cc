/- Walks: an expression. Conditions: none. -/
import Derived.Test.YtbcjcekoonebiaaTlWd
import Derived.Test.YtbcjcekoonebiaaTlS
set_option linter.unusedVariables false
set_option linter.unusedSimpArgs false
namespace Go.Proofs.Ytbcjcekoonebiaa.Tl
open Go Go.RowKit

theorem w61 (op : ByteArray) (a v : Val) (h : oneS op a = some v) : ACall Try.prog 61 [.str op, .agg (valC a)] (.tup [.agg (valC v), .bool true]) := by
  unfold oneS at h
  split at h
  · rename_i h1; injection h with h; subst h; exact w61_neg op a (by simp [findT, onesT, h1])
  · split at h
    · rename_i h1; injection h with h; subst h; exact w61_not op a (by simp [findT, onesT, h1])
    · split at h
      · rename_i h1; injection h with h; subst h; exact w61_len op a (by simp [findT, onesT, h1])
      · cases h
theorem w62 (op : ByteArray) (a b : Val) (r : Val × Int) (h : bothS op a b = some r) : ACall Try.prog 62 [.str op, .agg (valC a), .agg (valC b)] (.tup [.agg (valC r.1), .int .i64 r.2, .bool true]) := by
  unfold bothS at h
  split at h
  · rename_i h1; injection h with h; subst h; exact w62_add op a b (by simp [findT, twosT, h1])
  split at h
  · rename_i h1; injection h with h; subst h; exact w62_sub op a b (by simp [findT, twosT, h1])
  split at h
  · rename_i h1; injection h with h; subst h; exact w62_mul op a b (by simp [findT, twosT, h1])
  split at h
  · rename_i h1
    split at h
    · rename_i h2; injection h with h; subst h; exact w62_divz op a b (by simp [findT, twosT, h1]) h2
    · rename_i h2; injection h with h; subst h; exact w62_divn op a b (by simp [findT, twosT, h1]) h2
  split at h
  · rename_i h1
    split at h
    · rename_i h2; injection h with h; subst h; exact w62_remz op a b (by simp [findT, twosT, h1]) h2
    · rename_i h2; injection h with h; subst h; exact w62_remn op a b (by simp [findT, twosT, h1]) h2
  split at h
  · rename_i h1; injection h with h; subst h; exact w62_eq op a b (by simp [findT, twosT, h1])
  split at h
  · rename_i h1; injection h with h; subst h; exact w62_lt op a b (by simp [findT, twosT, h1])
  split at h
  · rename_i h1
    split at h
    · rename_i h2
      split at h
      · rename_i h3; injection h with h; subst h; exact w62_catl op a b (by simp [findT, twosT, h1]) h2 h3
      · rename_i h3; injection h with h; subst h; exact w62_cato op a b (by simp [findT, twosT, h1]) h3
    · cases h
  · cases h

theorem w59 (e : Ex) (v : Val) : ACall Try.prog 59 [.agg (exC e), .agg (valC v)] (.int .i64 (chooseS e.op v.b)) := by
  refine ACall.go [(0, .agg (exC e)), (1, .agg (valC v))] Try.func59 rfl Try.ntmps59 rfl rfl rfl ?_
  refine AW.seq ?_
  refine AW.region (M := fun _ => true) ?_
  refine AL.bx good (d := 2) rfl rfl rfl rfl rfl rfl 0 rfl ?_
  refine AL.bx good (d := 3) rfl rfl rfl rfl rfl rfl 1 rfl ?_
  refine AL.v good (d := 4) rfl rfl rfl rfl ?_
  refine AW.seq ?_
  refine AW.block ?_
  refine AW.seq ?_
  refine AW.region (M := fun _ => true) ?_
  refine AL.v good (d := 6) rfl rfl rfl rfl ?_
  refine AL.v good (d := 7) rfl rfl rfl rfl ?_
  refine AL.v good (d := 8) rfl rfl rfl rfl ?_
  refine AL.v good (d := 9) rfl rfl rfl rfl ?_
  refine AL.cs 9 rfl (fun h1 => ?_) (fun h1 => ?_)
  · skip
    refine AL.v good (d := 10) rfl rfl rfl rfl ?_
    refine AL.v good (d := 11) rfl rfl rfl rfl ?_
    refine AL.v good (d := 12) rfl rfl rfl rfl ?_
    refine AL.v good (d := 5) rfl rfl rfl rfl ?_
    refine AW.if rfl (fun h2 => ?_) (fun h2 => ?_)
    · skip
      refine AW.seq ?_
      refine AW.region (M := fun _ => true) ?_
      refine AL.v good (d := 4) rfl rfl rfl rfl ?_
      refine AW.ret ?_
      refine RetQ.mk good (.inr rfl) rfl rfl ?_
      simp_all [Wk, fz, tupA, chooseS, ByteArray.toList_eq]
    · skip
      refine AW.seq ?_
      refine AW.region (M := fun _ => true) ?_
      refine AL.v good (d := 14) rfl rfl rfl rfl ?_
      refine AL.v good (d := 15) rfl rfl rfl rfl ?_
      refine AL.v good (d := 16) rfl rfl rfl rfl ?_
      refine AL.v good (d := 13) rfl rfl rfl rfl ?_
      refine AW.if rfl (fun h3 => ?_) (fun h3 => ?_)
      · skip
        refine AW.seq ?_
        refine AW.region (M := fun _ => true) ?_
        refine AL.v good (d := 4) rfl rfl rfl rfl ?_
        refine AW.ret ?_
        refine RetQ.mk good (.inr rfl) rfl rfl ?_
        simp_all [Wk, fz, tupA, chooseS, ByteArray.toList_eq]
      · skip
        refine AW.seq ?_
        refine AW.region (M := fun _ => true) ?_
        refine AL.v good (d := 18) rfl rfl rfl rfl ?_
        refine AL.v good (d := 19) rfl rfl rfl rfl ?_
        refine AL.v good (d := 20) rfl rfl rfl rfl ?_
        refine AL.v good (d := 21) rfl rfl rfl rfl ?_
        refine AL.v good (d := 22) rfl rfl rfl rfl ?_
        refine AL.v good (d := 23) rfl rfl rfl rfl ?_
        refine AL.v good (d := 17) rfl rfl rfl rfl ?_
        refine AW.if rfl (fun h4 => ?_) (fun h4 => ?_)
        · skip
          refine AW.seq ?_
          refine AW.region (M := fun _ => true) ?_
          refine AL.v good (d := 4) rfl rfl rfl rfl ?_
          refine AW.ret ?_
          refine RetQ.mk good (.inr rfl) rfl rfl ?_
          simp_all [Wk, fz, tupA, chooseS, ByteArray.toList_eq]
        · skip
          refine AW.skip ?_
          refine AW.seq ?_
          refine AW.region (M := fun _ => true) ?_
          refine AL.v good (d := 4) rfl rfl rfl rfl ?_
          refine AW.ret ?_
          refine RetQ.mk good (.inr rfl) rfl rfl ?_
          simp_all [Wk, fz, tupA, chooseS, ByteArray.toList_eq]
  · skip
    refine AL.sk good (d := 10) rfl rfl rfl ?_
    refine AL.sk good (d := 11) rfl rfl rfl ?_
    refine AL.v good (d := 12) rfl rfl rfl rfl ?_
    refine AL.v good (d := 5) rfl rfl rfl rfl ?_
    refine AW.if rfl (fun h => by cases h) (fun _ => ?_)
    refine AW.seq ?_
    refine AW.region (M := fun _ => true) ?_
    refine AL.v good (d := 14) rfl rfl rfl rfl ?_
    refine AL.v good (d := 15) rfl rfl rfl rfl ?_
    refine AL.v good (d := 16) rfl rfl rfl rfl ?_
    refine AL.v good (d := 13) rfl rfl rfl rfl ?_
    refine AW.if rfl (fun h5 => ?_) (fun h5 => ?_)
    · skip
      refine AW.seq ?_
      refine AW.region (M := fun _ => true) ?_
      refine AL.v good (d := 4) rfl rfl rfl rfl ?_
      refine AW.ret ?_
      refine RetQ.mk good (.inr rfl) rfl rfl ?_
      simp_all [Wk, fz, tupA, chooseS, ByteArray.toList_eq]
    · skip
      refine AW.seq ?_
      refine AW.region (M := fun _ => true) ?_
      refine AL.v good (d := 18) rfl rfl rfl rfl ?_
      refine AL.v good (d := 19) rfl rfl rfl rfl ?_
      refine AL.v good (d := 20) rfl rfl rfl rfl ?_
      refine AL.v good (d := 21) rfl rfl rfl rfl ?_
      refine AL.v good (d := 22) rfl rfl rfl rfl ?_
      refine AL.v good (d := 23) rfl rfl rfl rfl ?_
      refine AL.v good (d := 17) rfl rfl rfl rfl ?_
      refine AW.if rfl (fun h6 => ?_) (fun h6 => ?_)
      · skip
        refine AW.seq ?_
        refine AW.region (M := fun _ => true) ?_
        refine AL.v good (d := 4) rfl rfl rfl rfl ?_
        refine AW.ret ?_
        refine RetQ.mk good (.inr rfl) rfl rfl ?_
        simp_all [Wk, fz, tupA, chooseS, ByteArray.toList_eq]
      · skip
        refine AW.skip ?_
        refine AW.seq ?_
        refine AW.region (M := fun _ => true) ?_
        refine AL.v good (d := 4) rfl rfl rfl rfl ?_
        refine AW.ret ?_
        refine RetQ.mk good (.inr rfl) rfl rfl ?_
        simp_all [Wk, fz, tupA, chooseS, ByteArray.toList_eq]

theorem w60 (l : List Ex) (x : Val) (r : List Val × Int) (hlen : l.length ≤ 1000000) (hr : allS l x = some r) (h23 : ∀ (j : Nat) (e : Ex) (r : Val × Int), l[j]? = some e → evalS e x = some r → ACall Try.prog 23 [.agg (exC e), .agg (valC x)] (.tup [.agg (valC r.1), .int .i64 r.2])) : ACall Try.prog 60 [.sl .ro 8 (enxs l), .agg (valC x)] (.tup [.sl .ro 5 (encs r.1), .int .i64 r.2]) := by
  refine ACall.go [(0, .sl .ro 8 (enxs l)), (1, .agg (valC x))] Try.func60 rfl Try.ntmps60 rfl rfl (by simp [pureA, inL, inA, encs_pure]) ?_
  refine AW.seq ?_
  refine AW.region (M := fun _ => true) ?_
  refine AL.bx good (d := 3) rfl rfl rfl rfl rfl rfl 0 rfl ?_
  refine AL.v good (d := 4) rfl rfl rfl rfl ?_
  refine AL.v good (d := 5) rfl rfl rfl rfl ?_
  refine AW.seq ?_
  refine AW.region (M := fun _ => true) ?_
  refine AL.v good (d := 6) rfl rfl rfl rfl ?_
  refine AW.seq ?_
  refine AW.seq ?_
  refine AW.region (M := fun _ => true) ?_
  refine AL.v good (d := 11) rfl rfl rfl rfl ?_
  refine AL.v good (d := 12) rfl rfl rfl rfl ?_
  refine AL.v good (d := 13) rfl rfl rfl rfl ?_
  refine AW.block ?_
  refine AW.len 0 rfl (fun hl => ?_)
  rw [enxs_length] at hl
  refine AW.adopt 6 rfl 1 5 24 rfl rfl ?_
  refine AW.lp (fun p : Nat × List Val => [(3, .ptr 0 0), (6, .sl (.own 1) 5 (encs p.2)), (11, .sl .ro 8 (enxs l)), (12, .int .i64 (l.length : Int)), (13, .int .i64 (p.1 : Int))]) (fun p : Nat × List Val => [(0, .box 24 (valC x)), (1, .row 24 5 (encs p.2).length)]) (fun p : Nat × List Val => comb p.2 (allS (l.drop p.1) x) = some r ∧ p.1 ≤ l.length ∧ p.2.length = p.1) (fun p : Nat × List Val => l.length - p.1) (0, []) ⟨(fun _ h => by cases h), List.forall_mem_cons.2 ⟨⟨rfl, rfl⟩, List.forall_mem_cons.2 ⟨⟨rfl, (by simp [inA, idsIn, encs_pure])⟩, List.forall_mem_cons.2 ⟨⟨rfl, (by simp [inA, enxs_pure])⟩, List.forall_mem_cons.2 ⟨⟨(by show some (AV.int .i64 ((enxs l).length : Int)) = _; rw [enxs_length]), rfl⟩, List.forall_mem_cons.2 ⟨⟨rfl, rfl⟩, (fun _ h => by cases h)⟩⟩⟩⟩⟩, List.forall_mem_cons.2 ⟨⟨rfl, (by simp [inO, inL, inA, encs_pure])⟩, List.forall_mem_cons.2 ⟨⟨rfl, rfl⟩, (fun _ h => by cases h)⟩⟩⟩ ⟨by rw [show comb [] (allS (l.drop 0) x) = allS l x from comb_nil _ (allS_err l x)]; exact hr, Nat.zero_le _, rfl⟩ (fun ⟨k, acc⟩ hx => ?_)
  obtain ⟨hx, hkl, hac⟩ := hx
  dsimp only at hx hkl hac
  refine AW.seq ?_
  refine AW.region (M := fun _ => true) ?_
  refine AL.v good (d := 14) rfl rfl rfl rfl ?_
  refine AW.seq ?_
  refine AW.if rfl (fun h1 => ?_) (fun h1 => ?_)
  · skip
    refine AW.skip ?_
    refine AW.seq ?_
    refine AW.block ?_
    refine AW.seq ?_
    refine AW.region (M := fun _ => true) ?_
    have hk : k < l.length := by simpa using h1
    have hget : l[k]? = some l[k] := List.getElem?_eq_getElem hk
    refine AL.ix good (d := 15) rfl rfl rfl rfl rfl rfl rfl (Int.natCast_nonneg k) (enxs_get hget) ?_
    refine AL.v good (d := 16) rfl rfl rfl rfl ?_
    refine AL.alc good (d := 8) rfl rfl rfl rfl rfl 2 rfl ?_
    refine AL.st good rfl rfl rfl rfl rfl rfl rfl rfl rfl rfl rfl ?_
    refine AW.seq ?_
    refine AW.region (M := fun _ => true) ?_
    refine AL.v good (d := 18) rfl rfl rfl rfl ?_
    refine AL.v good (d := 19) rfl rfl rfl rfl ?_
    obtain ⟨q, hq⟩ := comb_some (by rw [← drop_get hget]; exact hx)
    refine AL.clp good (d := 20) rfl rfl rfl rfl rfl rfl rfl (h23 k l[k] q hget hq) ((by simp [pureL, inL, inA, inR, spl, encs_pure, enxs_pure])) ?_
    refine AL.v good (d := 17) rfl rfl rfl rfl ?_
    refine AL.v good (d := 21) rfl rfl rfl rfl ?_
    refine AL.v good (d := 22) rfl rfl rfl rfl ?_
    refine AL.alc good (d := 9) rfl rfl rfl rfl rfl 3 rfl ?_
    refine AL.st good rfl rfl rfl rfl rfl rfl rfl rfl rfl rfl rfl ?_
    refine AL.v good (d := 10) rfl rfl rfl rfl ?_
    refine AW.seq ?_
    refine AW.seq ?_
    refine AW.region (M := fun _ => true) ?_
    refine AL.v good (d := 23) rfl rfl rfl rfl ?_
    refine AL.v good (d := 24) rfl rfl rfl rfl ?_
    refine AW.if rfl (fun h2 => ?_) (fun h2 => ?_)
    · skip
      refine AW.seq ?_
      refine AW.region (M := fun _ => true) ?_
      refine AL.v good (d := 25) rfl rfl rfl rfl ?_
      refine AL.v good (d := 4) rfl rfl rfl rfl ?_
      refine AL.v good (d := 5) rfl rfl rfl rfl ?_
      refine AW.ret ?_
      refine RetQ.mk good (.inr rfl) rfl rfl ?_
      rw [drop_get hget, comb_stop hq (by simpa using h2)] at hx
      injection hx with hx
      subst hx
      simp [Wk, WkL, fz, fzL, fzR, tupA, spl, encs]
    · skip
      refine AW.skip ?_
      refine AW.region (M := fun _ => true) ?_
      refine AL.v good (d := 26) rfl rfl rfl rfl ?_
      refine AL.v good (d := 27) rfl rfl rfl rfl ?_
      refine AL.lit good (d := 28) rfl rfl rfl rfl rfl rfl rfl rfl rfl 4 rfl ?_
      refine AL.app good (d := 29) rfl rfl rfl rfl rfl rfl rfl rfl rfl rfl rfl rfl (by simp) (by have hb := encs_length acc; simp only [List.length_cons, List.length_nil]; omega) (by have hb := encs_length acc; simp only [List.length_cons, List.length_nil]; omega) ?_
      refine AL.v good (d := 6) rfl rfl rfl rfl ?_
      refine AW.region (M := fun _ => true) ?_
      refine AL.v good (d := 30) rfl rfl rfl rfl ?_
      refine AL.v good (d := 13) rfl rfl rfl rfl ?_
      have hq2 : q.2 = 0 := by simpa using h2
      have hq0 : evalS l[k] x = some (q.1, 0) := by rw [hq, ← hq2]
      exact ⟨(k + 1, acc ++ [q.1]), _, _, rfl, ⟨(fun _ h => by cases h), List.forall_mem_cons.2 ⟨⟨rfl, rfl⟩, List.forall_mem_cons.2 ⟨⟨(by rw [encs_snoc]; rfl), (by simp [inA, idsIn, encs_pure])⟩, List.forall_mem_cons.2 ⟨⟨rfl, (by simp [inA, enxs_pure])⟩, List.forall_mem_cons.2 ⟨⟨rfl, rfl⟩, List.forall_mem_cons.2 ⟨⟨(wnext hk hl), rfl⟩, (fun _ h => by cases h)⟩⟩⟩⟩⟩, List.forall_mem_cons.2 ⟨⟨rfl, (by simp [inO, inL, inA, encs_pure])⟩, List.forall_mem_cons.2 ⟨⟨(by rw [encs_snoc, List.length_append]; rfl), rfl⟩, (fun _ h => by cases h)⟩⟩⟩, ⟨by rw [drop_get hget] at hx; rw [← comb_step (acc := acc) (r := l.drop (k + 1)) hq0]; exact hx, by show k + 1 ≤ l.length; omega, by show (acc ++ [q.1]).length = k + 1; simp [hac]⟩, (by show l.length - (k + 1) < l.length - k; omega)⟩
  · skip
    refine AW.exit ?_
    refine AW.seq ?_
    refine AW.region (M := fun _ => true) ?_
    refine AL.v good (d := 31) rfl rfl rfl rfl ?_
    refine AL.v good (d := 4) rfl rfl rfl rfl ?_
    refine AL.v good (d := 5) rfl rfl rfl rfl ?_
    refine AW.ret ?_
    refine RetQ.mk good (.inr rfl) rfl rfl ?_
    have hk : l.length ≤ k := by simpa using h1
    rw [List.drop_eq_nil_of_le hk] at hx
    simp only [allS, comb, if_true, List.append_nil] at hx
    injection hx with hx
    subst hx
    simp [Wk, WkL, fz, fzL, fzR, tupA, spl, encs_fz]

end Go.Proofs.Ytbcjcekoonebiaa.Tl
