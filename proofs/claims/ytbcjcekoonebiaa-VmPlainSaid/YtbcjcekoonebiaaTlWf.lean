/- Walk: eval.Eval. Conditions: none. -/
import Derived.Test.YtbcjcekoonebiaaTlWe
set_option linter.unusedVariables false
set_option linter.unusedSimpArgs false
namespace Go.Proofs.Ytbcjcekoonebiaa.Tl
open Go Go.RowKit

theorem w23a (e : Ex) (x : Val) (r : Val × Int) (hr : evalS e x = some r) (h23 : ∀ (j : Nat) (e' : Ex) (r : Val × Int), e.a[j]? = some e' → evalS e' x = some r → ACall Try.prog 23 [.agg (exC e'), .agg (valC x)] (.tup [.agg (valC r.1), .int .i64 r.2])) (h60 : ∀ r : List Val × Int, e.a.length ≤ 1000000 → allS e.a x = some r → ACall Try.prog 60 [.sl .ro 8 (enxs e.a), .agg (valC x)] (.tup [.sl .ro 5 (encs r.1), .int .i64 r.2])) : ACall Try.prog 23 [.agg (exC e), .agg (valC x)] (.tup [.agg (valC r.1), .int .i64 r.2]) := by
  refine ACall.go [(0, .agg (exC e)), (1, .agg (valC x))] Try.func23 rfl Try.ntmps23 rfl rfl (by simp [pureA, inL, inA, encs_pure]) ?_
  refine AW.seq ?_
  refine AW.region (M := fun _ => true) ?_
  refine AL.bx good (d := 2) rfl rfl rfl rfl rfl rfl 0 rfl ?_
  refine AL.bx good (d := 3) rfl rfl rfl rfl rfl rfl 1 rfl ?_
  refine AL.alc good (d := 4) rfl rfl rfl rfl rfl 2 rfl ?_
  refine AL.v good (d := 5) rfl rfl rfl rfl ?_
  refine AW.seq ?_
  refine AW.seq ?_
  refine AW.region (M := fun _ => true) ?_
  refine AL.v good (d := 15) rfl rfl rfl rfl ?_
  refine AL.v good (d := 16) rfl rfl rfl rfl ?_
  refine AW.block ?_
  refine AW.seq ?_
  refine AW.region (M := fun _ => true) ?_
  refine AL.v good (d := 18) rfl rfl rfl rfl ?_
  refine AL.v good (d := 17) rfl rfl rfl rfl ?_
  refine AW.if rfl (fun h1 => ?_) (fun h1 => ?_)
  · skip
    refine AW.seq ?_
    refine AW.region (M := fun _ => true) ?_
    refine AL.v good (d := 19) rfl rfl rfl rfl ?_
    refine AL.v good (d := 20) rfl rfl rfl rfl ?_
    refine AL.st good rfl rfl rfl rfl rfl rfl rfl rfl rfl rfl rfl ?_
    refine AL.v good (d := 5) rfl rfl rfl rfl ?_
    refine AW.ret ?_
    refine RetQ.mk good (.inr rfl) rfl rfl ?_
    have hq := evalS_lit hr (by simpa [ByteArray.toList_eq] using h1)
    subst hq
    simp [Wk, WkL, fz, fzL, fzR, tupA, spl, encs_fz, enc1_fz, Val.kind, Val.i, Val.b, Val.s, Val.t, encs]
  · skip
    refine AW.seq ?_
    refine AW.region (M := fun _ => true) ?_
    refine AL.v good (d := 22) rfl rfl rfl rfl ?_
    refine AL.v good (d := 21) rfl rfl rfl rfl ?_
    refine AW.if rfl (fun h2 => ?_) (fun h2 => ?_)
    · skip
      refine AW.seq ?_
      refine AW.region (M := fun _ => true) ?_
      refine AL.v good (d := 23) rfl rfl rfl rfl ?_
      refine AL.st good rfl rfl rfl rfl rfl rfl rfl rfl rfl rfl rfl ?_
      refine AL.v good (d := 5) rfl rfl rfl rfl ?_
      refine AW.ret ?_
      refine RetQ.mk good (.inr rfl) rfl rfl ?_
      have hq := evalS_x hr (by simpa [ByteArray.toList_eq] using h1) (by simpa [ByteArray.toList_eq] using h2)
      subst hq
      simp [Wk, WkL, fz, fzL, fzR, tupA, spl, encs_fz, enc1_fz, Val.kind, Val.i, Val.b, Val.s, Val.t, encs]
    · skip
      refine AW.seq ?_
      refine AW.seq ?_
      refine AW.region (M := fun _ => true) ?_
      refine AL.v good (d := 25) rfl rfl rfl rfl ?_
      refine AL.v good (d := 24) rfl rfl rfl rfl ?_
      refine AW.if rfl (fun h3 => ?_) (fun h3 => ?_)
      · skip
        refine AW.skip ?_
        refine AW.if rfl (fun _ => ?_) (fun h => by cases h3.symm.trans h)
        refine AW.seq ?_
        refine AW.draw (M := fun i => Nat.beq i 10) good.wide (by kernel_rfl) ?_
        refine AL.v good (d := 29) rfl rfl rfl rfl ?_
        refine AL.v good (d := 30) rfl rfl rfl rfl ?_
        have hn1 : ¬ e.op.data.toList = [108, 105, 116] := (by simpa [ByteArray.toList_eq] using h1)
        have hn2 : ¬ e.op.data.toList = [120] := (by simpa [ByteArray.toList_eq] using h2)
        have hz : isLazy e.op = true := by
          have hq := h3
          simp only [ByteArray.toList_eq] at hq
          simp [isLazy] at hq ⊢
          simp [hq]
        obtain ⟨e0, wv, f, g1, g2, g3⟩ := evalS_lazy hr hn1 hn2 hz
        refine AL.ix good (d := 31) rfl rfl rfl rfl rfl rfl rfl (by decide) (enxs_get g1) ?_
        refine AL.v good (d := 32) rfl rfl rfl rfl ?_
        refine AL.v good (d := 33) rfl rfl rfl rfl ?_
        refine AL.clp good (d := 34) rfl rfl rfl rfl rfl rfl rfl (h23 0 e0 (wv, f) g1 g2) ((by simp [pureL, inL, inA, inR, spl, encs_pure, enxs_pure])) ?_
        refine AL.v good (d := 28) rfl rfl rfl rfl ?_
        refine AL.v good (d := 35) rfl rfl rfl rfl ?_
        refine AL.v good (d := 36) rfl rfl rfl rfl ?_
        refine AL.alc good (d := 6) rfl rfl rfl rfl rfl 3 rfl ?_
        refine AL.st good rfl rfl rfl rfl rfl rfl rfl rfl rfl rfl rfl ?_
        refine AL.v good (d := 7) rfl rfl rfl rfl ?_
        refine AW.seq ?_
        refine AW.seq ?_
        refine AW.region (M := fun _ => true) ?_
        refine AL.v good (d := 37) rfl rfl rfl rfl ?_
        refine AL.v good (d := 38) rfl rfl rfl rfl ?_
        refine AL.clp good (d := 39) rfl rfl rfl rfl rfl rfl rfl (w59 e wv) ((by simp [pureL, inL, inA, inR, spl, encs_pure, enxs_pure])) ?_
        refine AL.v good (d := 8) rfl rfl rfl rfl ?_
        refine AW.seq ?_
        refine AW.region (M := fun _ => true) ?_
        refine AL.v good (d := 40) rfl rfl rfl rfl ?_
        refine AL.v good (d := 41) rfl rfl rfl rfl ?_
        refine AL.v good (d := 42) rfl rfl rfl rfl ?_
        refine AL.cs 42 rfl (fun h4 => ?_) (fun h4 => ?_)
        · skip
          refine AL.v good (d := 43) rfl rfl rfl rfl ?_
          refine AL.v good (d := 44) rfl rfl rfl rfl ?_
          refine AL.v good (d := 45) rfl rfl rfl rfl ?_
          refine AW.if rfl (fun h5 => ?_) (fun h5 => ?_)
          · skip
            refine AW.seq ?_
            refine AW.draw (M := fun i => Nat.beq i 9) good.wide (by kernel_rfl) ?_
            refine AL.v good (d := 46) rfl rfl rfl rfl ?_
            refine AL.v good (d := 47) rfl rfl rfl rfl ?_
            refine AL.v good (d := 48) rfl rfl rfl rfl ?_
            have hch : 0 < chooseS e.op wv.b := by simpa using h5
            have hf0 : f = 0 := by simpa using h4
            rw [if_pos ⟨hf0, hch⟩] at g3
            obtain ⟨e1, m1, m2⟩ := nthS_some g3
            refine AL.ix good (d := 49) rfl rfl rfl rfl rfl rfl rfl (by omega) (enxs_get m1) ?_
            refine AL.v good (d := 50) rfl rfl rfl rfl ?_
            refine AL.v good (d := 51) rfl rfl rfl rfl ?_
            refine AL.clp good (d := 52) rfl rfl rfl rfl rfl rfl rfl (h23 _ e1 r m1 m2) ((by simp [pureL, inL, inA, inR, spl, encs_pure, enxs_pure])) ?_
            refine AL.v good (d := 53) rfl rfl rfl rfl ?_
            refine AL.v good (d := 54) rfl rfl rfl rfl ?_
            refine AL.st good rfl rfl rfl rfl rfl rfl rfl rfl rfl rfl rfl ?_
            refine AL.v good (d := 5) rfl rfl rfl rfl ?_
            refine AW.ret ?_
            refine RetQ.mk good (.inr rfl) rfl rfl ?_
            simp [Wk, WkL, fz, fzL, fzR, tupA, spl, encs_fz, enc1_fz, Val.kind, Val.i, Val.b, Val.s, Val.t, encs]
          · skip
            refine AW.skip ?_
            refine AW.seq ?_
            refine AW.region (M := fun _ => true) ?_
            refine AL.v good (d := 55) rfl rfl rfl rfl ?_
            refine AL.v good (d := 56) rfl rfl rfl rfl ?_
            refine AL.st good rfl rfl rfl rfl rfl rfl rfl rfl rfl rfl rfl ?_
            refine AL.v good (d := 5) rfl rfl rfl rfl ?_
            refine AW.ret ?_
            refine RetQ.mk good (.inr rfl) rfl rfl ?_
            rw [if_neg (fun hq => by have hq2 := h5; have hq3 := hq.2; simp at hq2; omega)] at g3
            injection g3 with g3
            subst g3
            simp [Wk, WkL, fz, fzL, fzR, tupA, spl, encs_fz, enc1_fz, Val.kind, Val.i, Val.b, Val.s, Val.t, encs]
        · skip
          refine AL.sk good (d := 43) rfl rfl rfl ?_
          refine AL.sk good (d := 44) rfl rfl rfl ?_
          refine AL.v good (d := 45) rfl rfl rfl rfl ?_
          refine AW.if rfl (fun h => by cases h) (fun _ => ?_)
          refine AW.skip ?_
          refine AW.seq ?_
          refine AW.region (M := fun _ => true) ?_
          refine AL.v good (d := 55) rfl rfl rfl rfl ?_
          refine AL.v good (d := 56) rfl rfl rfl rfl ?_
          refine AL.st good rfl rfl rfl rfl rfl rfl rfl rfl rfl rfl rfl ?_
          refine AL.v good (d := 5) rfl rfl rfl rfl ?_
          refine AW.ret ?_
          refine RetQ.mk good (.inr rfl) rfl rfl ?_
          rw [if_neg (fun hq => by have hq2 := h4; simp [hq.1] at hq2)] at g3
          injection g3 with g3
          subst g3
          simp [Wk, WkL, fz, fzL, fzR, tupA, spl, encs_fz, enc1_fz, Val.kind, Val.i, Val.b, Val.s, Val.t, encs]
      · skip
        refine AW.seq ?_
        refine AW.region (M := fun _ => true) ?_
        refine AL.v good (d := 26) rfl rfl rfl rfl ?_
        refine AL.v good (d := 24) rfl rfl rfl rfl ?_
        refine AW.if rfl (fun h6 => ?_) (fun h6 => ?_)
        · skip
          refine AW.skip ?_
          refine AW.if rfl (fun _ => ?_) (fun h => by cases h6.symm.trans h)
          refine AW.seq ?_
          refine AW.draw (M := fun i => Nat.beq i 10) good.wide (by kernel_rfl) ?_
          refine AL.v good (d := 29) rfl rfl rfl rfl ?_
          refine AL.v good (d := 30) rfl rfl rfl rfl ?_
          have hn1 : ¬ e.op.data.toList = [108, 105, 116] := (by simpa [ByteArray.toList_eq] using h1)
          have hn2 : ¬ e.op.data.toList = [120] := (by simpa [ByteArray.toList_eq] using h2)
          have hz : isLazy e.op = true := by
            have hq := h6
            simp only [ByteArray.toList_eq] at hq
            simp [isLazy] at hq ⊢
            simp [hq]
          obtain ⟨e0, wv, f, g1, g2, g3⟩ := evalS_lazy hr hn1 hn2 hz
          refine AL.ix good (d := 31) rfl rfl rfl rfl rfl rfl rfl (by decide) (enxs_get g1) ?_
          refine AL.v good (d := 32) rfl rfl rfl rfl ?_
          refine AL.v good (d := 33) rfl rfl rfl rfl ?_
          refine AL.clp good (d := 34) rfl rfl rfl rfl rfl rfl rfl (h23 0 e0 (wv, f) g1 g2) ((by simp [pureL, inL, inA, inR, spl, encs_pure, enxs_pure])) ?_
          refine AL.v good (d := 28) rfl rfl rfl rfl ?_
          refine AL.v good (d := 35) rfl rfl rfl rfl ?_
          refine AL.v good (d := 36) rfl rfl rfl rfl ?_
          refine AL.alc good (d := 6) rfl rfl rfl rfl rfl 3 rfl ?_
          refine AL.st good rfl rfl rfl rfl rfl rfl rfl rfl rfl rfl rfl ?_
          refine AL.v good (d := 7) rfl rfl rfl rfl ?_
          refine AW.seq ?_
          refine AW.seq ?_
          refine AW.region (M := fun _ => true) ?_
          refine AL.v good (d := 37) rfl rfl rfl rfl ?_
          refine AL.v good (d := 38) rfl rfl rfl rfl ?_
          refine AL.clp good (d := 39) rfl rfl rfl rfl rfl rfl rfl (w59 e wv) ((by simp [pureL, inL, inA, inR, spl, encs_pure, enxs_pure])) ?_
          refine AL.v good (d := 8) rfl rfl rfl rfl ?_
          refine AW.seq ?_
          refine AW.region (M := fun _ => true) ?_
          refine AL.v good (d := 40) rfl rfl rfl rfl ?_
          refine AL.v good (d := 41) rfl rfl rfl rfl ?_
          refine AL.v good (d := 42) rfl rfl rfl rfl ?_
          refine AL.cs 42 rfl (fun h7 => ?_) (fun h7 => ?_)
          · skip
            refine AL.v good (d := 43) rfl rfl rfl rfl ?_
            refine AL.v good (d := 44) rfl rfl rfl rfl ?_
            refine AL.v good (d := 45) rfl rfl rfl rfl ?_
            refine AW.if rfl (fun h8 => ?_) (fun h8 => ?_)
            · skip
              refine AW.seq ?_
              refine AW.draw (M := fun i => Nat.beq i 9) good.wide (by kernel_rfl) ?_
              refine AL.v good (d := 46) rfl rfl rfl rfl ?_
              refine AL.v good (d := 47) rfl rfl rfl rfl ?_
              refine AL.v good (d := 48) rfl rfl rfl rfl ?_
              have hch : 0 < chooseS e.op wv.b := by simpa using h8
              have hf0 : f = 0 := by simpa using h7
              rw [if_pos ⟨hf0, hch⟩] at g3
              obtain ⟨e1, m1, m2⟩ := nthS_some g3
              refine AL.ix good (d := 49) rfl rfl rfl rfl rfl rfl rfl (by omega) (enxs_get m1) ?_
              refine AL.v good (d := 50) rfl rfl rfl rfl ?_
              refine AL.v good (d := 51) rfl rfl rfl rfl ?_
              refine AL.clp good (d := 52) rfl rfl rfl rfl rfl rfl rfl (h23 _ e1 r m1 m2) ((by simp [pureL, inL, inA, inR, spl, encs_pure, enxs_pure])) ?_
              refine AL.v good (d := 53) rfl rfl rfl rfl ?_
              refine AL.v good (d := 54) rfl rfl rfl rfl ?_
              refine AL.st good rfl rfl rfl rfl rfl rfl rfl rfl rfl rfl rfl ?_
              refine AL.v good (d := 5) rfl rfl rfl rfl ?_
              refine AW.ret ?_
              refine RetQ.mk good (.inr rfl) rfl rfl ?_
              simp [Wk, WkL, fz, fzL, fzR, tupA, spl, encs_fz, enc1_fz, Val.kind, Val.i, Val.b, Val.s, Val.t, encs]
            · skip
              refine AW.skip ?_
              refine AW.seq ?_
              refine AW.region (M := fun _ => true) ?_
              refine AL.v good (d := 55) rfl rfl rfl rfl ?_
              refine AL.v good (d := 56) rfl rfl rfl rfl ?_
              refine AL.st good rfl rfl rfl rfl rfl rfl rfl rfl rfl rfl rfl ?_
              refine AL.v good (d := 5) rfl rfl rfl rfl ?_
              refine AW.ret ?_
              refine RetQ.mk good (.inr rfl) rfl rfl ?_
              rw [if_neg (fun hq => by have hq2 := h8; have hq3 := hq.2; simp at hq2; omega)] at g3
              injection g3 with g3
              subst g3
              simp [Wk, WkL, fz, fzL, fzR, tupA, spl, encs_fz, enc1_fz, Val.kind, Val.i, Val.b, Val.s, Val.t, encs]
          · skip
            refine AL.sk good (d := 43) rfl rfl rfl ?_
            refine AL.sk good (d := 44) rfl rfl rfl ?_
            refine AL.v good (d := 45) rfl rfl rfl rfl ?_
            refine AW.if rfl (fun h => by cases h) (fun _ => ?_)
            refine AW.skip ?_
            refine AW.seq ?_
            refine AW.region (M := fun _ => true) ?_
            refine AL.v good (d := 55) rfl rfl rfl rfl ?_
            refine AL.v good (d := 56) rfl rfl rfl rfl ?_
            refine AL.st good rfl rfl rfl rfl rfl rfl rfl rfl rfl rfl rfl ?_
            refine AL.v good (d := 5) rfl rfl rfl rfl ?_
            refine AW.ret ?_
            refine RetQ.mk good (.inr rfl) rfl rfl ?_
            rw [if_neg (fun hq => by have hq2 := h7; simp [hq.1] at hq2)] at g3
            injection g3 with g3
            subst g3
            simp [Wk, WkL, fz, fzL, fzR, tupA, spl, encs_fz, enc1_fz, Val.kind, Val.i, Val.b, Val.s, Val.t, encs]
        · skip
          refine AW.region (M := fun _ => true) ?_
          refine AL.v good (d := 27) rfl rfl rfl rfl ?_
          refine AL.v good (d := 24) rfl rfl rfl rfl ?_
          refine AW.if rfl (fun h9 => ?_) (fun h9 => ?_)
          · skip
            refine AW.seq ?_
            refine AW.draw (M := fun i => Nat.beq i 10) good.wide (by kernel_rfl) ?_
            refine AL.v good (d := 29) rfl rfl rfl rfl ?_
            refine AL.v good (d := 30) rfl rfl rfl rfl ?_
            have hn1 : ¬ e.op.data.toList = [108, 105, 116] := (by simpa [ByteArray.toList_eq] using h1)
            have hn2 : ¬ e.op.data.toList = [120] := (by simpa [ByteArray.toList_eq] using h2)
            have hz : isLazy e.op = true := by
              have hq := h9
              simp only [ByteArray.toList_eq] at hq
              simp [isLazy] at hq ⊢
              simp [hq]
            obtain ⟨e0, wv, f, g1, g2, g3⟩ := evalS_lazy hr hn1 hn2 hz
            refine AL.ix good (d := 31) rfl rfl rfl rfl rfl rfl rfl (by decide) (enxs_get g1) ?_
            refine AL.v good (d := 32) rfl rfl rfl rfl ?_
            refine AL.v good (d := 33) rfl rfl rfl rfl ?_
            refine AL.clp good (d := 34) rfl rfl rfl rfl rfl rfl rfl (h23 0 e0 (wv, f) g1 g2) ((by simp [pureL, inL, inA, inR, spl, encs_pure, enxs_pure])) ?_
            refine AL.v good (d := 28) rfl rfl rfl rfl ?_
            refine AL.v good (d := 35) rfl rfl rfl rfl ?_
            refine AL.v good (d := 36) rfl rfl rfl rfl ?_
            refine AL.alc good (d := 6) rfl rfl rfl rfl rfl 3 rfl ?_
            refine AL.st good rfl rfl rfl rfl rfl rfl rfl rfl rfl rfl rfl ?_
            refine AL.v good (d := 7) rfl rfl rfl rfl ?_
            refine AW.seq ?_
            refine AW.seq ?_
            refine AW.region (M := fun _ => true) ?_
            refine AL.v good (d := 37) rfl rfl rfl rfl ?_
            refine AL.v good (d := 38) rfl rfl rfl rfl ?_
            refine AL.clp good (d := 39) rfl rfl rfl rfl rfl rfl rfl (w59 e wv) ((by simp [pureL, inL, inA, inR, spl, encs_pure, enxs_pure])) ?_
            refine AL.v good (d := 8) rfl rfl rfl rfl ?_
            refine AW.seq ?_
            refine AW.region (M := fun _ => true) ?_
            refine AL.v good (d := 40) rfl rfl rfl rfl ?_
            refine AL.v good (d := 41) rfl rfl rfl rfl ?_
            refine AL.v good (d := 42) rfl rfl rfl rfl ?_
            refine AL.cs 42 rfl (fun h10 => ?_) (fun h10 => ?_)
            · skip
              refine AL.v good (d := 43) rfl rfl rfl rfl ?_
              refine AL.v good (d := 44) rfl rfl rfl rfl ?_
              refine AL.v good (d := 45) rfl rfl rfl rfl ?_
              refine AW.if rfl (fun h11 => ?_) (fun h11 => ?_)
              · skip
                refine AW.seq ?_
                refine AW.draw (M := fun i => Nat.beq i 9) good.wide (by kernel_rfl) ?_
                refine AL.v good (d := 46) rfl rfl rfl rfl ?_
                refine AL.v good (d := 47) rfl rfl rfl rfl ?_
                refine AL.v good (d := 48) rfl rfl rfl rfl ?_
                have hch : 0 < chooseS e.op wv.b := by simpa using h11
                have hf0 : f = 0 := by simpa using h10
                rw [if_pos ⟨hf0, hch⟩] at g3
                obtain ⟨e1, m1, m2⟩ := nthS_some g3
                refine AL.ix good (d := 49) rfl rfl rfl rfl rfl rfl rfl (by omega) (enxs_get m1) ?_
                refine AL.v good (d := 50) rfl rfl rfl rfl ?_
                refine AL.v good (d := 51) rfl rfl rfl rfl ?_
                refine AL.clp good (d := 52) rfl rfl rfl rfl rfl rfl rfl (h23 _ e1 r m1 m2) ((by simp [pureL, inL, inA, inR, spl, encs_pure, enxs_pure])) ?_
                refine AL.v good (d := 53) rfl rfl rfl rfl ?_
                refine AL.v good (d := 54) rfl rfl rfl rfl ?_
                refine AL.st good rfl rfl rfl rfl rfl rfl rfl rfl rfl rfl rfl ?_
                refine AL.v good (d := 5) rfl rfl rfl rfl ?_
                refine AW.ret ?_
                refine RetQ.mk good (.inr rfl) rfl rfl ?_
                simp [Wk, WkL, fz, fzL, fzR, tupA, spl, encs_fz, enc1_fz, Val.kind, Val.i, Val.b, Val.s, Val.t, encs]
              · skip
                refine AW.skip ?_
                refine AW.seq ?_
                refine AW.region (M := fun _ => true) ?_
                refine AL.v good (d := 55) rfl rfl rfl rfl ?_
                refine AL.v good (d := 56) rfl rfl rfl rfl ?_
                refine AL.st good rfl rfl rfl rfl rfl rfl rfl rfl rfl rfl rfl ?_
                refine AL.v good (d := 5) rfl rfl rfl rfl ?_
                refine AW.ret ?_
                refine RetQ.mk good (.inr rfl) rfl rfl ?_
                rw [if_neg (fun hq => by have hq2 := h11; have hq3 := hq.2; simp at hq2; omega)] at g3
                injection g3 with g3
                subst g3
                simp [Wk, WkL, fz, fzL, fzR, tupA, spl, encs_fz, enc1_fz, Val.kind, Val.i, Val.b, Val.s, Val.t, encs]
            · skip
              refine AL.sk good (d := 43) rfl rfl rfl ?_
              refine AL.sk good (d := 44) rfl rfl rfl ?_
              refine AL.v good (d := 45) rfl rfl rfl rfl ?_
              refine AW.if rfl (fun h => by cases h) (fun _ => ?_)
              refine AW.skip ?_
              refine AW.seq ?_
              refine AW.region (M := fun _ => true) ?_
              refine AL.v good (d := 55) rfl rfl rfl rfl ?_
              refine AL.v good (d := 56) rfl rfl rfl rfl ?_
              refine AL.st good rfl rfl rfl rfl rfl rfl rfl rfl rfl rfl rfl ?_
              refine AL.v good (d := 5) rfl rfl rfl rfl ?_
              refine AW.ret ?_
              refine RetQ.mk good (.inr rfl) rfl rfl ?_
              rw [if_neg (fun hq => by have hq2 := h10; simp [hq.1] at hq2)] at g3
              injection g3 with g3
              subst g3
              simp [Wk, WkL, fz, fzL, fzR, tupA, spl, encs_fz, enc1_fz, Val.kind, Val.i, Val.b, Val.s, Val.t, encs]
          · skip
            refine AW.skip ?_
            refine AW.seq ?_
            refine AW.region (M := fun _ => true) ?_
            refine AL.v good (d := 58) rfl rfl rfl rfl ?_
            refine AL.v good (d := 59) rfl rfl rfl rfl ?_
            refine AL.v good (d := 60) rfl rfl rfl rfl ?_
            have hn1 : ¬ e.op.data.toList = [108, 105, 116] := (by simpa [ByteArray.toList_eq] using h1)
            have hn2 : ¬ e.op.data.toList = [120] := (by simpa [ByteArray.toList_eq] using h2)
            have hz : ¬ isLazy e.op = true := by
              have q1 := h3
              have q2 := h6
              have q3 := h9
              simp only [ByteArray.toList_eq] at q1 q2 q3
              simp [isLazy] at q1 q2 q3 ⊢
              exact ⟨⟨q1, q2⟩, q3⟩
            obtain ⟨l, f, hb, ha, hs⟩ := evalS_all hr hn1 hn2 hz
            refine AL.clp good (d := 61) rfl rfl rfl rfl rfl rfl rfl (h60 (l, f) hb ha) ((by simp [pureL, inL, inA, inR, spl, encs_pure, enxs_pure])) ?_
            refine AL.v good (d := 57) rfl rfl rfl rfl ?_
            refine AL.v good (d := 62) rfl rfl rfl rfl ?_
            refine AL.v good (d := 63) rfl rfl rfl rfl ?_
            refine AL.v good (d := 9) rfl rfl rfl rfl ?_
            refine AL.v good (d := 10) rfl rfl rfl rfl ?_
            refine AW.seq ?_
            refine AW.block ?_
            refine AW.seq ?_
            refine AW.region (M := fun _ => true) ?_
            refine AL.v good (d := 65) rfl rfl rfl rfl ?_
            refine AL.v good (d := 66) rfl rfl rfl rfl ?_
            refine AL.v good (d := 64) rfl rfl rfl rfl ?_
            refine AW.if rfl (fun h12 => ?_) (fun h12 => ?_)
            · skip
              refine AW.seq ?_
              refine AW.region (M := fun _ => true) ?_
              refine AL.bld good (d := 67) rfl rfl rfl rfl rfl rfl rfl ?_
              refine AL.v good (d := 68) rfl rfl rfl rfl ?_
              refine AL.st good rfl rfl rfl rfl rfl rfl rfl rfl rfl rfl rfl ?_
              refine AL.v good (d := 5) rfl rfl rfl rfl ?_
              refine AW.ret ?_
              refine RetQ.mk good (.inr rfl) rfl rfl ?_
              rw [if_neg (by simpa using h12)] at hs
              injection hs with hs
              subst hs
              simp [Wk, WkL, fz, fzL, fzR, tupA, spl, encs_fz, enc1_fz, Val.kind, Val.i, Val.b, Val.s, Val.t, encs]
            · skip
              refine AW.seq ?_
              refine AW.region (M := fun _ => true) ?_
              refine AL.v good (d := 70) rfl rfl rfl rfl ?_
              refine AL.v good (d := 71) rfl rfl rfl rfl ?_
              refine AL.v good (d := 72) rfl rfl rfl rfl ?_
              refine AL.v good (d := 69) rfl rfl rfl rfl ?_
              refine AW.if rfl (fun h13 => ?_) (fun h13 => ?_)
              · skip
                refine AW.seq ?_
                refine AW.draw (M := fun i => Nat.beq i 8) good.wide (by kernel_rfl) ?_
                refine AL.v good (d := 73) rfl rfl rfl rfl ?_
                rw [if_pos (by simpa using h12 : f = 0)] at hs
                obtain ⟨v, t, ww, rfl, hn, hw, rfl⟩ := applyS_at hs (by simpa [ByteArray.toList_eq] using h13)
                refine AL.ix good (d := 74) rfl rfl rfl rfl rfl rfl rfl (by decide) (encs_get (l := v :: t) rfl) ?_
                refine AL.v good (d := 75) rfl rfl rfl rfl ?_
                refine AL.v good (d := 76) rfl rfl rfl rfl ?_
                refine AL.v good (d := 77) rfl rfl rfl rfl ?_
                refine AL.v good (d := 78) rfl rfl rfl rfl ?_
                refine AL.ix good (d := 79) rfl rfl rfl rfl rfl rfl rfl hn (encs_get hw) ?_
                refine AL.v good (d := 80) rfl rfl rfl rfl ?_
                refine AL.st good rfl rfl rfl rfl rfl rfl rfl rfl rfl rfl rfl ?_
                refine AL.v good (d := 5) rfl rfl rfl rfl ?_
                refine AW.ret ?_
                refine RetQ.mk good (.inr rfl) rfl rfl ?_
                simp [Wk, WkL, fz, fzL, fzR, tupA, spl, encs_fz, enc1_fz, Val.kind, Val.i, Val.b, Val.s, Val.t, encs]
              · skip
                refine AW.seq ?_
                refine AW.region (M := fun _ => true) ?_
                refine AL.v good (d := 82) rfl rfl rfl rfl ?_
                refine AL.v good (d := 83) rfl rfl rfl rfl ?_
                refine AL.v good (d := 84) rfl rfl rfl rfl ?_
                refine AL.v good (d := 81) rfl rfl rfl rfl ?_
                refine AW.if rfl (fun h14 => ?_) (fun h14 => ?_)
                · skip
                  refine AW.seq ?_
                  refine AW.region (M := fun _ => true) ?_
                  refine AL.v good (d := 85) rfl rfl rfl rfl ?_
                  rw [if_pos (by simpa using h12 : f = 0)] at hs
                  obtain ⟨v, t, rfl, ht, rfl⟩ := applyS_tup hs (by simpa [ByteArray.toList_eq] using h13) (by simpa [ByteArray.toList_eq] using h14)
                  refine AL.clp good (d := 86) rfl rfl rfl rfl rfl rfl rfl (w27 (enc1 v) (encs t) (encs_pure _ (v :: t)) (by rw [encs_length]; exact ht)) ((by simp [pureL, inL, inA, inR, spl, encs_pure, enxs_pure])) ?_
                  refine AL.st good rfl rfl rfl rfl rfl rfl rfl rfl rfl rfl rfl ?_
                  refine AL.v good (d := 5) rfl rfl rfl rfl ?_
                  refine AW.ret ?_
                  refine RetQ.mk good (.inr rfl) rfl rfl ?_
                  simp [Wk, WkL, fz, fzL, fzR, tupA, spl, encs_fz, enc1_fz, Val.kind, Val.i, Val.b, Val.s, Val.t, encs]
                · skip
                  refine AW.seq ?_
                  refine AW.region (M := fun _ => true) ?_
                  refine AL.v good (d := 88) rfl rfl rfl rfl ?_
                  refine AL.v good (d := 89) rfl rfl rfl rfl ?_
                  refine AL.v good (d := 90) rfl rfl rfl rfl ?_
                  refine AL.v good (d := 87) rfl rfl rfl rfl ?_
                  refine AW.if rfl (fun h15 => ?_) (fun h15 => ?_)
                  · skip
                    refine AW.seq ?_
                    refine AW.draw (M := fun i => Nat.beq i 10) good.wide (by kernel_rfl) ?_
                    refine AL.v good (d := 92) rfl rfl rfl rfl ?_
                    refine AL.v good (d := 93) rfl rfl rfl rfl ?_
                    refine AL.v good (d := 94) rfl rfl rfl rfl ?_
                    rw [if_pos (by simpa using h12 : f = 0)] at hs
                    obtain ⟨v, ww, rfl, ho, rfl⟩ := applyS_one hs (by simpa [ByteArray.toList_eq] using h13) (by simpa [ByteArray.toList_eq] using h14) (by have hq := h15; simp [encs_length] at hq; omega)
                    refine AL.ix good (d := 95) rfl rfl rfl rfl rfl rfl rfl (by decide) (encs_get (l := [v]) rfl) ?_
                    refine AL.v good (d := 96) rfl rfl rfl rfl ?_
                    refine AL.clp good (d := 97) rfl rfl rfl rfl rfl rfl rfl (w61 e.op v ww ho) ((by simp [pureL, inL, inA, inR, spl, encs_pure, enxs_pure])) ?_
                    refine AL.v good (d := 91) rfl rfl rfl rfl ?_
                    refine AL.v good (d := 98) rfl rfl rfl rfl ?_
                    refine AL.v good (d := 99) rfl rfl rfl rfl ?_
                    refine AL.alc good (d := 11) rfl rfl rfl rfl rfl 3 rfl ?_
                    refine AL.st good rfl rfl rfl rfl rfl rfl rfl rfl rfl rfl rfl ?_
                    refine AL.v good (d := 12) rfl rfl rfl rfl ?_
                    refine AW.seq ?_
                    refine AW.region (M := fun _ => true) ?_
                    refine AL.v good (d := 100) rfl rfl rfl rfl ?_
                    refine AL.st good rfl rfl rfl rfl rfl rfl rfl rfl rfl rfl rfl ?_
                    refine AL.v good (d := 5) rfl rfl rfl rfl ?_
                    refine AW.ret ?_
                    refine RetQ.mk good (.inr rfl) rfl rfl ?_
                    simp [Wk, WkL, fz, fzL, fzR, tupA, spl, encs_fz, enc1_fz, Val.kind, Val.i, Val.b, Val.s, Val.t, encs]
                  · skip
                    refine AW.skip ?_
                    refine AW.seq ?_
                    refine AW.draw (M := fun i => Nat.beq i 14) good.wide (by kernel_rfl) ?_
                    refine AL.v good (d := 102) rfl rfl rfl rfl ?_
                    refine AL.v good (d := 103) rfl rfl rfl rfl ?_
                    refine AL.v good (d := 104) rfl rfl rfl rfl ?_
                    rw [if_pos (by simpa using h12 : f = 0)] at hs
                    obtain ⟨v, ww, t, rfl, ho⟩ := applyS_two hs (by simpa [ByteArray.toList_eq] using h13) (by simpa [ByteArray.toList_eq] using h14) (by have hq := h15; simp [encs_length] at hq; omega)
                    refine AL.ix good (d := 105) rfl rfl rfl rfl rfl rfl rfl (by decide) (encs_get (l := v :: ww :: t) rfl) ?_
                    refine AL.v good (d := 106) rfl rfl rfl rfl ?_
                    refine AL.v good (d := 107) rfl rfl rfl rfl ?_
                    refine AL.ix good (d := 108) rfl rfl rfl rfl rfl rfl rfl (by decide) (encs_get (l := v :: ww :: t) rfl) ?_
                    refine AL.v good (d := 109) rfl rfl rfl rfl ?_
                    refine AL.clp good (d := 110) rfl rfl rfl rfl rfl rfl rfl (w62 e.op v ww r ho) ((by simp [pureL, inL, inA, inR, spl, encs_pure, enxs_pure])) ?_
                    refine AL.v good (d := 101) rfl rfl rfl rfl ?_
                    refine AL.v good (d := 111) rfl rfl rfl rfl ?_
                    refine AL.v good (d := 112) rfl rfl rfl rfl ?_
                    refine AL.v good (d := 113) rfl rfl rfl rfl ?_
                    refine AL.alc good (d := 13) rfl rfl rfl rfl rfl 3 rfl ?_
                    refine AL.st good rfl rfl rfl rfl rfl rfl rfl rfl rfl rfl rfl ?_
                    refine AL.v good (d := 10) rfl rfl rfl rfl ?_
                    refine AL.v good (d := 14) rfl rfl rfl rfl ?_
                    refine AW.seq ?_
                    refine AW.region (M := fun _ => true) ?_
                    refine AL.v good (d := 114) rfl rfl rfl rfl ?_
                    refine AL.v good (d := 115) rfl rfl rfl rfl ?_
                    refine AL.st good rfl rfl rfl rfl rfl rfl rfl rfl rfl rfl rfl ?_
                    refine AL.v good (d := 5) rfl rfl rfl rfl ?_
                    refine AW.ret ?_
                    refine RetQ.mk good (.inr rfl) rfl rfl ?_
                    simp [Wk, WkL, fz, fzL, fzR, tupA, spl, encs_fz, enc1_fz, Val.kind, Val.i, Val.b, Val.s, Val.t, encs]

theorem w23 (e : Ex) (x : Val) (r : Val × Int) (hr : evalS e x = some r) : ACall Try.prog 23 [.agg (exC e), .agg (valC x)] (.tup [.agg (valC r.1), .int .i64 r.2]) :=
  w23a e x r hr (fun j e' r' hj hr' => w23 e' x r' hr') (fun rr hb ha => w60 e.a x rr hb ha (fun j e' r' hj hr' => w23 e' x r' hr'))
termination_by e
decreasing_by
  all_goals
    cases e with
    | mk o v n a =>
      have := List.sizeOf_lt_of_mem (List.mem_of_getElem? hj)
      simp only [Ex.a] at this
      simp only [Ex.mk.sizeOf_spec]
      omega

end Go.Proofs.Ytbcjcekoonebiaa.Tl
