/- Definitions and walks: EvalAny. Conditions: none. -/
import Derived.Test.YtbcjcekoonebiaaTlXc
set_option linter.unusedVariables false
set_option linter.unusedSimpArgs false
namespace Go.Proofs.Ytbcjcekoonebiaa.Tl
open Go Go.RowKit



def s_f3 (n : Nat) (a0 : Ex) (a1 : Val) : Option Bool :=
  (bif (!true) then some false else ((s_f17 n a0).bind fun q2 => (bif (!q2) then some true else ((s_f18 n a1).bind fun q5 => (bif (!q5) then some true else ((s_f19 n a0).bind fun q8 => ((s_f22 n a1).bind fun q10 => ((s_f21 n q10).bind fun q12 => ((s_f20 n q8 q12).bind fun q14 => (bif (q14.2 != 0) then some true else ((evalS a0 a1).bind fun q17 => ((s_f22 n a1).bind fun q19 => ((s_f24 n q8 q19).bind fun q21 => (bif (q17.2 == q21.2) then ((s_f22 n q17.1).bind fun q24 => ((s_f25 n q24 q21.1).bind fun q26 => (bif q26 then (bif (q21.2 != 0) then some true else ((s_f22 n q17.1).bind fun q30 => ((s_f26 n q30 q14.1).bind fun q32 => some q32))) else some false))) else some false))))))))))))))

theorem w_f3 (n : Nat) (a0 : Ex) (a1 : Val) (r : Bool) (hr : s_f3 n a0 a1 = some r) : ACall Try.prog 3 [.agg (exC a0), .agg (valC a1)] (.bool r) := by
  refine ACall.go [(0, .agg (exC a0)), (1, .agg (valC a1))] Try.func3 rfl Try.ntmps3 rfl rfl (by simp [pureA, pureL, pureR, inA, inL, inR, inO, idsIn, encs_pure, enxs_pure, enys_pure, valC_pure, exC_pure, tyC_pure]) ?_
  rw [s_f3] at hr
  refine AW.seq ?_
  refine AW.region (M := fun _ => true) ?_
  refine AL.bx good (d := 2) (l := [.str a0.op, .int .i64 a0.v.kind, .int .i64 a0.v.i, .bool a0.v.b, .str a0.v.s, .sl .ro 5 (encs a0.v.t), .int .i64 a0.n, .sl .ro 8 (enxs a0.a)]) rfl rfl rfl rfl rfl rfl 0 rfl ?_
  refine AL.bx good (d := 3) (l := [.int .i64 a1.kind, .int .i64 a1.i, .bool a1.b, .str a1.s, .sl .ro 5 (encs a1.t)]) rfl rfl rfl rfl rfl rfl 1 rfl ?_
  refine AL.v good (d := 4) (v := .bool false) rfl rfl rfl rfl ?_
  refine AW.seq ?_
  refine AW.seq ?_
  refine AW.region (M := fun _ => true) ?_
  refine AL.cw good (d := 12) (xs := []) (res := .bool true) rfl rfl rfl rfl rfl rfl rfl (w16) trivial (by simp [pureA, pureL, pureR, inA, inL, inR, inO, idsIn, encs_pure, enxs_pure, enys_pure, valC_pure, exC_pure, tyC_pure]) ?_
  refine AL.v good (d := 13) (v := .bool (!true)) rfl rfl rfl rfl ?_
  refine AW.if rfl (fun h1 => ?_) (fun h1 => ?_)
  · replace hr := cnd_t h1 hr
    refine AW.seq ?_
    refine AW.region (M := fun _ => true) ?_
    refine AL.v good (d := 4) (v := .bool false) rfl rfl rfl rfl ?_
    refine AW.ret ?_
    obtain rfl := Option.some.inj hr
    exact RetQ.w good (.inr rfl) rfl rfl (Wv.refl _) (by simp [pureA, pureL, pureR, inA, inL, inR, inO, idsIn, encs_pure, enxs_pure, enys_pure, valC_pure, exC_pure, tyC_pure])
  · replace hr := cnd_f h1 hr
    refine AW.skip ?_
    refine AW.seq ?_
    refine AW.seq ?_
    refine AW.region (M := fun _ => true) ?_
    refine AL.v good (d := 14) (v := .agg [.str a0.op, .int .i64 a0.v.kind, .int .i64 a0.v.i, .bool a0.v.b, .str a0.v.s, .sl .ro 5 (encs a0.v.t), .int .i64 a0.n, .sl .ro 8 (enxs a0.a)]) rfl rfl rfl rfl ?_
    obtain ⟨q2, h3, hr⟩ := bnd1 hr
    refine AL.cw good (d := 15) (xs := [.agg (exC a0)]) (res := .bool q2) rfl rfl rfl rfl rfl rfl rfl (w_f17 _ _ _ h3) ⟨(Wv.refl _), trivial⟩ (by simp [pureA, pureL, pureR, inA, inL, inR, inO, idsIn, encs_pure, enxs_pure, enys_pure, valC_pure, exC_pure, tyC_pure]) ?_
    refine AL.v good (d := 16) (v := .bool (!q2)) rfl rfl rfl rfl ?_
    refine AL.v good (d := 17) (v := .bool (!q2)) rfl rfl rfl rfl ?_
    refine AL.cs 17 rfl (fun h4 => ?_) (fun h4 => ?_)
    · replace hr := cnd_t h4 hr
      refine AL.sk good (d := 18) rfl rfl rfl ?_
      refine AL.sk good (d := 19) rfl rfl rfl ?_
      refine AL.sk good (d := 20) rfl rfl rfl ?_
      refine AL.v good (d := 21) (v := .bool true) rfl rfl rfl rfl ?_
      refine AW.if rfl (fun h => ?_) (fun h => by cases h)
      refine AW.seq ?_
      refine AW.region (M := fun _ => true) ?_
      refine AL.v good (d := 4) (v := .bool true) rfl rfl rfl rfl ?_
      refine AW.ret ?_
      obtain rfl := Option.some.inj hr
      exact RetQ.w good (.inr rfl) rfl rfl (Wv.refl _) (by simp [pureA, pureL, pureR, inA, inL, inR, inO, idsIn, encs_pure, enxs_pure, enys_pure, valC_pure, exC_pure, tyC_pure])
    · replace hr := cnd_f h4 hr
      refine AL.v good (d := 18) (v := .agg [.int .i64 a1.kind, .int .i64 a1.i, .bool a1.b, .str a1.s, .sl .ro 5 (encs a1.t)]) rfl rfl rfl rfl ?_
      obtain ⟨q5, h6, hr⟩ := bnd1 hr
      refine AL.cw good (d := 19) (xs := [.agg (valC a1)]) (res := .bool q5) rfl rfl rfl rfl rfl rfl rfl (w_f18 _ _ _ h6) ⟨(Wv.refl _), trivial⟩ (by simp [pureA, pureL, pureR, inA, inL, inR, inO, idsIn, encs_pure, enxs_pure, enys_pure, valC_pure, exC_pure, tyC_pure]) ?_
      refine AL.v good (d := 20) (v := .bool (!q5)) rfl rfl rfl rfl ?_
      refine AL.v good (d := 21) (v := .bool (!q5)) rfl rfl rfl rfl ?_
      refine AW.if rfl (fun h7 => ?_) (fun h7 => ?_)
      · replace hr := cnd_t h7 hr
        refine AW.seq ?_
        refine AW.region (M := fun _ => true) ?_
        refine AL.v good (d := 4) (v := .bool true) rfl rfl rfl rfl ?_
        refine AW.ret ?_
        obtain rfl := Option.some.inj hr
        exact RetQ.w good (.inr rfl) rfl rfl (Wv.refl _) (by simp [pureA, pureL, pureR, inA, inL, inR, inO, idsIn, encs_pure, enxs_pure, enys_pure, valC_pure, exC_pure, tyC_pure])
      · replace hr := cnd_f h7 hr
        refine AW.skip ?_
        refine AW.seq ?_
        refine AW.region (M := fun _ => true) ?_
        refine AL.v good (d := 22) (v := .agg [.str a0.op, .int .i64 a0.v.kind, .int .i64 a0.v.i, .bool a0.v.b, .str a0.v.s, .sl .ro 5 (encs a0.v.t), .int .i64 a0.n, .sl .ro 8 (enxs a0.a)]) rfl rfl rfl rfl ?_
        obtain ⟨q8, h9, hr⟩ := bnd1 hr
        refine AL.cw good (d := 23) (xs := [.agg (exC a0)]) (res := .agg [.str q8.op, .int .i64 q8.v.kind, .int .i64 q8.v.i, .bool q8.v.b, .str q8.v.s, .sl .ro 5 (encs q8.v.t), .int .i64 q8.n, .sl .ro 8 (enxs q8.a)]) rfl rfl rfl rfl rfl rfl rfl (w_f19 _ _ _ h9) ⟨(Wv.refl _), trivial⟩ (by simp [pureA, pureL, pureR, inA, inL, inR, inO, idsIn, encs_pure, enxs_pure, enys_pure, valC_pure, exC_pure, tyC_pure]) ?_
        refine AL.alc good (d := 5) rfl rfl rfl rfl rfl 2 rfl ?_
        refine AL.st2 good (c2 := [.str q8.op, .int .i64 q8.v.kind, .int .i64 q8.v.i, .bool q8.v.b, .str q8.v.s, .sl .ro 5 (encs q8.v.t), .int .i64 q8.n, .sl .ro 8 (enxs q8.a)]) rfl rfl rfl rfl rfl rfl rfl rfl rfl rfl rfl rfl ?_
        refine AW.seq ?_
        refine AW.draw (M := fun i => Nat.beq i 9) good.wide (by kernel_rfl) ?_
        refine AL.v good (d := 25) (v := .agg [.str q8.op, .int .i64 q8.v.kind, .int .i64 q8.v.i, .bool q8.v.b, .str q8.v.s, .sl .ro 5 (encs q8.v.t), .int .i64 q8.n, .sl .ro 8 (enxs q8.a)]) rfl rfl rfl rfl ?_
        refine AL.v good (d := 26) (v := .agg [.int .i64 a1.kind, .int .i64 a1.i, .bool a1.b, .str a1.s, .sl .ro 5 (encs a1.t)]) rfl rfl rfl rfl ?_
        obtain ⟨q10, h11, hr⟩ := bnd1 hr
        refine AL.cw good (d := 27) (xs := [.agg (valC a1)]) (res := .agg [.int .i64 q10.kind, .int .i64 q10.i, .bool q10.b, .str q10.s, .sl .ro 5 (encs q10.t)]) rfl rfl rfl rfl rfl rfl rfl (w_f22 _ _ _ h11) ⟨(Wv.refl _), trivial⟩ (by simp [pureA, pureL, pureR, inA, inL, inR, inO, idsIn, encs_pure, enxs_pure, enys_pure, valC_pure, exC_pure, tyC_pure]) ?_
        obtain ⟨q12, h13, hr⟩ := bnd1 hr
        refine AL.cw good (d := 28) (xs := [.agg (valC q10)]) (res := .agg [.int .i64 q12.kind, .sl .ro 2 (enys q12.of)]) rfl rfl rfl rfl rfl rfl rfl (w_f21 _ _ _ h13) ⟨(Wv.refl _), trivial⟩ (by simp [pureA, pureL, pureR, inA, inL, inR, inO, idsIn, encs_pure, enxs_pure, enys_pure, valC_pure, exC_pure, tyC_pure]) ?_
        obtain ⟨q14, h15, hr⟩ := bnd1 hr
        refine AL.cw good (d := 29) (xs := [.agg (exC q8), .agg (tyC q12)]) (res := .tup [.agg [.int .i64 q14.1.kind, .sl .ro 2 (enys q14.1.of)], .int .i64 q14.2]) rfl rfl rfl rfl rfl rfl rfl (w_f20 _ _ _ _ h15) ⟨(Wv.refl _), (Wv.refl _), trivial⟩ (by simp [pureA, pureL, pureR, inA, inL, inR, inO, idsIn, encs_pure, enxs_pure, enys_pure, valC_pure, exC_pure, tyC_pure]) ?_
        refine AL.v good (d := 24) (v := .tup [.agg [.int .i64 q14.1.kind, .sl .ro 2 (enys q14.1.of)], .int .i64 q14.2]) rfl rfl rfl rfl ?_
        refine AL.v good (d := 30) (v := .agg [.int .i64 q14.1.kind, .sl .ro 2 (enys q14.1.of)]) rfl rfl rfl rfl ?_
        refine AL.v good (d := 31) (v := .int .i64 q14.2) rfl rfl rfl rfl ?_
        refine AL.alc good (d := 6) rfl rfl rfl rfl rfl 3 rfl ?_
        refine AL.st2 good (c2 := [.int .i64 q14.1.kind, .sl .ro 2 (enys q14.1.of)]) rfl rfl rfl rfl rfl rfl rfl rfl rfl rfl rfl rfl ?_
        refine AL.v good (d := 7) (v := .int .i64 q14.2) rfl rfl rfl rfl ?_
        refine AW.seq ?_
        refine AW.seq ?_
        refine AW.region (M := fun _ => true) ?_
        refine AL.v good (d := 32) (v := .int .i64 q14.2) rfl rfl rfl rfl ?_
        refine AL.v good (d := 33) (v := .bool (q14.2 != 0)) rfl rfl rfl rfl ?_
        refine AW.if rfl (fun h16 => ?_) (fun h16 => ?_)
        · replace hr := cnd_t h16 hr
          refine AW.seq ?_
          refine AW.region (M := fun _ => true) ?_
          refine AL.v good (d := 4) (v := .bool true) rfl rfl rfl rfl ?_
          refine AW.ret ?_
          obtain rfl := Option.some.inj hr
          exact RetQ.w good (.inr rfl) rfl rfl (Wv.refl _) (by simp [pureA, pureL, pureR, inA, inL, inR, inO, idsIn, encs_pure, enxs_pure, enys_pure, valC_pure, exC_pure, tyC_pure])
        · replace hr := cnd_f h16 hr
          refine AW.skip ?_
          refine AW.seq ?_
          refine AW.region (M := fun _ => true) ?_
          refine AL.v good (d := 35) (v := .agg [.str a0.op, .int .i64 a0.v.kind, .int .i64 a0.v.i, .bool a0.v.b, .str a0.v.s, .sl .ro 5 (encs a0.v.t), .int .i64 a0.n, .sl .ro 8 (enxs a0.a)]) rfl rfl rfl rfl ?_
          refine AL.v good (d := 36) (v := .agg [.int .i64 a1.kind, .int .i64 a1.i, .bool a1.b, .str a1.s, .sl .ro 5 (encs a1.t)]) rfl rfl rfl rfl ?_
          obtain ⟨q17, h18, hr⟩ := bnd1 hr
          refine AL.cw good (d := 37) (xs := [.agg (exC a0), .agg (valC a1)]) (res := .tup [.agg [.int .i64 q17.1.kind, .int .i64 q17.1.i, .bool q17.1.b, .str q17.1.s, .sl .ro 5 (encs q17.1.t)], .int .i64 q17.2]) rfl rfl rfl rfl rfl rfl rfl (w23 _ _ _ h18) ⟨(Wv.refl _), (Wv.refl _), trivial⟩ (by simp [pureA, pureL, pureR, inA, inL, inR, inO, idsIn, encs_pure, enxs_pure, enys_pure, valC_pure, exC_pure, tyC_pure]) ?_
          refine AL.v good (d := 34) (v := .tup [.agg [.int .i64 q17.1.kind, .int .i64 q17.1.i, .bool q17.1.b, .str q17.1.s, .sl .ro 5 (encs q17.1.t)], .int .i64 q17.2]) rfl rfl rfl rfl ?_
          refine AL.v good (d := 38) (v := .agg [.int .i64 q17.1.kind, .int .i64 q17.1.i, .bool q17.1.b, .str q17.1.s, .sl .ro 5 (encs q17.1.t)]) rfl rfl rfl rfl ?_
          refine AL.v good (d := 39) (v := .int .i64 q17.2) rfl rfl rfl rfl ?_
          refine AL.alc good (d := 8) rfl rfl rfl rfl rfl 4 rfl ?_
          refine AL.st2 good (c2 := [.int .i64 q17.1.kind, .int .i64 q17.1.i, .bool q17.1.b, .str q17.1.s, .sl .ro 5 (encs q17.1.t)]) rfl rfl rfl rfl rfl rfl rfl rfl rfl rfl rfl rfl ?_
          refine AL.v good (d := 9) (v := .int .i64 q17.2) rfl rfl rfl rfl ?_
          refine AW.seq ?_
          refine AW.draw (M := fun i => Nat.beq i 8) good.wide (by kernel_rfl) ?_
          refine AL.v good (d := 41) (v := .agg [.str q8.op, .int .i64 q8.v.kind, .int .i64 q8.v.i, .bool q8.v.b, .str q8.v.s, .sl .ro 5 (encs q8.v.t), .int .i64 q8.n, .sl .ro 8 (enxs q8.a)]) rfl rfl rfl rfl ?_
          refine AL.v good (d := 42) (v := .agg [.int .i64 a1.kind, .int .i64 a1.i, .bool a1.b, .str a1.s, .sl .ro 5 (encs a1.t)]) rfl rfl rfl rfl ?_
          obtain ⟨q19, h20, hr⟩ := bnd1 hr
          refine AL.cw good (d := 43) (xs := [.agg (valC a1)]) (res := .agg [.int .i64 q19.kind, .int .i64 q19.i, .bool q19.b, .str q19.s, .sl .ro 5 (encs q19.t)]) rfl rfl rfl rfl rfl rfl rfl (w_f22 _ _ _ h20) ⟨(Wv.refl _), trivial⟩ (by simp [pureA, pureL, pureR, inA, inL, inR, inO, idsIn, encs_pure, enxs_pure, enys_pure, valC_pure, exC_pure, tyC_pure]) ?_
          obtain ⟨q21, h22, hr⟩ := bnd1 hr
          refine AL.cw good (d := 44) (xs := [.agg (exC q8), .agg (valC q19)]) (res := .tup [.agg [.int .i64 q21.1.kind, .int .i64 q21.1.i, .bool q21.1.b, .str q21.1.s, .sl .ro 5 (encs q21.1.t)], .int .i64 q21.2]) rfl rfl rfl rfl rfl rfl rfl (w_f24 _ _ _ _ h22) ⟨(Wv.refl _), (Wv.refl _), trivial⟩ (by simp [pureA, pureL, pureR, inA, inL, inR, inO, idsIn, encs_pure, enxs_pure, enys_pure, valC_pure, exC_pure, tyC_pure]) ?_
          refine AL.v good (d := 40) (v := .tup [.agg [.int .i64 q21.1.kind, .int .i64 q21.1.i, .bool q21.1.b, .str q21.1.s, .sl .ro 5 (encs q21.1.t)], .int .i64 q21.2]) rfl rfl rfl rfl ?_
          refine AL.v good (d := 45) (v := .agg [.int .i64 q21.1.kind, .int .i64 q21.1.i, .bool q21.1.b, .str q21.1.s, .sl .ro 5 (encs q21.1.t)]) rfl rfl rfl rfl ?_
          refine AL.v good (d := 46) (v := .int .i64 q21.2) rfl rfl rfl rfl ?_
          refine AL.alc good (d := 10) rfl rfl rfl rfl rfl 5 rfl ?_
          refine AL.st2 good (c2 := [.int .i64 q21.1.kind, .int .i64 q21.1.i, .bool q21.1.b, .str q21.1.s, .sl .ro 5 (encs q21.1.t)]) rfl rfl rfl rfl rfl rfl rfl rfl rfl rfl rfl rfl ?_
          refine AL.v good (d := 11) (v := .int .i64 q21.2) rfl rfl rfl rfl ?_
          refine AW.seq ?_
          refine AW.draw (M := fun i => false) good.wide (by kernel_rfl) ?_
          refine AL.v good (d := 47) (v := .int .i64 q17.2) rfl rfl rfl rfl ?_
          refine AL.v good (d := 48) (v := .int .i64 q21.2) rfl rfl rfl rfl ?_
          refine AL.v good (d := 49) (v := .bool (q17.2 == q21.2)) rfl rfl rfl rfl ?_
          refine AL.v good (d := 50) (v := .bool (q17.2 == q21.2)) rfl rfl rfl rfl ?_
          refine AL.cs 50 rfl (fun h23 => ?_) (fun h23 => ?_)
          · replace hr := cnd_t h23 hr
            refine AL.v good (d := 51) (v := .agg [.int .i64 q17.1.kind, .int .i64 q17.1.i, .bool q17.1.b, .str q17.1.s, .sl .ro 5 (encs q17.1.t)]) rfl rfl rfl rfl ?_
            obtain ⟨q24, h25, hr⟩ := bnd1 hr
            refine AL.cw good (d := 52) (xs := [.agg (valC q17.1)]) (res := .agg [.int .i64 q24.kind, .int .i64 q24.i, .bool q24.b, .str q24.s, .sl .ro 5 (encs q24.t)]) rfl rfl rfl rfl rfl rfl rfl (w_f22 _ _ _ h25) ⟨(Wv.refl _), trivial⟩ (by simp [pureA, pureL, pureR, inA, inL, inR, inO, idsIn, encs_pure, enxs_pure, enys_pure, valC_pure, exC_pure, tyC_pure]) ?_
            refine AL.v good (d := 53) (v := .agg [.int .i64 q21.1.kind, .int .i64 q21.1.i, .bool q21.1.b, .str q21.1.s, .sl .ro 5 (encs q21.1.t)]) rfl rfl rfl rfl ?_
            obtain ⟨q26, h27, hr⟩ := bnd1 hr
            refine AL.cw good (d := 54) (xs := [.agg (valC q24), .agg (valC q21.1)]) (res := .bool q26) rfl rfl rfl rfl rfl rfl rfl (w_f25 _ _ _ _ h27) ⟨(Wv.refl _), (Wv.refl _), trivial⟩ (by simp [pureA, pureL, pureR, inA, inL, inR, inO, idsIn, encs_pure, enxs_pure, enys_pure, valC_pure, exC_pure, tyC_pure]) ?_
            refine AL.v good (d := 55) (v := .bool q26) rfl rfl rfl rfl ?_
            refine AL.v good (d := 56) (v := .bool q26) rfl rfl rfl rfl ?_
            refine AL.cs 56 rfl (fun h28 => ?_) (fun h28 => ?_)
            · replace hr := cnd_t h28 hr
              refine AL.v good (d := 57) (v := .int .i64 q21.2) rfl rfl rfl rfl ?_
              refine AL.v good (d := 58) (v := .bool (q21.2 != 0)) rfl rfl rfl rfl ?_
              refine AL.v good (d := 59) (v := .bool (q21.2 != 0)) rfl rfl rfl rfl ?_
              refine AL.cs 59 rfl (fun h29 => ?_) (fun h29 => ?_)
              · replace hr := cnd_t h29 hr
                refine AL.sk good (d := 60) rfl rfl rfl ?_
                refine AL.sk good (d := 61) rfl rfl rfl ?_
                refine AL.sk good (d := 62) rfl rfl rfl ?_
                refine AL.sk good (d := 63) rfl rfl rfl ?_
                refine AL.v good (d := 64) (v := .bool true) rfl rfl rfl rfl ?_
                refine AL.v good (d := 65) (v := .bool true) rfl rfl rfl rfl ?_
                refine AL.v good (d := 4) (v := .bool true) rfl rfl rfl rfl ?_
                refine AW.ret ?_
                obtain rfl := Option.some.inj hr
                exact RetQ.w good (.inr rfl) rfl rfl (Wv.refl _) (by simp [pureA, pureL, pureR, inA, inL, inR, inO, idsIn, encs_pure, enxs_pure, enys_pure, valC_pure, exC_pure, tyC_pure])
              · replace hr := cnd_f h29 hr
                refine AL.v good (d := 60) (v := .agg [.int .i64 q17.1.kind, .int .i64 q17.1.i, .bool q17.1.b, .str q17.1.s, .sl .ro 5 (encs q17.1.t)]) rfl rfl rfl rfl ?_
                obtain ⟨q30, h31, hr⟩ := bnd1 hr
                refine AL.cw good (d := 61) (xs := [.agg (valC q17.1)]) (res := .agg [.int .i64 q30.kind, .int .i64 q30.i, .bool q30.b, .str q30.s, .sl .ro 5 (encs q30.t)]) rfl rfl rfl rfl rfl rfl rfl (w_f22 _ _ _ h31) ⟨(Wv.refl _), trivial⟩ (by simp [pureA, pureL, pureR, inA, inL, inR, inO, idsIn, encs_pure, enxs_pure, enys_pure, valC_pure, exC_pure, tyC_pure]) ?_
                refine AL.v good (d := 62) (v := .agg [.int .i64 q14.1.kind, .sl .ro 2 (enys q14.1.of)]) rfl rfl rfl rfl ?_
                obtain ⟨q32, h33, hr⟩ := bnd1 hr
                refine AL.cw good (d := 63) (xs := [.agg (valC q30), .agg (tyC q14.1)]) (res := .bool q32) rfl rfl rfl rfl rfl rfl rfl (w_f26 _ _ _ _ h33) ⟨(Wv.refl _), (Wv.refl _), trivial⟩ (by simp [pureA, pureL, pureR, inA, inL, inR, inO, idsIn, encs_pure, enxs_pure, enys_pure, valC_pure, exC_pure, tyC_pure]) ?_
                refine AL.v good (d := 64) (v := .bool q32) rfl rfl rfl rfl ?_
                refine AL.v good (d := 65) (v := .bool q32) rfl rfl rfl rfl ?_
                refine AL.v good (d := 4) (v := .bool q32) rfl rfl rfl rfl ?_
                refine AW.ret ?_
                obtain rfl := Option.some.inj hr
                exact RetQ.w good (.inr rfl) rfl rfl (Wv.refl _) (by simp [pureA, pureL, pureR, inA, inL, inR, inO, idsIn, encs_pure, enxs_pure, enys_pure, valC_pure, exC_pure, tyC_pure])
            · replace hr := cnd_f h28 hr
              refine AL.sk good (d := 57) rfl rfl rfl ?_
              refine AL.sk good (d := 58) rfl rfl rfl ?_
              refine AL.sk good (d := 59) rfl rfl rfl ?_
              refine AL.sk good (d := 60) rfl rfl rfl ?_
              refine AL.sk good (d := 61) rfl rfl rfl ?_
              refine AL.sk good (d := 62) rfl rfl rfl ?_
              refine AL.sk good (d := 63) rfl rfl rfl ?_
              refine AL.sk good (d := 64) rfl rfl rfl ?_
              refine AL.v good (d := 65) (v := .bool false) rfl rfl rfl rfl ?_
              refine AL.v good (d := 4) (v := .bool false) rfl rfl rfl rfl ?_
              refine AW.ret ?_
              obtain rfl := Option.some.inj hr
              exact RetQ.w good (.inr rfl) rfl rfl (Wv.refl _) (by simp [pureA, pureL, pureR, inA, inL, inR, inO, idsIn, encs_pure, enxs_pure, enys_pure, valC_pure, exC_pure, tyC_pure])
          · replace hr := cnd_f h23 hr
            refine AL.sk good (d := 51) rfl rfl rfl ?_
            refine AL.sk good (d := 52) rfl rfl rfl ?_
            refine AL.sk good (d := 53) rfl rfl rfl ?_
            refine AL.sk good (d := 54) rfl rfl rfl ?_
            refine AL.v good (d := 55) (v := .bool false) rfl rfl rfl rfl ?_
            refine AL.v good (d := 56) (v := .bool false) rfl rfl rfl rfl ?_
            refine AL.sk good (d := 57) rfl rfl rfl ?_
            refine AL.sk good (d := 58) rfl rfl rfl ?_
            refine AL.sk good (d := 59) rfl rfl rfl ?_
            refine AL.sk good (d := 60) rfl rfl rfl ?_
            refine AL.sk good (d := 61) rfl rfl rfl ?_
            refine AL.sk good (d := 62) rfl rfl rfl ?_
            refine AL.sk good (d := 63) rfl rfl rfl ?_
            refine AL.sk good (d := 64) rfl rfl rfl ?_
            refine AL.v good (d := 65) (v := .bool false) rfl rfl rfl rfl ?_
            refine AL.v good (d := 4) (v := .bool false) rfl rfl rfl rfl ?_
            refine AW.ret ?_
            obtain rfl := Option.some.inj hr
            exact RetQ.w good (.inr rfl) rfl rfl (Wv.refl _) (by simp [pureA, pureL, pureR, inA, inL, inR, inO, idsIn, encs_pure, enxs_pure, enys_pure, valC_pure, exC_pure, tyC_pure])

end Go.Proofs.Ytbcjcekoonebiaa.Tl
