/- Definitions and walks: EvalNums, EvalTexts. Conditions: none. -/
import Derived.Test.YtbcjcekoonebiaaTlXt
set_option linter.unusedVariables false
set_option linter.unusedSimpArgs false
namespace Go.Proofs.Ytbcjcekoonebiaa.Tl
open Go Go.RowKit



def s_f4 (n : Nat) (a0 : Int) (a1 : Int) : Option Bool :=
  (bif (!true) then some false else ((tupS [(Val.mk 1 a0 false ⟨#[]⟩ []), (Val.mk 1 a1 false ⟨#[]⟩ [])]).bind fun q2 => ((evalS (Ex.mk ⟨#[97, 100, 100]⟩ (Val.mk 0 0 false ⟨#[]⟩ []) 0 [(Ex.mk ⟨#[97, 116]⟩ (Val.mk 0 0 false ⟨#[]⟩ []) 0 [(Ex.mk ⟨#[120]⟩ (Val.mk 0 0 false ⟨#[]⟩ []) 0 [])]), (Ex.mk ⟨#[97, 116]⟩ (Val.mk 0 0 false ⟨#[]⟩ []) 1 [(Ex.mk ⟨#[120]⟩ (Val.mk 0 0 false ⟨#[]⟩ []) 0 [])])]) q2).bind fun q4 => ((evalS (Ex.mk ⟨#[115, 117, 98]⟩ (Val.mk 0 0 false ⟨#[]⟩ []) 0 [(Ex.mk ⟨#[97, 116]⟩ (Val.mk 0 0 false ⟨#[]⟩ []) 0 [(Ex.mk ⟨#[120]⟩ (Val.mk 0 0 false ⟨#[]⟩ []) 0 [])]), (Ex.mk ⟨#[97, 116]⟩ (Val.mk 0 0 false ⟨#[]⟩ []) 1 [(Ex.mk ⟨#[120]⟩ (Val.mk 0 0 false ⟨#[]⟩ []) 0 [])])]) q2).bind fun q6 => ((evalS (Ex.mk ⟨#[109, 117, 108]⟩ (Val.mk 0 0 false ⟨#[]⟩ []) 0 [(Ex.mk ⟨#[97, 116]⟩ (Val.mk 0 0 false ⟨#[]⟩ []) 0 [(Ex.mk ⟨#[120]⟩ (Val.mk 0 0 false ⟨#[]⟩ []) 0 [])]), (Ex.mk ⟨#[97, 116]⟩ (Val.mk 0 0 false ⟨#[]⟩ []) 1 [(Ex.mk ⟨#[120]⟩ (Val.mk 0 0 false ⟨#[]⟩ []) 0 [])])]) q2).bind fun q8 => ((evalS (Ex.mk ⟨#[110, 101, 103]⟩ (Val.mk 0 0 false ⟨#[]⟩ []) 0 [(Ex.mk ⟨#[97, 116]⟩ (Val.mk 0 0 false ⟨#[]⟩ []) 0 [(Ex.mk ⟨#[120]⟩ (Val.mk 0 0 false ⟨#[]⟩ []) 0 [])])]) q2).bind fun q10 => ((evalS (Ex.mk ⟨#[100, 105, 118]⟩ (Val.mk 0 0 false ⟨#[]⟩ []) 0 [(Ex.mk ⟨#[97, 116]⟩ (Val.mk 0 0 false ⟨#[]⟩ []) 0 [(Ex.mk ⟨#[120]⟩ (Val.mk 0 0 false ⟨#[]⟩ []) 0 [])]), (Ex.mk ⟨#[97, 116]⟩ (Val.mk 0 0 false ⟨#[]⟩ []) 1 [(Ex.mk ⟨#[120]⟩ (Val.mk 0 0 false ⟨#[]⟩ []) 0 [])])]) q2).bind fun q12 => ((evalS (Ex.mk ⟨#[114, 101, 109]⟩ (Val.mk 0 0 false ⟨#[]⟩ []) 0 [(Ex.mk ⟨#[97, 116]⟩ (Val.mk 0 0 false ⟨#[]⟩ []) 0 [(Ex.mk ⟨#[120]⟩ (Val.mk 0 0 false ⟨#[]⟩ []) 0 [])]), (Ex.mk ⟨#[97, 116]⟩ (Val.mk 0 0 false ⟨#[]⟩ []) 1 [(Ex.mk ⟨#[120]⟩ (Val.mk 0 0 false ⟨#[]⟩ []) 0 [])])]) q2).bind fun q14 => ((evalS (Ex.mk ⟨#[108, 116]⟩ (Val.mk 0 0 false ⟨#[]⟩ []) 0 [(Ex.mk ⟨#[97, 116]⟩ (Val.mk 0 0 false ⟨#[]⟩ []) 0 [(Ex.mk ⟨#[120]⟩ (Val.mk 0 0 false ⟨#[]⟩ []) 0 [])]), (Ex.mk ⟨#[97, 116]⟩ (Val.mk 0 0 false ⟨#[]⟩ []) 1 [(Ex.mk ⟨#[120]⟩ (Val.mk 0 0 false ⟨#[]⟩ []) 0 [])])]) q2).bind fun q16 => (bif (((((((IntKind.i64.wrap ((IntKind.i64.wrap ((IntKind.i64.wrap ((IntKind.i64.wrap (q4.2 + q6.2)) + q8.2)) + q10.2)) + q16.2)) != 0) || (q4.1.i != (IntKind.i64.wrap (a0 + a1)))) || (q6.1.i != (IntKind.i64.wrap (a0 - a1)))) || (q8.1.i != (IntKind.i64.wrap (a0 * a1)))) || (q10.1.i != (IntKind.i64.wrap (0 - a0)))) || (q16.1.b != (decide (a0 < a1)))) then some false else (bif (a1 == 0) then some ((q12.2 == 8) && (q14.2 == 8)) else some ((((IntKind.i64.wrap (q12.2 + q14.2)) == 0) && ((IntKind.i64.wrap ((IntKind.i64.wrap (q12.1.i * a1)) + q14.1.i)) == a0)) && ((q14.1.i == 0) || ((decide (q14.1.i < 0)) == (decide (a0 < 0))))))))))))))))

theorem w_f4 (n : Nat) (a0 : Int) (a1 : Int) (r : Bool) (hr : s_f4 n a0 a1 = some r) : ACall Try.prog 4 [.int .i64 a0, .int .i64 a1] (.bool r) := by
  refine ACall.go [(0, .int .i64 a0), (1, .int .i64 a1)] Try.func4 rfl Try.ntmps4 rfl rfl (by simp [pureA, pureL, pureR, inA, inL, inR, inO, idsIn, encs_pure, enxs_pure, enys_pure, valC_pure, exC_pure, tyC_pure]) ?_
  rw [s_f4] at hr
  refine AW.seq ?_
  refine AW.region (M := fun _ => true) ?_
  refine AL.v good (d := 4) (v := .bool false) rfl rfl rfl rfl ?_
  refine AW.seq ?_
  refine AW.seq ?_
  refine AW.region (M := fun _ => true) ?_
  refine AL.cw good (d := 22) (xs := []) (res := .bool true) rfl rfl rfl rfl rfl rfl rfl (w16) trivial (by simp [pureA, pureL, pureR, inA, inL, inR, inO, idsIn, encs_pure, enxs_pure, enys_pure, valC_pure, exC_pure, tyC_pure]) ?_
  refine AL.v good (d := 23) (v := .bool (!true)) rfl rfl rfl rfl ?_
  refine AW.if rfl (fun h1 => ?_) (fun h1 => ?_)
  · replace hr := cnd_t h1 hr
    refine AW.seq ?_
    refine AW.region (M := fun _ => true) ?_
    refine AL.v good (d := 4) (v := .bool false) rfl rfl rfl rfl ?_
    refine AW.ret ?_
    obtain rfl := Option.some.inj hr
    exact RetQ.w good (.inr rfl) rfl rfl (Wv.refl _) (by simp [pureA, pureL, pureR, inA, inL, inR, inO, idsIn, encs_pure, enxs_pure, enys_pure, valC_pure, exC_pure, tyC_pure])
  · replace hr := cnd_f h1 hr
    refine AW.skip ?_
    refine AW.seq ?_
    refine AW.region (M := fun _ => true) ?_
    refine AL.v good (d := 24) (v := .int .i64 a0) rfl rfl rfl rfl ?_
    refine AL.cw good (d := 25) (xs := [.int .i64 a0]) (res := .agg [.int .i64 1, .int .i64 a0, .bool false, .str ⟨#[]⟩, .sl .ro 5 (encs [])]) rfl rfl rfl rfl rfl rfl rfl (w_f28 a0) ⟨(Wv.refl _), trivial⟩ (by simp [pureA, pureL, pureR, inA, inL, inR, inO, idsIn, encs_pure, enxs_pure, enys_pure, valC_pure, exC_pure, tyC_pure]) ?_
    refine AL.v good (d := 26) (v := .int .i64 a1) rfl rfl rfl rfl ?_
    refine AL.cw good (d := 27) (xs := [.int .i64 a1]) (res := .agg [.int .i64 1, .int .i64 a1, .bool false, .str ⟨#[]⟩, .sl .ro 5 (encs [])]) rfl rfl rfl rfl rfl rfl rfl (w_f28 a1) ⟨(Wv.refl _), trivial⟩ (by simp [pureA, pureL, pureR, inA, inL, inR, inO, idsIn, encs_pure, enxs_pure, enys_pure, valC_pure, exC_pure, tyC_pure]) ?_
    refine AL.lit good (d := 28) (rows := [[.int .i64 1, .int .i64 a0, .bool false, .str ⟨#[]⟩, .sl .ro 5 (encs [])], [.int .i64 1, .int .i64 a1, .bool false, .str ⟨#[]⟩, .sl .ro 5 (encs [])]]) rfl rfl rfl rfl rfl rfl rfl rfl rfl 0 rfl ?_
    obtain ⟨q2, h3, hr⟩ := bnd1 hr
    refine AL.cw good (d := 29) (xs := [.sl .ro 5 (encs [(Val.mk 1 a0 false ⟨#[]⟩ []), (Val.mk 1 a1 false ⟨#[]⟩ [])])]) (res := .agg [.int .i64 q2.kind, .int .i64 q2.i, .bool q2.b, .str q2.s, .sl .ro 5 (encs q2.t)]) rfl rfl rfl rfl rfl rfl rfl (w_tup h3) ⟨⟨.inr rfl, (WvR_encs ⟨⟨Wv.refl _, Wv.refl _, Wv.refl _, Wv.refl _, Wv.refl _, trivial⟩, ⟨Wv.refl _, Wv.refl _, Wv.refl _, Wv.refl _, Wv.refl _, trivial⟩, trivial⟩), .inl rfl⟩, trivial⟩ (by simp [pureA, pureL, pureR, inA, inL, inR, inO, idsIn, encs_pure, enxs_pure, enys_pure, valC_pure, exC_pure, tyC_pure]) ?_
    refine AL.alc good (d := 5) rfl rfl rfl rfl rfl 1 rfl ?_
    refine AL.st2 good (c2 := [.int .i64 q2.kind, .int .i64 q2.i, .bool q2.b, .str q2.s, .sl .ro 5 (encs q2.t)]) rfl rfl rfl rfl rfl rfl rfl rfl rfl rfl rfl rfl ?_
    refine AW.seq ?_
    refine AW.region (M := fun _ => true) ?_
    refine AL.cw good (d := 30) (xs := []) (res := .agg [.str ⟨#[120]⟩, .int .i64 0, .int .i64 0, .bool false, .str ⟨#[]⟩, .sl .ro 5 (encs []), .int .i64 0, .sl .ro 8 (enxs [])]) rfl rfl rfl rfl rfl rfl rfl (w_f29) trivial (by simp [pureA, pureL, pureR, inA, inL, inR, inO, idsIn, encs_pure, enxs_pure, enys_pure, valC_pure, exC_pure, tyC_pure]) ?_
    refine AL.lit good (d := 31) (rows := [[.str ⟨#[120]⟩, .int .i64 0, .int .i64 0, .bool false, .str ⟨#[]⟩, .sl .ro 5 (encs []), .int .i64 0, .sl .ro 8 (enxs [])]]) rfl rfl rfl rfl rfl rfl rfl rfl rfl 2 rfl ?_
    refine AL.bld good (d := 32) (l := [.str ⟨#[97, 116]⟩, .int .i64 0, .int .i64 0, .bool false, .str ⟨#[]⟩, .sl .nil 0 [], .int .i64 0, .sl (.own 2) 8 [[.str ⟨#[120]⟩, .int .i64 0, .int .i64 0, .bool false, .str ⟨#[]⟩, .sl .ro 5 (encs []), .int .i64 0, .sl .ro 8 (enxs [])]]]) rfl rfl rfl rfl rfl rfl rfl ?_
    refine AL.alc good (d := 6) rfl rfl rfl rfl rfl 3 rfl ?_
    refine AL.st2 good (c2 := [.str ⟨#[97, 116]⟩, .int .i64 0, .int .i64 0, .bool false, .str ⟨#[]⟩, .sl .nil 0 [], .int .i64 0, .sl (.own 2) 8 [[.str ⟨#[120]⟩, .int .i64 0, .int .i64 0, .bool false, .str ⟨#[]⟩, .sl .ro 5 (encs []), .int .i64 0, .sl .ro 8 (enxs [])]]]) rfl rfl rfl rfl rfl rfl rfl rfl rfl rfl rfl rfl ?_
    refine AW.seq ?_
    refine AW.region (M := fun _ => true) ?_
    refine AL.cw good (d := 33) (xs := []) (res := .agg [.str ⟨#[120]⟩, .int .i64 0, .int .i64 0, .bool false, .str ⟨#[]⟩, .sl .ro 5 (encs []), .int .i64 0, .sl .ro 8 (enxs [])]) rfl rfl rfl rfl rfl rfl rfl (w_f29) trivial (by simp [pureA, pureL, pureR, inA, inL, inR, inO, idsIn, encs_pure, enxs_pure, enys_pure, valC_pure, exC_pure, tyC_pure]) ?_
    refine AL.lit good (d := 34) (rows := [[.str ⟨#[120]⟩, .int .i64 0, .int .i64 0, .bool false, .str ⟨#[]⟩, .sl .ro 5 (encs []), .int .i64 0, .sl .ro 8 (enxs [])]]) rfl rfl rfl rfl rfl rfl rfl rfl rfl 4 rfl ?_
    refine AL.bld good (d := 35) (l := [.str ⟨#[97, 116]⟩, .int .i64 0, .int .i64 0, .bool false, .str ⟨#[]⟩, .sl .nil 0 [], .int .i64 1, .sl (.own 4) 8 [[.str ⟨#[120]⟩, .int .i64 0, .int .i64 0, .bool false, .str ⟨#[]⟩, .sl .ro 5 (encs []), .int .i64 0, .sl .ro 8 (enxs [])]]]) rfl rfl rfl rfl rfl rfl rfl ?_
    refine AL.alc good (d := 7) rfl rfl rfl rfl rfl 5 rfl ?_
    refine AL.st2 good (c2 := [.str ⟨#[97, 116]⟩, .int .i64 0, .int .i64 0, .bool false, .str ⟨#[]⟩, .sl .nil 0 [], .int .i64 1, .sl (.own 4) 8 [[.str ⟨#[120]⟩, .int .i64 0, .int .i64 0, .bool false, .str ⟨#[]⟩, .sl .ro 5 (encs []), .int .i64 0, .sl .ro 8 (enxs [])]]]) rfl rfl rfl rfl rfl rfl rfl rfl rfl rfl rfl rfl ?_
    refine AW.seq ?_
    refine AW.draw (M := fun i => Nat.beq i 10) good.wide (by kernel_rfl) ?_
    refine AL.v good (d := 37) (v := .agg [.str ⟨#[97, 116]⟩, .int .i64 0, .int .i64 0, .bool false, .str ⟨#[]⟩, .sl .nil 0 [], .int .i64 0, .sl (.own 2) 8 [[.str ⟨#[120]⟩, .int .i64 0, .int .i64 0, .bool false, .str ⟨#[]⟩, .sl .ro 5 (encs []), .int .i64 0, .sl .ro 8 (enxs [])]]]) rfl rfl rfl rfl ?_
    refine AL.v good (d := 38) (v := .agg [.str ⟨#[97, 116]⟩, .int .i64 0, .int .i64 0, .bool false, .str ⟨#[]⟩, .sl .nil 0 [], .int .i64 1, .sl (.own 4) 8 [[.str ⟨#[120]⟩, .int .i64 0, .int .i64 0, .bool false, .str ⟨#[]⟩, .sl .ro 5 (encs []), .int .i64 0, .sl .ro 8 (enxs [])]]]) rfl rfl rfl rfl ?_
    refine AL.lit good (d := 39) (rows := [[.str ⟨#[97, 116]⟩, .int .i64 0, .int .i64 0, .bool false, .str ⟨#[]⟩, .sl .nil 0 [], .int .i64 0, .sl (.own 2) 8 [[.str ⟨#[120]⟩, .int .i64 0, .int .i64 0, .bool false, .str ⟨#[]⟩, .sl .ro 5 (encs []), .int .i64 0, .sl .ro 8 (enxs [])]]], [.str ⟨#[97, 116]⟩, .int .i64 0, .int .i64 0, .bool false, .str ⟨#[]⟩, .sl .nil 0 [], .int .i64 1, .sl (.own 4) 8 [[.str ⟨#[120]⟩, .int .i64 0, .int .i64 0, .bool false, .str ⟨#[]⟩, .sl .ro 5 (encs []), .int .i64 0, .sl .ro 8 (enxs [])]]]]) rfl rfl rfl rfl rfl rfl rfl rfl rfl 6 rfl ?_
    refine AL.cw good (d := 40) (xs := [.str ⟨#[97, 100, 100]⟩, .sl .ro 8 (enxs [(Ex.mk ⟨#[97, 116]⟩ (Val.mk 0 0 false ⟨#[]⟩ []) 0 [(Ex.mk ⟨#[120]⟩ (Val.mk 0 0 false ⟨#[]⟩ []) 0 [])]), (Ex.mk ⟨#[97, 116]⟩ (Val.mk 0 0 false ⟨#[]⟩ []) 1 [(Ex.mk ⟨#[120]⟩ (Val.mk 0 0 false ⟨#[]⟩ []) 0 [])])])]) (res := .agg [.str ⟨#[97, 100, 100]⟩, .int .i64 0, .int .i64 0, .bool false, .str ⟨#[]⟩, .sl .ro 5 (encs []), .int .i64 0, .sl .ro 8 (enxs [(Ex.mk ⟨#[97, 116]⟩ (Val.mk 0 0 false ⟨#[]⟩ []) 0 [(Ex.mk ⟨#[120]⟩ (Val.mk 0 0 false ⟨#[]⟩ []) 0 [])]), (Ex.mk ⟨#[97, 116]⟩ (Val.mk 0 0 false ⟨#[]⟩ []) 1 [(Ex.mk ⟨#[120]⟩ (Val.mk 0 0 false ⟨#[]⟩ []) 0 [])])])]) rfl rfl rfl rfl rfl rfl rfl (w_f30 ⟨#[97, 100, 100]⟩ [(Ex.mk ⟨#[97, 116]⟩ (Val.mk 0 0 false ⟨#[]⟩ []) 0 [(Ex.mk ⟨#[120]⟩ (Val.mk 0 0 false ⟨#[]⟩ []) 0 [])]), (Ex.mk ⟨#[97, 116]⟩ (Val.mk 0 0 false ⟨#[]⟩ []) 1 [(Ex.mk ⟨#[120]⟩ (Val.mk 0 0 false ⟨#[]⟩ []) 0 [])])]) ⟨(Wv.refl _), ⟨.inr rfl, (WvR_enxs ⟨⟨Wv.refl _, Wv.refl _, Wv.refl _, Wv.refl _, Wv.refl _, ⟨.inr rfl, trivial, .inr rfl⟩, Wv.refl _, ⟨.inr rfl, (WvR_enxs ⟨⟨Wv.refl _, Wv.refl _, Wv.refl _, Wv.refl _, Wv.refl _, Wv.refl _, Wv.refl _, Wv.refl _, trivial⟩, trivial⟩), .inl rfl⟩, trivial⟩, ⟨Wv.refl _, Wv.refl _, Wv.refl _, Wv.refl _, Wv.refl _, ⟨.inr rfl, trivial, .inr rfl⟩, Wv.refl _, ⟨.inr rfl, (WvR_enxs ⟨⟨Wv.refl _, Wv.refl _, Wv.refl _, Wv.refl _, Wv.refl _, Wv.refl _, Wv.refl _, Wv.refl _, trivial⟩, trivial⟩), .inl rfl⟩, trivial⟩, trivial⟩), .inl rfl⟩, trivial⟩ (by simp [pureA, pureL, pureR, inA, inL, inR, inO, idsIn, encs_pure, enxs_pure, enys_pure, valC_pure, exC_pure, tyC_pure]) ?_
    refine AL.v good (d := 41) (v := .agg [.int .i64 q2.kind, .int .i64 q2.i, .bool q2.b, .str q2.s, .sl .ro 5 (encs q2.t)]) rfl rfl rfl rfl ?_
    obtain ⟨q4, h5, hr⟩ := bnd1 hr
    refine AL.cw good (d := 42) (xs := [.agg (exC (Ex.mk ⟨#[97, 100, 100]⟩ (Val.mk 0 0 false ⟨#[]⟩ []) 0 [(Ex.mk ⟨#[97, 116]⟩ (Val.mk 0 0 false ⟨#[]⟩ []) 0 [(Ex.mk ⟨#[120]⟩ (Val.mk 0 0 false ⟨#[]⟩ []) 0 [])]), (Ex.mk ⟨#[97, 116]⟩ (Val.mk 0 0 false ⟨#[]⟩ []) 1 [(Ex.mk ⟨#[120]⟩ (Val.mk 0 0 false ⟨#[]⟩ []) 0 [])])])), .agg (valC q2)]) (res := .tup [.agg [.int .i64 q4.1.kind, .int .i64 q4.1.i, .bool q4.1.b, .str q4.1.s, .sl .ro 5 (encs q4.1.t)], .int .i64 q4.2]) rfl rfl rfl rfl rfl rfl rfl (w23 _ _ _ h5) ⟨(Wv.refl _), (Wv.refl _), trivial⟩ (by simp [pureA, pureL, pureR, inA, inL, inR, inO, idsIn, encs_pure, enxs_pure, enys_pure, valC_pure, exC_pure, tyC_pure]) ?_
    refine AL.v good (d := 36) (v := .tup [.agg [.int .i64 q4.1.kind, .int .i64 q4.1.i, .bool q4.1.b, .str q4.1.s, .sl .ro 5 (encs q4.1.t)], .int .i64 q4.2]) rfl rfl rfl rfl ?_
    refine AL.v good (d := 43) (v := .agg [.int .i64 q4.1.kind, .int .i64 q4.1.i, .bool q4.1.b, .str q4.1.s, .sl .ro 5 (encs q4.1.t)]) rfl rfl rfl rfl ?_
    refine AL.v good (d := 44) (v := .int .i64 q4.2) rfl rfl rfl rfl ?_
    refine AL.alc good (d := 8) rfl rfl rfl rfl rfl 7 rfl ?_
    refine AL.st2 good (c2 := [.int .i64 q4.1.kind, .int .i64 q4.1.i, .bool q4.1.b, .str q4.1.s, .sl .ro 5 (encs q4.1.t)]) rfl rfl rfl rfl rfl rfl rfl rfl rfl rfl rfl rfl ?_
    refine AL.v good (d := 9) (v := .int .i64 q4.2) rfl rfl rfl rfl ?_
    refine AW.seq ?_
    refine AW.draw (M := fun i => Nat.beq i 10) good.wide (by kernel_rfl) ?_
    refine AL.v good (d := 46) (v := .agg [.str ⟨#[97, 116]⟩, .int .i64 0, .int .i64 0, .bool false, .str ⟨#[]⟩, .sl .nil 0 [], .int .i64 0, .sl (.own 2) 8 [[.str ⟨#[120]⟩, .int .i64 0, .int .i64 0, .bool false, .str ⟨#[]⟩, .sl .ro 5 (encs []), .int .i64 0, .sl .ro 8 (enxs [])]]]) rfl rfl rfl rfl ?_
    refine AL.v good (d := 47) (v := .agg [.str ⟨#[97, 116]⟩, .int .i64 0, .int .i64 0, .bool false, .str ⟨#[]⟩, .sl .nil 0 [], .int .i64 1, .sl (.own 4) 8 [[.str ⟨#[120]⟩, .int .i64 0, .int .i64 0, .bool false, .str ⟨#[]⟩, .sl .ro 5 (encs []), .int .i64 0, .sl .ro 8 (enxs [])]]]) rfl rfl rfl rfl ?_
    refine AL.lit good (d := 48) (rows := [[.str ⟨#[97, 116]⟩, .int .i64 0, .int .i64 0, .bool false, .str ⟨#[]⟩, .sl .nil 0 [], .int .i64 0, .sl (.own 2) 8 [[.str ⟨#[120]⟩, .int .i64 0, .int .i64 0, .bool false, .str ⟨#[]⟩, .sl .ro 5 (encs []), .int .i64 0, .sl .ro 8 (enxs [])]]], [.str ⟨#[97, 116]⟩, .int .i64 0, .int .i64 0, .bool false, .str ⟨#[]⟩, .sl .nil 0 [], .int .i64 1, .sl (.own 4) 8 [[.str ⟨#[120]⟩, .int .i64 0, .int .i64 0, .bool false, .str ⟨#[]⟩, .sl .ro 5 (encs []), .int .i64 0, .sl .ro 8 (enxs [])]]]]) rfl rfl rfl rfl rfl rfl rfl rfl rfl 8 rfl ?_
    refine AL.cw good (d := 49) (xs := [.str ⟨#[115, 117, 98]⟩, .sl .ro 8 (enxs [(Ex.mk ⟨#[97, 116]⟩ (Val.mk 0 0 false ⟨#[]⟩ []) 0 [(Ex.mk ⟨#[120]⟩ (Val.mk 0 0 false ⟨#[]⟩ []) 0 [])]), (Ex.mk ⟨#[97, 116]⟩ (Val.mk 0 0 false ⟨#[]⟩ []) 1 [(Ex.mk ⟨#[120]⟩ (Val.mk 0 0 false ⟨#[]⟩ []) 0 [])])])]) (res := .agg [.str ⟨#[115, 117, 98]⟩, .int .i64 0, .int .i64 0, .bool false, .str ⟨#[]⟩, .sl .ro 5 (encs []), .int .i64 0, .sl .ro 8 (enxs [(Ex.mk ⟨#[97, 116]⟩ (Val.mk 0 0 false ⟨#[]⟩ []) 0 [(Ex.mk ⟨#[120]⟩ (Val.mk 0 0 false ⟨#[]⟩ []) 0 [])]), (Ex.mk ⟨#[97, 116]⟩ (Val.mk 0 0 false ⟨#[]⟩ []) 1 [(Ex.mk ⟨#[120]⟩ (Val.mk 0 0 false ⟨#[]⟩ []) 0 [])])])]) rfl rfl rfl rfl rfl rfl rfl (w_f30 ⟨#[115, 117, 98]⟩ [(Ex.mk ⟨#[97, 116]⟩ (Val.mk 0 0 false ⟨#[]⟩ []) 0 [(Ex.mk ⟨#[120]⟩ (Val.mk 0 0 false ⟨#[]⟩ []) 0 [])]), (Ex.mk ⟨#[97, 116]⟩ (Val.mk 0 0 false ⟨#[]⟩ []) 1 [(Ex.mk ⟨#[120]⟩ (Val.mk 0 0 false ⟨#[]⟩ []) 0 [])])]) ⟨(Wv.refl _), ⟨.inr rfl, (WvR_enxs ⟨⟨Wv.refl _, Wv.refl _, Wv.refl _, Wv.refl _, Wv.refl _, ⟨.inr rfl, trivial, .inr rfl⟩, Wv.refl _, ⟨.inr rfl, (WvR_enxs ⟨⟨Wv.refl _, Wv.refl _, Wv.refl _, Wv.refl _, Wv.refl _, Wv.refl _, Wv.refl _, Wv.refl _, trivial⟩, trivial⟩), .inl rfl⟩, trivial⟩, ⟨Wv.refl _, Wv.refl _, Wv.refl _, Wv.refl _, Wv.refl _, ⟨.inr rfl, trivial, .inr rfl⟩, Wv.refl _, ⟨.inr rfl, (WvR_enxs ⟨⟨Wv.refl _, Wv.refl _, Wv.refl _, Wv.refl _, Wv.refl _, Wv.refl _, Wv.refl _, Wv.refl _, trivial⟩, trivial⟩), .inl rfl⟩, trivial⟩, trivial⟩), .inl rfl⟩, trivial⟩ (by simp [pureA, pureL, pureR, inA, inL, inR, inO, idsIn, encs_pure, enxs_pure, enys_pure, valC_pure, exC_pure, tyC_pure]) ?_
    refine AL.v good (d := 50) (v := .agg [.int .i64 q2.kind, .int .i64 q2.i, .bool q2.b, .str q2.s, .sl .ro 5 (encs q2.t)]) rfl rfl rfl rfl ?_
    obtain ⟨q6, h7, hr⟩ := bnd1 hr
    refine AL.cw good (d := 51) (xs := [.agg (exC (Ex.mk ⟨#[115, 117, 98]⟩ (Val.mk 0 0 false ⟨#[]⟩ []) 0 [(Ex.mk ⟨#[97, 116]⟩ (Val.mk 0 0 false ⟨#[]⟩ []) 0 [(Ex.mk ⟨#[120]⟩ (Val.mk 0 0 false ⟨#[]⟩ []) 0 [])]), (Ex.mk ⟨#[97, 116]⟩ (Val.mk 0 0 false ⟨#[]⟩ []) 1 [(Ex.mk ⟨#[120]⟩ (Val.mk 0 0 false ⟨#[]⟩ []) 0 [])])])), .agg (valC q2)]) (res := .tup [.agg [.int .i64 q6.1.kind, .int .i64 q6.1.i, .bool q6.1.b, .str q6.1.s, .sl .ro 5 (encs q6.1.t)], .int .i64 q6.2]) rfl rfl rfl rfl rfl rfl rfl (w23 _ _ _ h7) ⟨(Wv.refl _), (Wv.refl _), trivial⟩ (by simp [pureA, pureL, pureR, inA, inL, inR, inO, idsIn, encs_pure, enxs_pure, enys_pure, valC_pure, exC_pure, tyC_pure]) ?_
    refine AL.v good (d := 45) (v := .tup [.agg [.int .i64 q6.1.kind, .int .i64 q6.1.i, .bool q6.1.b, .str q6.1.s, .sl .ro 5 (encs q6.1.t)], .int .i64 q6.2]) rfl rfl rfl rfl ?_
    refine AL.v good (d := 52) (v := .agg [.int .i64 q6.1.kind, .int .i64 q6.1.i, .bool q6.1.b, .str q6.1.s, .sl .ro 5 (encs q6.1.t)]) rfl rfl rfl rfl ?_
    refine AL.v good (d := 53) (v := .int .i64 q6.2) rfl rfl rfl rfl ?_
    refine AL.alc good (d := 10) rfl rfl rfl rfl rfl 9 rfl ?_
    refine AL.st2 good (c2 := [.int .i64 q6.1.kind, .int .i64 q6.1.i, .bool q6.1.b, .str q6.1.s, .sl .ro 5 (encs q6.1.t)]) rfl rfl rfl rfl rfl rfl rfl rfl rfl rfl rfl rfl ?_
    refine AL.v good (d := 11) (v := .int .i64 q6.2) rfl rfl rfl rfl ?_
    refine AW.seq ?_
    refine AW.draw (M := fun i => Nat.beq i 10) good.wide (by kernel_rfl) ?_
    refine AL.v good (d := 55) (v := .agg [.str ⟨#[97, 116]⟩, .int .i64 0, .int .i64 0, .bool false, .str ⟨#[]⟩, .sl .nil 0 [], .int .i64 0, .sl (.own 2) 8 [[.str ⟨#[120]⟩, .int .i64 0, .int .i64 0, .bool false, .str ⟨#[]⟩, .sl .ro 5 (encs []), .int .i64 0, .sl .ro 8 (enxs [])]]]) rfl rfl rfl rfl ?_
    refine AL.v good (d := 56) (v := .agg [.str ⟨#[97, 116]⟩, .int .i64 0, .int .i64 0, .bool false, .str ⟨#[]⟩, .sl .nil 0 [], .int .i64 1, .sl (.own 4) 8 [[.str ⟨#[120]⟩, .int .i64 0, .int .i64 0, .bool false, .str ⟨#[]⟩, .sl .ro 5 (encs []), .int .i64 0, .sl .ro 8 (enxs [])]]]) rfl rfl rfl rfl ?_
    refine AL.lit good (d := 57) (rows := [[.str ⟨#[97, 116]⟩, .int .i64 0, .int .i64 0, .bool false, .str ⟨#[]⟩, .sl .nil 0 [], .int .i64 0, .sl (.own 2) 8 [[.str ⟨#[120]⟩, .int .i64 0, .int .i64 0, .bool false, .str ⟨#[]⟩, .sl .ro 5 (encs []), .int .i64 0, .sl .ro 8 (enxs [])]]], [.str ⟨#[97, 116]⟩, .int .i64 0, .int .i64 0, .bool false, .str ⟨#[]⟩, .sl .nil 0 [], .int .i64 1, .sl (.own 4) 8 [[.str ⟨#[120]⟩, .int .i64 0, .int .i64 0, .bool false, .str ⟨#[]⟩, .sl .ro 5 (encs []), .int .i64 0, .sl .ro 8 (enxs [])]]]]) rfl rfl rfl rfl rfl rfl rfl rfl rfl 10 rfl ?_
    refine AL.cw good (d := 58) (xs := [.str ⟨#[109, 117, 108]⟩, .sl .ro 8 (enxs [(Ex.mk ⟨#[97, 116]⟩ (Val.mk 0 0 false ⟨#[]⟩ []) 0 [(Ex.mk ⟨#[120]⟩ (Val.mk 0 0 false ⟨#[]⟩ []) 0 [])]), (Ex.mk ⟨#[97, 116]⟩ (Val.mk 0 0 false ⟨#[]⟩ []) 1 [(Ex.mk ⟨#[120]⟩ (Val.mk 0 0 false ⟨#[]⟩ []) 0 [])])])]) (res := .agg [.str ⟨#[109, 117, 108]⟩, .int .i64 0, .int .i64 0, .bool false, .str ⟨#[]⟩, .sl .ro 5 (encs []), .int .i64 0, .sl .ro 8 (enxs [(Ex.mk ⟨#[97, 116]⟩ (Val.mk 0 0 false ⟨#[]⟩ []) 0 [(Ex.mk ⟨#[120]⟩ (Val.mk 0 0 false ⟨#[]⟩ []) 0 [])]), (Ex.mk ⟨#[97, 116]⟩ (Val.mk 0 0 false ⟨#[]⟩ []) 1 [(Ex.mk ⟨#[120]⟩ (Val.mk 0 0 false ⟨#[]⟩ []) 0 [])])])]) rfl rfl rfl rfl rfl rfl rfl (w_f30 ⟨#[109, 117, 108]⟩ [(Ex.mk ⟨#[97, 116]⟩ (Val.mk 0 0 false ⟨#[]⟩ []) 0 [(Ex.mk ⟨#[120]⟩ (Val.mk 0 0 false ⟨#[]⟩ []) 0 [])]), (Ex.mk ⟨#[97, 116]⟩ (Val.mk 0 0 false ⟨#[]⟩ []) 1 [(Ex.mk ⟨#[120]⟩ (Val.mk 0 0 false ⟨#[]⟩ []) 0 [])])]) ⟨(Wv.refl _), ⟨.inr rfl, (WvR_enxs ⟨⟨Wv.refl _, Wv.refl _, Wv.refl _, Wv.refl _, Wv.refl _, ⟨.inr rfl, trivial, .inr rfl⟩, Wv.refl _, ⟨.inr rfl, (WvR_enxs ⟨⟨Wv.refl _, Wv.refl _, Wv.refl _, Wv.refl _, Wv.refl _, Wv.refl _, Wv.refl _, Wv.refl _, trivial⟩, trivial⟩), .inl rfl⟩, trivial⟩, ⟨Wv.refl _, Wv.refl _, Wv.refl _, Wv.refl _, Wv.refl _, ⟨.inr rfl, trivial, .inr rfl⟩, Wv.refl _, ⟨.inr rfl, (WvR_enxs ⟨⟨Wv.refl _, Wv.refl _, Wv.refl _, Wv.refl _, Wv.refl _, Wv.refl _, Wv.refl _, Wv.refl _, trivial⟩, trivial⟩), .inl rfl⟩, trivial⟩, trivial⟩), .inl rfl⟩, trivial⟩ (by simp [pureA, pureL, pureR, inA, inL, inR, inO, idsIn, encs_pure, enxs_pure, enys_pure, valC_pure, exC_pure, tyC_pure]) ?_
    refine AL.v good (d := 59) (v := .agg [.int .i64 q2.kind, .int .i64 q2.i, .bool q2.b, .str q2.s, .sl .ro 5 (encs q2.t)]) rfl rfl rfl rfl ?_
    obtain ⟨q8, h9, hr⟩ := bnd1 hr
    refine AL.cw good (d := 60) (xs := [.agg (exC (Ex.mk ⟨#[109, 117, 108]⟩ (Val.mk 0 0 false ⟨#[]⟩ []) 0 [(Ex.mk ⟨#[97, 116]⟩ (Val.mk 0 0 false ⟨#[]⟩ []) 0 [(Ex.mk ⟨#[120]⟩ (Val.mk 0 0 false ⟨#[]⟩ []) 0 [])]), (Ex.mk ⟨#[97, 116]⟩ (Val.mk 0 0 false ⟨#[]⟩ []) 1 [(Ex.mk ⟨#[120]⟩ (Val.mk 0 0 false ⟨#[]⟩ []) 0 [])])])), .agg (valC q2)]) (res := .tup [.agg [.int .i64 q8.1.kind, .int .i64 q8.1.i, .bool q8.1.b, .str q8.1.s, .sl .ro 5 (encs q8.1.t)], .int .i64 q8.2]) rfl rfl rfl rfl rfl rfl rfl (w23 _ _ _ h9) ⟨(Wv.refl _), (Wv.refl _), trivial⟩ (by simp [pureA, pureL, pureR, inA, inL, inR, inO, idsIn, encs_pure, enxs_pure, enys_pure, valC_pure, exC_pure, tyC_pure]) ?_
    refine AL.v good (d := 54) (v := .tup [.agg [.int .i64 q8.1.kind, .int .i64 q8.1.i, .bool q8.1.b, .str q8.1.s, .sl .ro 5 (encs q8.1.t)], .int .i64 q8.2]) rfl rfl rfl rfl ?_
    refine AL.v good (d := 61) (v := .agg [.int .i64 q8.1.kind, .int .i64 q8.1.i, .bool q8.1.b, .str q8.1.s, .sl .ro 5 (encs q8.1.t)]) rfl rfl rfl rfl ?_
    refine AL.v good (d := 62) (v := .int .i64 q8.2) rfl rfl rfl rfl ?_
    refine AL.alc good (d := 12) rfl rfl rfl rfl rfl 11 rfl ?_
    refine AL.st2 good (c2 := [.int .i64 q8.1.kind, .int .i64 q8.1.i, .bool q8.1.b, .str q8.1.s, .sl .ro 5 (encs q8.1.t)]) rfl rfl rfl rfl rfl rfl rfl rfl rfl rfl rfl rfl ?_
    refine AL.v good (d := 13) (v := .int .i64 q8.2) rfl rfl rfl rfl ?_
    refine AW.seq ?_
    refine AW.draw (M := fun i => Nat.beq i 9) good.wide (by kernel_rfl) ?_
    refine AL.v good (d := 64) (v := .agg [.str ⟨#[97, 116]⟩, .int .i64 0, .int .i64 0, .bool false, .str ⟨#[]⟩, .sl .nil 0 [], .int .i64 0, .sl (.own 2) 8 [[.str ⟨#[120]⟩, .int .i64 0, .int .i64 0, .bool false, .str ⟨#[]⟩, .sl .ro 5 (encs []), .int .i64 0, .sl .ro 8 (enxs [])]]]) rfl rfl rfl rfl ?_
    refine AL.lit good (d := 65) (rows := [[.str ⟨#[97, 116]⟩, .int .i64 0, .int .i64 0, .bool false, .str ⟨#[]⟩, .sl .nil 0 [], .int .i64 0, .sl (.own 2) 8 [[.str ⟨#[120]⟩, .int .i64 0, .int .i64 0, .bool false, .str ⟨#[]⟩, .sl .ro 5 (encs []), .int .i64 0, .sl .ro 8 (enxs [])]]]]) rfl rfl rfl rfl rfl rfl rfl rfl rfl 12 rfl ?_
    refine AL.cw good (d := 66) (xs := [.str ⟨#[110, 101, 103]⟩, .sl .ro 8 (enxs [(Ex.mk ⟨#[97, 116]⟩ (Val.mk 0 0 false ⟨#[]⟩ []) 0 [(Ex.mk ⟨#[120]⟩ (Val.mk 0 0 false ⟨#[]⟩ []) 0 [])])])]) (res := .agg [.str ⟨#[110, 101, 103]⟩, .int .i64 0, .int .i64 0, .bool false, .str ⟨#[]⟩, .sl .ro 5 (encs []), .int .i64 0, .sl .ro 8 (enxs [(Ex.mk ⟨#[97, 116]⟩ (Val.mk 0 0 false ⟨#[]⟩ []) 0 [(Ex.mk ⟨#[120]⟩ (Val.mk 0 0 false ⟨#[]⟩ []) 0 [])])])]) rfl rfl rfl rfl rfl rfl rfl (w_f30 ⟨#[110, 101, 103]⟩ [(Ex.mk ⟨#[97, 116]⟩ (Val.mk 0 0 false ⟨#[]⟩ []) 0 [(Ex.mk ⟨#[120]⟩ (Val.mk 0 0 false ⟨#[]⟩ []) 0 [])])]) ⟨(Wv.refl _), ⟨.inr rfl, (WvR_enxs ⟨⟨Wv.refl _, Wv.refl _, Wv.refl _, Wv.refl _, Wv.refl _, ⟨.inr rfl, trivial, .inr rfl⟩, Wv.refl _, ⟨.inr rfl, (WvR_enxs ⟨⟨Wv.refl _, Wv.refl _, Wv.refl _, Wv.refl _, Wv.refl _, Wv.refl _, Wv.refl _, Wv.refl _, trivial⟩, trivial⟩), .inl rfl⟩, trivial⟩, trivial⟩), .inl rfl⟩, trivial⟩ (by simp [pureA, pureL, pureR, inA, inL, inR, inO, idsIn, encs_pure, enxs_pure, enys_pure, valC_pure, exC_pure, tyC_pure]) ?_
    refine AL.v good (d := 67) (v := .agg [.int .i64 q2.kind, .int .i64 q2.i, .bool q2.b, .str q2.s, .sl .ro 5 (encs q2.t)]) rfl rfl rfl rfl ?_
    obtain ⟨q10, h11, hr⟩ := bnd1 hr
    refine AL.cw good (d := 68) (xs := [.agg (exC (Ex.mk ⟨#[110, 101, 103]⟩ (Val.mk 0 0 false ⟨#[]⟩ []) 0 [(Ex.mk ⟨#[97, 116]⟩ (Val.mk 0 0 false ⟨#[]⟩ []) 0 [(Ex.mk ⟨#[120]⟩ (Val.mk 0 0 false ⟨#[]⟩ []) 0 [])])])), .agg (valC q2)]) (res := .tup [.agg [.int .i64 q10.1.kind, .int .i64 q10.1.i, .bool q10.1.b, .str q10.1.s, .sl .ro 5 (encs q10.1.t)], .int .i64 q10.2]) rfl rfl rfl rfl rfl rfl rfl (w23 _ _ _ h11) ⟨(Wv.refl _), (Wv.refl _), trivial⟩ (by simp [pureA, pureL, pureR, inA, inL, inR, inO, idsIn, encs_pure, enxs_pure, enys_pure, valC_pure, exC_pure, tyC_pure]) ?_
    refine AL.v good (d := 63) (v := .tup [.agg [.int .i64 q10.1.kind, .int .i64 q10.1.i, .bool q10.1.b, .str q10.1.s, .sl .ro 5 (encs q10.1.t)], .int .i64 q10.2]) rfl rfl rfl rfl ?_
    refine AL.v good (d := 69) (v := .agg [.int .i64 q10.1.kind, .int .i64 q10.1.i, .bool q10.1.b, .str q10.1.s, .sl .ro 5 (encs q10.1.t)]) rfl rfl rfl rfl ?_
    refine AL.v good (d := 70) (v := .int .i64 q10.2) rfl rfl rfl rfl ?_
    refine AL.alc good (d := 14) rfl rfl rfl rfl rfl 13 rfl ?_
    refine AL.st2 good (c2 := [.int .i64 q10.1.kind, .int .i64 q10.1.i, .bool q10.1.b, .str q10.1.s, .sl .ro 5 (encs q10.1.t)]) rfl rfl rfl rfl rfl rfl rfl rfl rfl rfl rfl rfl ?_
    refine AL.v good (d := 15) (v := .int .i64 q10.2) rfl rfl rfl rfl ?_
    refine AW.seq ?_
    refine AW.draw (M := fun i => Nat.beq i 10) good.wide (by kernel_rfl) ?_
    refine AL.v good (d := 72) (v := .agg [.str ⟨#[97, 116]⟩, .int .i64 0, .int .i64 0, .bool false, .str ⟨#[]⟩, .sl .nil 0 [], .int .i64 0, .sl (.own 2) 8 [[.str ⟨#[120]⟩, .int .i64 0, .int .i64 0, .bool false, .str ⟨#[]⟩, .sl .ro 5 (encs []), .int .i64 0, .sl .ro 8 (enxs [])]]]) rfl rfl rfl rfl ?_
    refine AL.v good (d := 73) (v := .agg [.str ⟨#[97, 116]⟩, .int .i64 0, .int .i64 0, .bool false, .str ⟨#[]⟩, .sl .nil 0 [], .int .i64 1, .sl (.own 4) 8 [[.str ⟨#[120]⟩, .int .i64 0, .int .i64 0, .bool false, .str ⟨#[]⟩, .sl .ro 5 (encs []), .int .i64 0, .sl .ro 8 (enxs [])]]]) rfl rfl rfl rfl ?_
    refine AL.lit good (d := 74) (rows := [[.str ⟨#[97, 116]⟩, .int .i64 0, .int .i64 0, .bool false, .str ⟨#[]⟩, .sl .nil 0 [], .int .i64 0, .sl (.own 2) 8 [[.str ⟨#[120]⟩, .int .i64 0, .int .i64 0, .bool false, .str ⟨#[]⟩, .sl .ro 5 (encs []), .int .i64 0, .sl .ro 8 (enxs [])]]], [.str ⟨#[97, 116]⟩, .int .i64 0, .int .i64 0, .bool false, .str ⟨#[]⟩, .sl .nil 0 [], .int .i64 1, .sl (.own 4) 8 [[.str ⟨#[120]⟩, .int .i64 0, .int .i64 0, .bool false, .str ⟨#[]⟩, .sl .ro 5 (encs []), .int .i64 0, .sl .ro 8 (enxs [])]]]]) rfl rfl rfl rfl rfl rfl rfl rfl rfl 14 rfl ?_
    refine AL.cw good (d := 75) (xs := [.str ⟨#[100, 105, 118]⟩, .sl .ro 8 (enxs [(Ex.mk ⟨#[97, 116]⟩ (Val.mk 0 0 false ⟨#[]⟩ []) 0 [(Ex.mk ⟨#[120]⟩ (Val.mk 0 0 false ⟨#[]⟩ []) 0 [])]), (Ex.mk ⟨#[97, 116]⟩ (Val.mk 0 0 false ⟨#[]⟩ []) 1 [(Ex.mk ⟨#[120]⟩ (Val.mk 0 0 false ⟨#[]⟩ []) 0 [])])])]) (res := .agg [.str ⟨#[100, 105, 118]⟩, .int .i64 0, .int .i64 0, .bool false, .str ⟨#[]⟩, .sl .ro 5 (encs []), .int .i64 0, .sl .ro 8 (enxs [(Ex.mk ⟨#[97, 116]⟩ (Val.mk 0 0 false ⟨#[]⟩ []) 0 [(Ex.mk ⟨#[120]⟩ (Val.mk 0 0 false ⟨#[]⟩ []) 0 [])]), (Ex.mk ⟨#[97, 116]⟩ (Val.mk 0 0 false ⟨#[]⟩ []) 1 [(Ex.mk ⟨#[120]⟩ (Val.mk 0 0 false ⟨#[]⟩ []) 0 [])])])]) rfl rfl rfl rfl rfl rfl rfl (w_f30 ⟨#[100, 105, 118]⟩ [(Ex.mk ⟨#[97, 116]⟩ (Val.mk 0 0 false ⟨#[]⟩ []) 0 [(Ex.mk ⟨#[120]⟩ (Val.mk 0 0 false ⟨#[]⟩ []) 0 [])]), (Ex.mk ⟨#[97, 116]⟩ (Val.mk 0 0 false ⟨#[]⟩ []) 1 [(Ex.mk ⟨#[120]⟩ (Val.mk 0 0 false ⟨#[]⟩ []) 0 [])])]) ⟨(Wv.refl _), ⟨.inr rfl, (WvR_enxs ⟨⟨Wv.refl _, Wv.refl _, Wv.refl _, Wv.refl _, Wv.refl _, ⟨.inr rfl, trivial, .inr rfl⟩, Wv.refl _, ⟨.inr rfl, (WvR_enxs ⟨⟨Wv.refl _, Wv.refl _, Wv.refl _, Wv.refl _, Wv.refl _, Wv.refl _, Wv.refl _, Wv.refl _, trivial⟩, trivial⟩), .inl rfl⟩, trivial⟩, ⟨Wv.refl _, Wv.refl _, Wv.refl _, Wv.refl _, Wv.refl _, ⟨.inr rfl, trivial, .inr rfl⟩, Wv.refl _, ⟨.inr rfl, (WvR_enxs ⟨⟨Wv.refl _, Wv.refl _, Wv.refl _, Wv.refl _, Wv.refl _, Wv.refl _, Wv.refl _, Wv.refl _, trivial⟩, trivial⟩), .inl rfl⟩, trivial⟩, trivial⟩), .inl rfl⟩, trivial⟩ (by simp [pureA, pureL, pureR, inA, inL, inR, inO, idsIn, encs_pure, enxs_pure, enys_pure, valC_pure, exC_pure, tyC_pure]) ?_
    refine AL.v good (d := 76) (v := .agg [.int .i64 q2.kind, .int .i64 q2.i, .bool q2.b, .str q2.s, .sl .ro 5 (encs q2.t)]) rfl rfl rfl rfl ?_
    obtain ⟨q12, h13, hr⟩ := bnd1 hr
    refine AL.cw good (d := 77) (xs := [.agg (exC (Ex.mk ⟨#[100, 105, 118]⟩ (Val.mk 0 0 false ⟨#[]⟩ []) 0 [(Ex.mk ⟨#[97, 116]⟩ (Val.mk 0 0 false ⟨#[]⟩ []) 0 [(Ex.mk ⟨#[120]⟩ (Val.mk 0 0 false ⟨#[]⟩ []) 0 [])]), (Ex.mk ⟨#[97, 116]⟩ (Val.mk 0 0 false ⟨#[]⟩ []) 1 [(Ex.mk ⟨#[120]⟩ (Val.mk 0 0 false ⟨#[]⟩ []) 0 [])])])), .agg (valC q2)]) (res := .tup [.agg [.int .i64 q12.1.kind, .int .i64 q12.1.i, .bool q12.1.b, .str q12.1.s, .sl .ro 5 (encs q12.1.t)], .int .i64 q12.2]) rfl rfl rfl rfl rfl rfl rfl (w23 _ _ _ h13) ⟨(Wv.refl _), (Wv.refl _), trivial⟩ (by simp [pureA, pureL, pureR, inA, inL, inR, inO, idsIn, encs_pure, enxs_pure, enys_pure, valC_pure, exC_pure, tyC_pure]) ?_
    refine AL.v good (d := 71) (v := .tup [.agg [.int .i64 q12.1.kind, .int .i64 q12.1.i, .bool q12.1.b, .str q12.1.s, .sl .ro 5 (encs q12.1.t)], .int .i64 q12.2]) rfl rfl rfl rfl ?_
    refine AL.v good (d := 78) (v := .agg [.int .i64 q12.1.kind, .int .i64 q12.1.i, .bool q12.1.b, .str q12.1.s, .sl .ro 5 (encs q12.1.t)]) rfl rfl rfl rfl ?_
    refine AL.v good (d := 79) (v := .int .i64 q12.2) rfl rfl rfl rfl ?_
    refine AL.alc good (d := 16) rfl rfl rfl rfl rfl 15 rfl ?_
    refine AL.st2 good (c2 := [.int .i64 q12.1.kind, .int .i64 q12.1.i, .bool q12.1.b, .str q12.1.s, .sl .ro 5 (encs q12.1.t)]) rfl rfl rfl rfl rfl rfl rfl rfl rfl rfl rfl rfl ?_
    refine AL.v good (d := 17) (v := .int .i64 q12.2) rfl rfl rfl rfl ?_
    refine AW.seq ?_
    refine AW.draw (M := fun i => Nat.beq i 10) good.wide (by kernel_rfl) ?_
    refine AL.v good (d := 81) (v := .agg [.str ⟨#[97, 116]⟩, .int .i64 0, .int .i64 0, .bool false, .str ⟨#[]⟩, .sl .nil 0 [], .int .i64 0, .sl (.own 2) 8 [[.str ⟨#[120]⟩, .int .i64 0, .int .i64 0, .bool false, .str ⟨#[]⟩, .sl .ro 5 (encs []), .int .i64 0, .sl .ro 8 (enxs [])]]]) rfl rfl rfl rfl ?_
    refine AL.v good (d := 82) (v := .agg [.str ⟨#[97, 116]⟩, .int .i64 0, .int .i64 0, .bool false, .str ⟨#[]⟩, .sl .nil 0 [], .int .i64 1, .sl (.own 4) 8 [[.str ⟨#[120]⟩, .int .i64 0, .int .i64 0, .bool false, .str ⟨#[]⟩, .sl .ro 5 (encs []), .int .i64 0, .sl .ro 8 (enxs [])]]]) rfl rfl rfl rfl ?_
    refine AL.lit good (d := 83) (rows := [[.str ⟨#[97, 116]⟩, .int .i64 0, .int .i64 0, .bool false, .str ⟨#[]⟩, .sl .nil 0 [], .int .i64 0, .sl (.own 2) 8 [[.str ⟨#[120]⟩, .int .i64 0, .int .i64 0, .bool false, .str ⟨#[]⟩, .sl .ro 5 (encs []), .int .i64 0, .sl .ro 8 (enxs [])]]], [.str ⟨#[97, 116]⟩, .int .i64 0, .int .i64 0, .bool false, .str ⟨#[]⟩, .sl .nil 0 [], .int .i64 1, .sl (.own 4) 8 [[.str ⟨#[120]⟩, .int .i64 0, .int .i64 0, .bool false, .str ⟨#[]⟩, .sl .ro 5 (encs []), .int .i64 0, .sl .ro 8 (enxs [])]]]]) rfl rfl rfl rfl rfl rfl rfl rfl rfl 16 rfl ?_
    refine AL.cw good (d := 84) (xs := [.str ⟨#[114, 101, 109]⟩, .sl .ro 8 (enxs [(Ex.mk ⟨#[97, 116]⟩ (Val.mk 0 0 false ⟨#[]⟩ []) 0 [(Ex.mk ⟨#[120]⟩ (Val.mk 0 0 false ⟨#[]⟩ []) 0 [])]), (Ex.mk ⟨#[97, 116]⟩ (Val.mk 0 0 false ⟨#[]⟩ []) 1 [(Ex.mk ⟨#[120]⟩ (Val.mk 0 0 false ⟨#[]⟩ []) 0 [])])])]) (res := .agg [.str ⟨#[114, 101, 109]⟩, .int .i64 0, .int .i64 0, .bool false, .str ⟨#[]⟩, .sl .ro 5 (encs []), .int .i64 0, .sl .ro 8 (enxs [(Ex.mk ⟨#[97, 116]⟩ (Val.mk 0 0 false ⟨#[]⟩ []) 0 [(Ex.mk ⟨#[120]⟩ (Val.mk 0 0 false ⟨#[]⟩ []) 0 [])]), (Ex.mk ⟨#[97, 116]⟩ (Val.mk 0 0 false ⟨#[]⟩ []) 1 [(Ex.mk ⟨#[120]⟩ (Val.mk 0 0 false ⟨#[]⟩ []) 0 [])])])]) rfl rfl rfl rfl rfl rfl rfl (w_f30 ⟨#[114, 101, 109]⟩ [(Ex.mk ⟨#[97, 116]⟩ (Val.mk 0 0 false ⟨#[]⟩ []) 0 [(Ex.mk ⟨#[120]⟩ (Val.mk 0 0 false ⟨#[]⟩ []) 0 [])]), (Ex.mk ⟨#[97, 116]⟩ (Val.mk 0 0 false ⟨#[]⟩ []) 1 [(Ex.mk ⟨#[120]⟩ (Val.mk 0 0 false ⟨#[]⟩ []) 0 [])])]) ⟨(Wv.refl _), ⟨.inr rfl, (WvR_enxs ⟨⟨Wv.refl _, Wv.refl _, Wv.refl _, Wv.refl _, Wv.refl _, ⟨.inr rfl, trivial, .inr rfl⟩, Wv.refl _, ⟨.inr rfl, (WvR_enxs ⟨⟨Wv.refl _, Wv.refl _, Wv.refl _, Wv.refl _, Wv.refl _, Wv.refl _, Wv.refl _, Wv.refl _, trivial⟩, trivial⟩), .inl rfl⟩, trivial⟩, ⟨Wv.refl _, Wv.refl _, Wv.refl _, Wv.refl _, Wv.refl _, ⟨.inr rfl, trivial, .inr rfl⟩, Wv.refl _, ⟨.inr rfl, (WvR_enxs ⟨⟨Wv.refl _, Wv.refl _, Wv.refl _, Wv.refl _, Wv.refl _, Wv.refl _, Wv.refl _, Wv.refl _, trivial⟩, trivial⟩), .inl rfl⟩, trivial⟩, trivial⟩), .inl rfl⟩, trivial⟩ (by simp [pureA, pureL, pureR, inA, inL, inR, inO, idsIn, encs_pure, enxs_pure, enys_pure, valC_pure, exC_pure, tyC_pure]) ?_
    refine AL.v good (d := 85) (v := .agg [.int .i64 q2.kind, .int .i64 q2.i, .bool q2.b, .str q2.s, .sl .ro 5 (encs q2.t)]) rfl rfl rfl rfl ?_
    obtain ⟨q14, h15, hr⟩ := bnd1 hr
    refine AL.cw good (d := 86) (xs := [.agg (exC (Ex.mk ⟨#[114, 101, 109]⟩ (Val.mk 0 0 false ⟨#[]⟩ []) 0 [(Ex.mk ⟨#[97, 116]⟩ (Val.mk 0 0 false ⟨#[]⟩ []) 0 [(Ex.mk ⟨#[120]⟩ (Val.mk 0 0 false ⟨#[]⟩ []) 0 [])]), (Ex.mk ⟨#[97, 116]⟩ (Val.mk 0 0 false ⟨#[]⟩ []) 1 [(Ex.mk ⟨#[120]⟩ (Val.mk 0 0 false ⟨#[]⟩ []) 0 [])])])), .agg (valC q2)]) (res := .tup [.agg [.int .i64 q14.1.kind, .int .i64 q14.1.i, .bool q14.1.b, .str q14.1.s, .sl .ro 5 (encs q14.1.t)], .int .i64 q14.2]) rfl rfl rfl rfl rfl rfl rfl (w23 _ _ _ h15) ⟨(Wv.refl _), (Wv.refl _), trivial⟩ (by simp [pureA, pureL, pureR, inA, inL, inR, inO, idsIn, encs_pure, enxs_pure, enys_pure, valC_pure, exC_pure, tyC_pure]) ?_
    refine AL.v good (d := 80) (v := .tup [.agg [.int .i64 q14.1.kind, .int .i64 q14.1.i, .bool q14.1.b, .str q14.1.s, .sl .ro 5 (encs q14.1.t)], .int .i64 q14.2]) rfl rfl rfl rfl ?_
    refine AL.v good (d := 87) (v := .agg [.int .i64 q14.1.kind, .int .i64 q14.1.i, .bool q14.1.b, .str q14.1.s, .sl .ro 5 (encs q14.1.t)]) rfl rfl rfl rfl ?_
    refine AL.v good (d := 88) (v := .int .i64 q14.2) rfl rfl rfl rfl ?_
    refine AL.alc good (d := 18) rfl rfl rfl rfl rfl 17 rfl ?_
    refine AL.st2 good (c2 := [.int .i64 q14.1.kind, .int .i64 q14.1.i, .bool q14.1.b, .str q14.1.s, .sl .ro 5 (encs q14.1.t)]) rfl rfl rfl rfl rfl rfl rfl rfl rfl rfl rfl rfl ?_
    refine AL.v good (d := 19) (v := .int .i64 q14.2) rfl rfl rfl rfl ?_
    refine AW.seq ?_
    refine AW.draw (M := fun i => Nat.beq i 10) good.wide (by kernel_rfl) ?_
    refine AL.v good (d := 90) (v := .agg [.str ⟨#[97, 116]⟩, .int .i64 0, .int .i64 0, .bool false, .str ⟨#[]⟩, .sl .nil 0 [], .int .i64 0, .sl (.own 2) 8 [[.str ⟨#[120]⟩, .int .i64 0, .int .i64 0, .bool false, .str ⟨#[]⟩, .sl .ro 5 (encs []), .int .i64 0, .sl .ro 8 (enxs [])]]]) rfl rfl rfl rfl ?_
    refine AL.v good (d := 91) (v := .agg [.str ⟨#[97, 116]⟩, .int .i64 0, .int .i64 0, .bool false, .str ⟨#[]⟩, .sl .nil 0 [], .int .i64 1, .sl (.own 4) 8 [[.str ⟨#[120]⟩, .int .i64 0, .int .i64 0, .bool false, .str ⟨#[]⟩, .sl .ro 5 (encs []), .int .i64 0, .sl .ro 8 (enxs [])]]]) rfl rfl rfl rfl ?_
    refine AL.lit good (d := 92) (rows := [[.str ⟨#[97, 116]⟩, .int .i64 0, .int .i64 0, .bool false, .str ⟨#[]⟩, .sl .nil 0 [], .int .i64 0, .sl (.own 2) 8 [[.str ⟨#[120]⟩, .int .i64 0, .int .i64 0, .bool false, .str ⟨#[]⟩, .sl .ro 5 (encs []), .int .i64 0, .sl .ro 8 (enxs [])]]], [.str ⟨#[97, 116]⟩, .int .i64 0, .int .i64 0, .bool false, .str ⟨#[]⟩, .sl .nil 0 [], .int .i64 1, .sl (.own 4) 8 [[.str ⟨#[120]⟩, .int .i64 0, .int .i64 0, .bool false, .str ⟨#[]⟩, .sl .ro 5 (encs []), .int .i64 0, .sl .ro 8 (enxs [])]]]]) rfl rfl rfl rfl rfl rfl rfl rfl rfl 18 rfl ?_
    refine AL.cw good (d := 93) (xs := [.str ⟨#[108, 116]⟩, .sl .ro 8 (enxs [(Ex.mk ⟨#[97, 116]⟩ (Val.mk 0 0 false ⟨#[]⟩ []) 0 [(Ex.mk ⟨#[120]⟩ (Val.mk 0 0 false ⟨#[]⟩ []) 0 [])]), (Ex.mk ⟨#[97, 116]⟩ (Val.mk 0 0 false ⟨#[]⟩ []) 1 [(Ex.mk ⟨#[120]⟩ (Val.mk 0 0 false ⟨#[]⟩ []) 0 [])])])]) (res := .agg [.str ⟨#[108, 116]⟩, .int .i64 0, .int .i64 0, .bool false, .str ⟨#[]⟩, .sl .ro 5 (encs []), .int .i64 0, .sl .ro 8 (enxs [(Ex.mk ⟨#[97, 116]⟩ (Val.mk 0 0 false ⟨#[]⟩ []) 0 [(Ex.mk ⟨#[120]⟩ (Val.mk 0 0 false ⟨#[]⟩ []) 0 [])]), (Ex.mk ⟨#[97, 116]⟩ (Val.mk 0 0 false ⟨#[]⟩ []) 1 [(Ex.mk ⟨#[120]⟩ (Val.mk 0 0 false ⟨#[]⟩ []) 0 [])])])]) rfl rfl rfl rfl rfl rfl rfl (w_f30 ⟨#[108, 116]⟩ [(Ex.mk ⟨#[97, 116]⟩ (Val.mk 0 0 false ⟨#[]⟩ []) 0 [(Ex.mk ⟨#[120]⟩ (Val.mk 0 0 false ⟨#[]⟩ []) 0 [])]), (Ex.mk ⟨#[97, 116]⟩ (Val.mk 0 0 false ⟨#[]⟩ []) 1 [(Ex.mk ⟨#[120]⟩ (Val.mk 0 0 false ⟨#[]⟩ []) 0 [])])]) ⟨(Wv.refl _), ⟨.inr rfl, (WvR_enxs ⟨⟨Wv.refl _, Wv.refl _, Wv.refl _, Wv.refl _, Wv.refl _, ⟨.inr rfl, trivial, .inr rfl⟩, Wv.refl _, ⟨.inr rfl, (WvR_enxs ⟨⟨Wv.refl _, Wv.refl _, Wv.refl _, Wv.refl _, Wv.refl _, Wv.refl _, Wv.refl _, Wv.refl _, trivial⟩, trivial⟩), .inl rfl⟩, trivial⟩, ⟨Wv.refl _, Wv.refl _, Wv.refl _, Wv.refl _, Wv.refl _, ⟨.inr rfl, trivial, .inr rfl⟩, Wv.refl _, ⟨.inr rfl, (WvR_enxs ⟨⟨Wv.refl _, Wv.refl _, Wv.refl _, Wv.refl _, Wv.refl _, Wv.refl _, Wv.refl _, Wv.refl _, trivial⟩, trivial⟩), .inl rfl⟩, trivial⟩, trivial⟩), .inl rfl⟩, trivial⟩ (by simp [pureA, pureL, pureR, inA, inL, inR, inO, idsIn, encs_pure, enxs_pure, enys_pure, valC_pure, exC_pure, tyC_pure]) ?_
    refine AL.v good (d := 94) (v := .agg [.int .i64 q2.kind, .int .i64 q2.i, .bool q2.b, .str q2.s, .sl .ro 5 (encs q2.t)]) rfl rfl rfl rfl ?_
    obtain ⟨q16, h17, hr⟩ := bnd1 hr
    refine AL.cw good (d := 95) (xs := [.agg (exC (Ex.mk ⟨#[108, 116]⟩ (Val.mk 0 0 false ⟨#[]⟩ []) 0 [(Ex.mk ⟨#[97, 116]⟩ (Val.mk 0 0 false ⟨#[]⟩ []) 0 [(Ex.mk ⟨#[120]⟩ (Val.mk 0 0 false ⟨#[]⟩ []) 0 [])]), (Ex.mk ⟨#[97, 116]⟩ (Val.mk 0 0 false ⟨#[]⟩ []) 1 [(Ex.mk ⟨#[120]⟩ (Val.mk 0 0 false ⟨#[]⟩ []) 0 [])])])), .agg (valC q2)]) (res := .tup [.agg [.int .i64 q16.1.kind, .int .i64 q16.1.i, .bool q16.1.b, .str q16.1.s, .sl .ro 5 (encs q16.1.t)], .int .i64 q16.2]) rfl rfl rfl rfl rfl rfl rfl (w23 _ _ _ h17) ⟨(Wv.refl _), (Wv.refl _), trivial⟩ (by simp [pureA, pureL, pureR, inA, inL, inR, inO, idsIn, encs_pure, enxs_pure, enys_pure, valC_pure, exC_pure, tyC_pure]) ?_
    refine AL.v good (d := 89) (v := .tup [.agg [.int .i64 q16.1.kind, .int .i64 q16.1.i, .bool q16.1.b, .str q16.1.s, .sl .ro 5 (encs q16.1.t)], .int .i64 q16.2]) rfl rfl rfl rfl ?_
    refine AL.v good (d := 96) (v := .agg [.int .i64 q16.1.kind, .int .i64 q16.1.i, .bool q16.1.b, .str q16.1.s, .sl .ro 5 (encs q16.1.t)]) rfl rfl rfl rfl ?_
    refine AL.v good (d := 97) (v := .int .i64 q16.2) rfl rfl rfl rfl ?_
    refine AL.alc good (d := 20) rfl rfl rfl rfl rfl 19 rfl ?_
    refine AL.st2 good (c2 := [.int .i64 q16.1.kind, .int .i64 q16.1.i, .bool q16.1.b, .str q16.1.s, .sl .ro 5 (encs q16.1.t)]) rfl rfl rfl rfl rfl rfl rfl rfl rfl rfl rfl rfl ?_
    refine AL.v good (d := 21) (v := .int .i64 q16.2) rfl rfl rfl rfl ?_
    refine AW.seq ?_
    refine AW.seq ?_
    refine AW.region (M := fun _ => true) ?_
    refine AL.v good (d := 98) (v := .int .i64 q4.2) rfl rfl rfl rfl ?_
    refine AL.v good (d := 99) (v := .int .i64 q6.2) rfl rfl rfl rfl ?_
    refine AL.v good (d := 100) (v := .int .i64 (IntKind.i64.wrap (q4.2 + q6.2))) rfl rfl rfl rfl ?_
    refine AL.v good (d := 101) (v := .int .i64 q8.2) rfl rfl rfl rfl ?_
    refine AL.v good (d := 102) (v := .int .i64 (IntKind.i64.wrap ((IntKind.i64.wrap (q4.2 + q6.2)) + q8.2))) rfl rfl rfl rfl ?_
    refine AL.v good (d := 103) (v := .int .i64 q10.2) rfl rfl rfl rfl ?_
    refine AL.v good (d := 104) (v := .int .i64 (IntKind.i64.wrap ((IntKind.i64.wrap ((IntKind.i64.wrap (q4.2 + q6.2)) + q8.2)) + q10.2))) rfl rfl rfl rfl ?_
    refine AL.v good (d := 105) (v := .int .i64 q16.2) rfl rfl rfl rfl ?_
    refine AL.v good (d := 106) (v := .int .i64 (IntKind.i64.wrap ((IntKind.i64.wrap ((IntKind.i64.wrap ((IntKind.i64.wrap (q4.2 + q6.2)) + q8.2)) + q10.2)) + q16.2))) rfl rfl rfl rfl ?_
    refine AL.v good (d := 107) (v := .bool ((IntKind.i64.wrap ((IntKind.i64.wrap ((IntKind.i64.wrap ((IntKind.i64.wrap (q4.2 + q6.2)) + q8.2)) + q10.2)) + q16.2)) != 0)) rfl rfl rfl rfl ?_
    refine AL.vb good (d := 108) (b := ((IntKind.i64.wrap ((IntKind.i64.wrap ((IntKind.i64.wrap ((IntKind.i64.wrap (q4.2 + q6.2)) + q8.2)) + q10.2)) + q16.2)) != 0)) rfl rfl rfl rfl (fun g18 h19 => ?_)
    refine AL.gv good (d := 109) (c := (!g18)) (v := .ptr 7 1) (rd := []) rfl rfl (by cases g18 <;> rfl) (fun h => by cases g18 <;> first | rfl | exact absurd h (by decide)) ?_
    refine AL.gv good (d := 110) (c := (!g18)) (v := .int .i64 q4.1.i) (rd := [(7, .box 24 [.int .i64 q4.1.kind, .int .i64 q4.1.i, .bool q4.1.b, .str q4.1.s, .sl .ro 5 (encs q4.1.t)])]) rfl rfl (by cases g18 <;> rfl) (fun h => by cases g18 <;> first | rfl | exact absurd h (by decide)) ?_
    refine AL.gv good (d := 111) (c := (!g18)) (v := .int .i64 a0) (rd := []) rfl rfl (by cases g18 <;> rfl) (fun h => by cases g18 <;> first | rfl | exact absurd h (by decide)) ?_
    refine AL.gv good (d := 112) (c := (!g18)) (v := .int .i64 a1) (rd := []) rfl rfl (by cases g18 <;> rfl) (fun h => by cases g18 <;> first | rfl | exact absurd h (by decide)) ?_
    refine AL.gv good (d := 113) (c := (!g18)) (v := .int .i64 (IntKind.i64.wrap (a0 + a1))) (rd := []) rfl rfl (by cases g18 <;> rfl) (fun h => by cases g18 <;> first | rfl | exact absurd h (by decide)) ?_
    refine AL.gv good (d := 114) (c := (!g18)) (v := .bool (q4.1.i != (IntKind.i64.wrap (a0 + a1)))) (rd := []) rfl rfl (by cases g18 <;> rfl) (fun h => by cases g18 <;> first | rfl | exact absurd h (by decide)) ?_
    refine AL.v good (d := 115) (v := .bool (g18 || (q4.1.i != (IntKind.i64.wrap (a0 + a1))))) (rd := []) rfl rfl rfl (by cases g18 <;> rfl) ?_
    refine AL.vb good (d := 116) (b := (g18 || (q4.1.i != (IntKind.i64.wrap (a0 + a1))))) rfl rfl rfl rfl (fun g20 h21 => ?_)
    refine AL.gv good (d := 117) (c := (!g20)) (v := .ptr 9 1) (rd := []) rfl rfl (by cases g20 <;> rfl) (fun h => by cases g20 <;> first | rfl | exact absurd h (by decide)) ?_
    refine AL.gv good (d := 118) (c := (!g20)) (v := .int .i64 q6.1.i) (rd := [(9, .box 24 [.int .i64 q6.1.kind, .int .i64 q6.1.i, .bool q6.1.b, .str q6.1.s, .sl .ro 5 (encs q6.1.t)])]) rfl rfl (by cases g20 <;> rfl) (fun h => by cases g20 <;> first | rfl | exact absurd h (by decide)) ?_
    refine AL.gv good (d := 119) (c := (!g20)) (v := .int .i64 a0) (rd := []) rfl rfl (by cases g20 <;> rfl) (fun h => by cases g20 <;> first | rfl | exact absurd h (by decide)) ?_
    refine AL.gv good (d := 120) (c := (!g20)) (v := .int .i64 a1) (rd := []) rfl rfl (by cases g20 <;> rfl) (fun h => by cases g20 <;> first | rfl | exact absurd h (by decide)) ?_
    refine AL.gv good (d := 121) (c := (!g20)) (v := .int .i64 (IntKind.i64.wrap (a0 - a1))) (rd := []) rfl rfl (by cases g20 <;> rfl) (fun h => by cases g20 <;> first | rfl | exact absurd h (by decide)) ?_
    refine AL.gv good (d := 122) (c := (!g20)) (v := .bool (q6.1.i != (IntKind.i64.wrap (a0 - a1)))) (rd := []) rfl rfl (by cases g20 <;> rfl) (fun h => by cases g20 <;> first | rfl | exact absurd h (by decide)) ?_
    refine AL.v good (d := 123) (v := .bool (g20 || (q6.1.i != (IntKind.i64.wrap (a0 - a1))))) (rd := []) rfl rfl rfl (by cases g20 <;> rfl) ?_
    refine AL.vb good (d := 124) (b := (g20 || (q6.1.i != (IntKind.i64.wrap (a0 - a1))))) rfl rfl rfl rfl (fun g22 h23 => ?_)
    refine AL.gv good (d := 125) (c := (!g22)) (v := .ptr 11 1) (rd := []) rfl rfl (by cases g22 <;> rfl) (fun h => by cases g22 <;> first | rfl | exact absurd h (by decide)) ?_
    refine AL.gv good (d := 126) (c := (!g22)) (v := .int .i64 q8.1.i) (rd := [(11, .box 24 [.int .i64 q8.1.kind, .int .i64 q8.1.i, .bool q8.1.b, .str q8.1.s, .sl .ro 5 (encs q8.1.t)])]) rfl rfl (by cases g22 <;> rfl) (fun h => by cases g22 <;> first | rfl | exact absurd h (by decide)) ?_
    refine AL.gv good (d := 127) (c := (!g22)) (v := .int .i64 a0) (rd := []) rfl rfl (by cases g22 <;> rfl) (fun h => by cases g22 <;> first | rfl | exact absurd h (by decide)) ?_
    refine AL.gv good (d := 128) (c := (!g22)) (v := .int .i64 a1) (rd := []) rfl rfl (by cases g22 <;> rfl) (fun h => by cases g22 <;> first | rfl | exact absurd h (by decide)) ?_
    refine AL.gv good (d := 129) (c := (!g22)) (v := .int .i64 (IntKind.i64.wrap (a0 * a1))) (rd := []) rfl rfl (by cases g22 <;> rfl) (fun h => by cases g22 <;> first | rfl | exact absurd h (by decide)) ?_
    refine AL.gv good (d := 130) (c := (!g22)) (v := .bool (q8.1.i != (IntKind.i64.wrap (a0 * a1)))) (rd := []) rfl rfl (by cases g22 <;> rfl) (fun h => by cases g22 <;> first | rfl | exact absurd h (by decide)) ?_
    refine AL.v good (d := 131) (v := .bool (g22 || (q8.1.i != (IntKind.i64.wrap (a0 * a1))))) (rd := []) rfl rfl rfl (by cases g22 <;> rfl) ?_
    refine AL.vb good (d := 132) (b := (g22 || (q8.1.i != (IntKind.i64.wrap (a0 * a1))))) rfl rfl rfl rfl (fun g24 h25 => ?_)
    refine AL.gv good (d := 133) (c := (!g24)) (v := .ptr 13 1) (rd := []) rfl rfl (by cases g24 <;> rfl) (fun h => by cases g24 <;> first | rfl | exact absurd h (by decide)) ?_
    refine AL.gv good (d := 134) (c := (!g24)) (v := .int .i64 q10.1.i) (rd := [(13, .box 24 [.int .i64 q10.1.kind, .int .i64 q10.1.i, .bool q10.1.b, .str q10.1.s, .sl .ro 5 (encs q10.1.t)])]) rfl rfl (by cases g24 <;> rfl) (fun h => by cases g24 <;> first | rfl | exact absurd h (by decide)) ?_
    refine AL.gv good (d := 135) (c := (!g24)) (v := .int .i64 a0) (rd := []) rfl rfl (by cases g24 <;> rfl) (fun h => by cases g24 <;> first | rfl | exact absurd h (by decide)) ?_
    refine AL.gv good (d := 136) (c := (!g24)) (v := .int .i64 (IntKind.i64.wrap (0 - a0))) (rd := []) rfl rfl (by cases g24 <;> rfl) (fun h => by cases g24 <;> first | rfl | exact absurd h (by decide)) ?_
    refine AL.gv good (d := 137) (c := (!g24)) (v := .bool (q10.1.i != (IntKind.i64.wrap (0 - a0)))) (rd := []) rfl rfl (by cases g24 <;> rfl) (fun h => by cases g24 <;> first | rfl | exact absurd h (by decide)) ?_
    refine AL.v good (d := 138) (v := .bool (g24 || (q10.1.i != (IntKind.i64.wrap (0 - a0))))) (rd := []) rfl rfl rfl (by cases g24 <;> rfl) ?_
    refine AL.vb good (d := 139) (b := (g24 || (q10.1.i != (IntKind.i64.wrap (0 - a0))))) rfl rfl rfl rfl (fun g26 h27 => ?_)
    refine AL.gv good (d := 140) (c := (!g26)) (v := .ptr 19 2) (rd := []) rfl rfl (by cases g26 <;> rfl) (fun h => by cases g26 <;> first | rfl | exact absurd h (by decide)) ?_
    refine AL.gv good (d := 141) (c := (!g26)) (v := .bool q16.1.b) (rd := [(19, .box 24 [.int .i64 q16.1.kind, .int .i64 q16.1.i, .bool q16.1.b, .str q16.1.s, .sl .ro 5 (encs q16.1.t)])]) rfl rfl (by cases g26 <;> rfl) (fun h => by cases g26 <;> first | rfl | exact absurd h (by decide)) ?_
    refine AL.gv good (d := 142) (c := (!g26)) (v := .int .i64 a0) (rd := []) rfl rfl (by cases g26 <;> rfl) (fun h => by cases g26 <;> first | rfl | exact absurd h (by decide)) ?_
    refine AL.gv good (d := 143) (c := (!g26)) (v := .int .i64 a1) (rd := []) rfl rfl (by cases g26 <;> rfl) (fun h => by cases g26 <;> first | rfl | exact absurd h (by decide)) ?_
    refine AL.gv good (d := 144) (c := (!g26)) (v := .bool (decide (a0 < a1))) (rd := []) rfl rfl (by cases g26 <;> rfl) (fun h => by cases g26 <;> first | rfl | exact absurd h (by decide)) ?_
    refine AL.gv good (d := 145) (c := (!g26)) (v := .bool (q16.1.b != (decide (a0 < a1)))) (rd := []) rfl rfl (by cases g26 <;> rfl) (fun h => by cases g26 <;> first | rfl | exact absurd h (by decide)) ?_
    refine AL.v good (d := 146) (v := .bool (g26 || (q16.1.b != (decide (a0 < a1))))) (rd := []) rfl rfl rfl (by cases g26 <;> rfl) ?_
    subst h19 h21 h23 h25 h27
    refine AW.if rfl (fun h28 => ?_) (fun h28 => ?_)
    · replace hr := cnd_t h28 hr
      refine AW.seq ?_
      refine AW.region (M := fun _ => true) ?_
      refine AL.v good (d := 4) (v := .bool false) rfl rfl rfl rfl ?_
      refine AW.ret ?_
      obtain rfl := Option.some.inj hr
      exact RetQ.w good (.inr rfl) rfl rfl (Wv.refl _) (by simp [pureA, pureL, pureR, inA, inL, inR, inO, idsIn, encs_pure, enxs_pure, enys_pure, valC_pure, exC_pure, tyC_pure])
    · replace hr := cnd_f h28 hr
      refine AW.skip ?_
      refine AW.seq ?_
      refine AW.seq ?_
      refine AW.region (M := fun _ => true) ?_
      refine AL.v good (d := 147) (v := .int .i64 a1) rfl rfl rfl rfl ?_
      refine AL.v good (d := 148) (v := .bool (a1 == 0)) rfl rfl rfl rfl ?_
      refine AW.if rfl (fun h29 => ?_) (fun h29 => ?_)
      · replace hr := cnd_t h29 hr
        refine AW.seq ?_
        refine AW.region (M := fun _ => true) ?_
        refine AL.v good (d := 149) (v := .int .i64 q12.2) rfl rfl rfl rfl ?_
        refine AL.v good (d := 150) (v := .bool (q12.2 == 8)) rfl rfl rfl rfl ?_
        refine AL.vb good (d := 151) (b := (q12.2 == 8)) rfl rfl rfl rfl (fun g30 h31 => ?_)
        refine AL.gv good (d := 152) (c := g30) (v := .int .i64 q14.2) (rd := []) rfl rfl (by cases g30 <;> rfl) (fun h => by cases g30 <;> first | rfl | exact absurd h (by decide)) ?_
        refine AL.gv good (d := 153) (c := g30) (v := .bool (q14.2 == 8)) (rd := []) rfl rfl (by cases g30 <;> rfl) (fun h => by cases g30 <;> first | rfl | exact absurd h (by decide)) ?_
        refine AL.v good (d := 154) (v := .bool (g30 && (q14.2 == 8))) (rd := []) rfl rfl rfl (by cases g30 <;> rfl) ?_
        refine AL.v good (d := 4) (v := .bool (g30 && (q14.2 == 8))) rfl rfl rfl rfl ?_
        subst h31
        refine AW.ret ?_
        obtain rfl := Option.some.inj hr
        exact RetQ.w good (.inr rfl) rfl rfl (Wv.refl _) (by simp [pureA, pureL, pureR, inA, inL, inR, inO, idsIn, encs_pure, enxs_pure, enys_pure, valC_pure, exC_pure, tyC_pure])
      · replace hr := cnd_f h29 hr
        refine AW.skip ?_
        refine AW.seq ?_
        refine AW.region (M := fun _ => true) ?_
        refine AL.v good (d := 155) (v := .int .i64 q12.2) rfl rfl rfl rfl ?_
        refine AL.v good (d := 156) (v := .int .i64 q14.2) rfl rfl rfl rfl ?_
        refine AL.v good (d := 157) (v := .int .i64 (IntKind.i64.wrap (q12.2 + q14.2))) rfl rfl rfl rfl ?_
        refine AL.v good (d := 158) (v := .bool ((IntKind.i64.wrap (q12.2 + q14.2)) == 0)) rfl rfl rfl rfl ?_
        refine AL.vb good (d := 159) (b := ((IntKind.i64.wrap (q12.2 + q14.2)) == 0)) rfl rfl rfl rfl (fun g32 h33 => ?_)
        refine AL.gv good (d := 160) (c := g32) (v := .ptr 15 1) (rd := []) rfl rfl (by cases g32 <;> rfl) (fun h => by cases g32 <;> first | rfl | exact absurd h (by decide)) ?_
        refine AL.gv good (d := 161) (c := g32) (v := .int .i64 q12.1.i) (rd := [(15, .box 24 [.int .i64 q12.1.kind, .int .i64 q12.1.i, .bool q12.1.b, .str q12.1.s, .sl .ro 5 (encs q12.1.t)])]) rfl rfl (by cases g32 <;> rfl) (fun h => by cases g32 <;> first | rfl | exact absurd h (by decide)) ?_
        refine AL.gv good (d := 162) (c := g32) (v := .int .i64 a1) (rd := []) rfl rfl (by cases g32 <;> rfl) (fun h => by cases g32 <;> first | rfl | exact absurd h (by decide)) ?_
        refine AL.gv good (d := 163) (c := g32) (v := .int .i64 (IntKind.i64.wrap (q12.1.i * a1))) (rd := []) rfl rfl (by cases g32 <;> rfl) (fun h => by cases g32 <;> first | rfl | exact absurd h (by decide)) ?_
        refine AL.gv good (d := 164) (c := g32) (v := .ptr 17 1) (rd := []) rfl rfl (by cases g32 <;> rfl) (fun h => by cases g32 <;> first | rfl | exact absurd h (by decide)) ?_
        refine AL.gv good (d := 165) (c := g32) (v := .int .i64 q14.1.i) (rd := [(17, .box 24 [.int .i64 q14.1.kind, .int .i64 q14.1.i, .bool q14.1.b, .str q14.1.s, .sl .ro 5 (encs q14.1.t)])]) rfl rfl (by cases g32 <;> rfl) (fun h => by cases g32 <;> first | rfl | exact absurd h (by decide)) ?_
        refine AL.gv good (d := 166) (c := g32) (v := .int .i64 (IntKind.i64.wrap ((IntKind.i64.wrap (q12.1.i * a1)) + q14.1.i))) (rd := []) rfl rfl (by cases g32 <;> rfl) (fun h => by cases g32 <;> first | rfl | exact absurd h (by decide)) ?_
        refine AL.gv good (d := 167) (c := g32) (v := .int .i64 a0) (rd := []) rfl rfl (by cases g32 <;> rfl) (fun h => by cases g32 <;> first | rfl | exact absurd h (by decide)) ?_
        refine AL.gv good (d := 168) (c := g32) (v := .bool ((IntKind.i64.wrap ((IntKind.i64.wrap (q12.1.i * a1)) + q14.1.i)) == a0)) (rd := []) rfl rfl (by cases g32 <;> rfl) (fun h => by cases g32 <;> first | rfl | exact absurd h (by decide)) ?_
        refine AL.v good (d := 169) (v := .bool (g32 && ((IntKind.i64.wrap ((IntKind.i64.wrap (q12.1.i * a1)) + q14.1.i)) == a0))) (rd := []) rfl rfl rfl (by cases g32 <;> rfl) ?_
        refine AL.vb good (d := 170) (b := (g32 && ((IntKind.i64.wrap ((IntKind.i64.wrap (q12.1.i * a1)) + q14.1.i)) == a0))) rfl rfl rfl rfl (fun g34 h35 => ?_)
        refine AL.gv good (d := 171) (c := g34) (v := .ptr 17 1) (rd := []) rfl rfl (by cases g34 <;> rfl) (fun h => by cases g34 <;> first | rfl | exact absurd h (by decide)) ?_
        refine AL.gv good (d := 172) (c := g34) (v := .int .i64 q14.1.i) (rd := [(17, .box 24 [.int .i64 q14.1.kind, .int .i64 q14.1.i, .bool q14.1.b, .str q14.1.s, .sl .ro 5 (encs q14.1.t)])]) rfl rfl (by cases g34 <;> rfl) (fun h => by cases g34 <;> first | rfl | exact absurd h (by decide)) ?_
        refine AL.gv good (d := 173) (c := g34) (v := .bool (q14.1.i == 0)) (rd := []) rfl rfl (by cases g34 <;> rfl) (fun h => by cases g34 <;> first | rfl | exact absurd h (by decide)) ?_
        refine AL.gvb good (d := 174) (c := g34) (r := (q14.1.i == 0)) (rd := []) rfl rfl (by cases g34 <;> rfl) (fun h => by cases g34 <;> first | rfl | exact absurd h (by decide)) (fun g36 h37 => ?_)
        refine AL.gv good (d := 175) (c := (g34 && (!g36))) (v := .ptr 17 1) (rd := []) rfl rfl (by cases g34 <;> cases g36 <;> rfl) (fun h => by cases g34 <;> cases g36 <;> first | rfl | exact absurd h (by decide)) ?_
        refine AL.gv good (d := 176) (c := (g34 && (!g36))) (v := .int .i64 q14.1.i) (rd := [(17, .box 24 [.int .i64 q14.1.kind, .int .i64 q14.1.i, .bool q14.1.b, .str q14.1.s, .sl .ro 5 (encs q14.1.t)])]) rfl rfl (by cases g34 <;> cases g36 <;> rfl) (fun h => by cases g34 <;> cases g36 <;> first | rfl | exact absurd h (by decide)) ?_
        refine AL.gv good (d := 177) (c := (g34 && (!g36))) (v := .bool (decide (q14.1.i < 0))) (rd := []) rfl rfl (by cases g34 <;> cases g36 <;> rfl) (fun h => by cases g34 <;> cases g36 <;> first | rfl | exact absurd h (by decide)) ?_
        refine AL.gv good (d := 178) (c := (g34 && (!g36))) (v := .int .i64 a0) (rd := []) rfl rfl (by cases g34 <;> cases g36 <;> rfl) (fun h => by cases g34 <;> cases g36 <;> first | rfl | exact absurd h (by decide)) ?_
        refine AL.gv good (d := 179) (c := (g34 && (!g36))) (v := .bool (decide (a0 < 0))) (rd := []) rfl rfl (by cases g34 <;> cases g36 <;> rfl) (fun h => by cases g34 <;> cases g36 <;> first | rfl | exact absurd h (by decide)) ?_
        refine AL.gv good (d := 180) (c := (g34 && (!g36))) (v := .bool ((decide (q14.1.i < 0)) == (decide (a0 < 0)))) (rd := []) rfl rfl (by cases g34 <;> cases g36 <;> rfl) (fun h => by cases g34 <;> cases g36 <;> first | rfl | exact absurd h (by decide)) ?_
        refine AL.gv good (d := 181) (c := g34) (v := .bool (g36 || ((decide (q14.1.i < 0)) == (decide (a0 < 0))))) (rd := []) rfl rfl (by cases g34 <;> cases g36 <;> rfl) (fun h => by cases g34 <;> cases g36 <;> first | rfl | exact absurd h (by decide)) ?_
        refine AL.v good (d := 182) (v := .bool (g34 && (g36 || ((decide (q14.1.i < 0)) == (decide (a0 < 0)))))) (rd := []) rfl rfl rfl (by cases g34 <;> rfl) ?_
        refine AL.v good (d := 4) (v := .bool (g34 && (g36 || ((decide (q14.1.i < 0)) == (decide (a0 < 0)))))) rfl rfl rfl rfl ?_
        subst h33 h35 h37
        refine AW.ret ?_
        obtain rfl := Option.some.inj hr
        exact RetQ.w good (.inr rfl) rfl rfl (Wv.refl _) (by simp [pureA, pureL, pureR, inA, inL, inR, inO, idsIn, encs_pure, enxs_pure, enys_pure, valC_pure, exC_pure, tyC_pure])

def s_f6 (n : Nat) (a0 : ByteArray) (a1 : ByteArray) : Option Bool :=
  (bif (!true) then some false else (bif ((decide ((a0.size : Int) > 255)) || (decide ((a1.size : Int) > 255))) then some true else ((tupS [(Val.mk 3 0 false a0 []), (Val.mk 3 0 false a1 [])]).bind fun q5 => ((evalS (Ex.mk ⟨#[99, 97, 116]⟩ (Val.mk 0 0 false ⟨#[]⟩ []) 0 [(Ex.mk ⟨#[97, 116]⟩ (Val.mk 0 0 false ⟨#[]⟩ []) 0 [(Ex.mk ⟨#[120]⟩ (Val.mk 0 0 false ⟨#[]⟩ []) 0 [])]), (Ex.mk ⟨#[97, 116]⟩ (Val.mk 0 0 false ⟨#[]⟩ []) 1 [(Ex.mk ⟨#[120]⟩ (Val.mk 0 0 false ⟨#[]⟩ []) 0 [])])]) q5).bind fun q7 => ((evalS (Ex.mk ⟨#[108, 101, 110]⟩ (Val.mk 0 0 false ⟨#[]⟩ []) 0 [(Ex.mk ⟨#[97, 116]⟩ (Val.mk 0 0 false ⟨#[]⟩ []) 0 [(Ex.mk ⟨#[120]⟩ (Val.mk 0 0 false ⟨#[]⟩ []) 0 [])])]) q5).bind fun q9 => ((evalS (Ex.mk ⟨#[108, 116]⟩ (Val.mk 0 0 false ⟨#[]⟩ []) 0 [(Ex.mk ⟨#[97, 116]⟩ (Val.mk 0 0 false ⟨#[]⟩ []) 0 [(Ex.mk ⟨#[120]⟩ (Val.mk 0 0 false ⟨#[]⟩ []) 0 [])]), (Ex.mk ⟨#[97, 116]⟩ (Val.mk 0 0 false ⟨#[]⟩ []) 1 [(Ex.mk ⟨#[120]⟩ (Val.mk 0 0 false ⟨#[]⟩ []) 0 [])])]) q5).bind fun q11 => ((evalS (Ex.mk ⟨#[101, 113]⟩ (Val.mk 0 0 false ⟨#[]⟩ []) 0 [(Ex.mk ⟨#[97, 116]⟩ (Val.mk 0 0 false ⟨#[]⟩ []) 0 [(Ex.mk ⟨#[120]⟩ (Val.mk 0 0 false ⟨#[]⟩ []) 0 [])]), (Ex.mk ⟨#[97, 116]⟩ (Val.mk 0 0 false ⟨#[]⟩ []) 1 [(Ex.mk ⟨#[120]⟩ (Val.mk 0 0 false ⟨#[]⟩ []) 0 [])])]) q5).bind fun q13 => (bif (((((IntKind.i64.wrap ((IntKind.i64.wrap (q9.2 + q11.2)) + q13.2)) != 0) || (q9.1.i != (a0.size : Int))) || (q11.1.b != (Op.bytesLess a0.data.toList a1.data.toList))) || (q13.1.b != (a0.data.toList == a1.data.toList))) then some false else (bif (decide ((IntKind.i64.wrap ((a0.size : Int) + (a1.size : Int))) > 255)) then some (q7.2 == 4) else (bif (q7.2 == 0) then (if a0.size + a1.size ≤ 1000000 then some (q7.1.s.data.toList == (a0 ++ a1).data.toList) else none) else some false))))))))))

theorem w_f6 (n : Nat) (a0 : ByteArray) (a1 : ByteArray) (r : Bool) (hr : s_f6 n a0 a1 = some r) : ACall Try.prog 6 [.str a0, .str a1] (.bool r) := by
  refine ACall.go [(0, .str a0), (1, .str a1)] Try.func6 rfl Try.ntmps6 rfl rfl (by simp [pureA, pureL, pureR, inA, inL, inR, inO, idsIn, encs_pure, enxs_pure, enys_pure, valC_pure, exC_pure, tyC_pure]) ?_
  rw [s_f6] at hr
  refine AW.seq ?_
  refine AW.region (M := fun _ => true) ?_
  refine AL.v good (d := 4) (v := .bool false) rfl rfl rfl rfl ?_
  refine AW.seq ?_
  refine AW.seq ?_
  refine AW.region (M := fun _ => true) ?_
  refine AL.cw good (d := 16) (xs := []) (res := .bool true) rfl rfl rfl rfl rfl rfl rfl (w16) trivial (by simp [pureA, pureL, pureR, inA, inL, inR, inO, idsIn, encs_pure, enxs_pure, enys_pure, valC_pure, exC_pure, tyC_pure]) ?_
  refine AL.v good (d := 17) (v := .bool (!true)) rfl rfl rfl rfl ?_
  refine AW.if rfl (fun h1 => ?_) (fun h1 => ?_)
  · replace hr := cnd_t h1 hr
    refine AW.seq ?_
    refine AW.region (M := fun _ => true) ?_
    refine AL.v good (d := 4) (v := .bool false) rfl rfl rfl rfl ?_
    refine AW.ret ?_
    obtain rfl := Option.some.inj hr
    exact RetQ.w good (.inr rfl) rfl rfl (Wv.refl _) (by simp [pureA, pureL, pureR, inA, inL, inR, inO, idsIn, encs_pure, enxs_pure, enys_pure, valC_pure, exC_pure, tyC_pure])
  · replace hr := cnd_f h1 hr
    refine AW.skip ?_
    refine AW.seq ?_
    refine AW.seq ?_
    refine AW.region (M := fun _ => true) ?_
    refine AL.v good (d := 18) (v := .str a0) rfl rfl rfl rfl ?_
    refine AL.v good (d := 19) (v := .int .i64 (a0.size : Int)) rfl rfl rfl rfl ?_
    refine AL.v good (d := 20) (v := .bool (decide ((a0.size : Int) > 255))) rfl rfl rfl rfl ?_
    refine AL.vb good (d := 21) (b := (decide ((a0.size : Int) > 255))) rfl rfl rfl rfl (fun g2 h3 => ?_)
    refine AL.gv good (d := 22) (c := (!g2)) (v := .str a1) (rd := []) rfl rfl (by cases g2 <;> rfl) (fun h => by cases g2 <;> first | rfl | exact absurd h (by decide)) ?_
    refine AL.gv good (d := 23) (c := (!g2)) (v := .int .i64 (a1.size : Int)) (rd := []) rfl rfl (by cases g2 <;> rfl) (fun h => by cases g2 <;> first | rfl | exact absurd h (by decide)) ?_
    refine AL.gv good (d := 24) (c := (!g2)) (v := .bool (decide ((a1.size : Int) > 255))) (rd := []) rfl rfl (by cases g2 <;> rfl) (fun h => by cases g2 <;> first | rfl | exact absurd h (by decide)) ?_
    refine AL.v good (d := 25) (v := .bool (g2 || (decide ((a1.size : Int) > 255)))) (rd := []) rfl rfl rfl (by cases g2 <;> rfl) ?_
    subst h3
    refine AW.if rfl (fun h4 => ?_) (fun h4 => ?_)
    · replace hr := cnd_t h4 hr
      refine AW.seq ?_
      refine AW.region (M := fun _ => true) ?_
      refine AL.v good (d := 4) (v := .bool true) rfl rfl rfl rfl ?_
      refine AW.ret ?_
      obtain rfl := Option.some.inj hr
      exact RetQ.w good (.inr rfl) rfl rfl (Wv.refl _) (by simp [pureA, pureL, pureR, inA, inL, inR, inO, idsIn, encs_pure, enxs_pure, enys_pure, valC_pure, exC_pure, tyC_pure])
    · replace hr := cnd_f h4 hr
      refine AW.skip ?_
      refine AW.seq ?_
      refine AW.region (M := fun _ => true) ?_
      refine AL.v good (d := 26) (v := .str a0) rfl rfl rfl rfl ?_
      refine AL.cw good (d := 27) (xs := [.str a0]) (res := .agg [.int .i64 3, .int .i64 0, .bool false, .str a0, .sl .ro 5 (encs [])]) rfl rfl rfl rfl rfl rfl rfl (w_f33 a0) ⟨(Wv.refl _), trivial⟩ (by simp [pureA, pureL, pureR, inA, inL, inR, inO, idsIn, encs_pure, enxs_pure, enys_pure, valC_pure, exC_pure, tyC_pure]) ?_
      refine AL.v good (d := 28) (v := .str a1) rfl rfl rfl rfl ?_
      refine AL.cw good (d := 29) (xs := [.str a1]) (res := .agg [.int .i64 3, .int .i64 0, .bool false, .str a1, .sl .ro 5 (encs [])]) rfl rfl rfl rfl rfl rfl rfl (w_f33 a1) ⟨(Wv.refl _), trivial⟩ (by simp [pureA, pureL, pureR, inA, inL, inR, inO, idsIn, encs_pure, enxs_pure, enys_pure, valC_pure, exC_pure, tyC_pure]) ?_
      refine AL.lit good (d := 30) (rows := [[.int .i64 3, .int .i64 0, .bool false, .str a0, .sl .ro 5 (encs [])], [.int .i64 3, .int .i64 0, .bool false, .str a1, .sl .ro 5 (encs [])]]) rfl rfl rfl rfl rfl rfl rfl rfl rfl 0 rfl ?_
      obtain ⟨q5, h6, hr⟩ := bnd1 hr
      refine AL.cw good (d := 31) (xs := [.sl .ro 5 (encs [(Val.mk 3 0 false a0 []), (Val.mk 3 0 false a1 [])])]) (res := .agg [.int .i64 q5.kind, .int .i64 q5.i, .bool q5.b, .str q5.s, .sl .ro 5 (encs q5.t)]) rfl rfl rfl rfl rfl rfl rfl (w_tup h6) ⟨⟨.inr rfl, (WvR_encs ⟨⟨Wv.refl _, Wv.refl _, Wv.refl _, Wv.refl _, Wv.refl _, trivial⟩, ⟨Wv.refl _, Wv.refl _, Wv.refl _, Wv.refl _, Wv.refl _, trivial⟩, trivial⟩), .inl rfl⟩, trivial⟩ (by simp [pureA, pureL, pureR, inA, inL, inR, inO, idsIn, encs_pure, enxs_pure, enys_pure, valC_pure, exC_pure, tyC_pure]) ?_
      refine AL.alc good (d := 5) rfl rfl rfl rfl rfl 1 rfl ?_
      refine AL.st2 good (c2 := [.int .i64 q5.kind, .int .i64 q5.i, .bool q5.b, .str q5.s, .sl .ro 5 (encs q5.t)]) rfl rfl rfl rfl rfl rfl rfl rfl rfl rfl rfl rfl ?_
      refine AW.seq ?_
      refine AW.region (M := fun _ => true) ?_
      refine AL.cw good (d := 32) (xs := []) (res := .agg [.str ⟨#[120]⟩, .int .i64 0, .int .i64 0, .bool false, .str ⟨#[]⟩, .sl .ro 5 (encs []), .int .i64 0, .sl .ro 8 (enxs [])]) rfl rfl rfl rfl rfl rfl rfl (w_f29) trivial (by simp [pureA, pureL, pureR, inA, inL, inR, inO, idsIn, encs_pure, enxs_pure, enys_pure, valC_pure, exC_pure, tyC_pure]) ?_
      refine AL.lit good (d := 33) (rows := [[.str ⟨#[120]⟩, .int .i64 0, .int .i64 0, .bool false, .str ⟨#[]⟩, .sl .ro 5 (encs []), .int .i64 0, .sl .ro 8 (enxs [])]]) rfl rfl rfl rfl rfl rfl rfl rfl rfl 2 rfl ?_
      refine AL.bld good (d := 34) (l := [.str ⟨#[97, 116]⟩, .int .i64 0, .int .i64 0, .bool false, .str ⟨#[]⟩, .sl .nil 0 [], .int .i64 0, .sl (.own 2) 8 [[.str ⟨#[120]⟩, .int .i64 0, .int .i64 0, .bool false, .str ⟨#[]⟩, .sl .ro 5 (encs []), .int .i64 0, .sl .ro 8 (enxs [])]]]) rfl rfl rfl rfl rfl rfl rfl ?_
      refine AL.alc good (d := 6) rfl rfl rfl rfl rfl 3 rfl ?_
      refine AL.st2 good (c2 := [.str ⟨#[97, 116]⟩, .int .i64 0, .int .i64 0, .bool false, .str ⟨#[]⟩, .sl .nil 0 [], .int .i64 0, .sl (.own 2) 8 [[.str ⟨#[120]⟩, .int .i64 0, .int .i64 0, .bool false, .str ⟨#[]⟩, .sl .ro 5 (encs []), .int .i64 0, .sl .ro 8 (enxs [])]]]) rfl rfl rfl rfl rfl rfl rfl rfl rfl rfl rfl rfl ?_
      refine AW.seq ?_
      refine AW.region (M := fun _ => true) ?_
      refine AL.cw good (d := 35) (xs := []) (res := .agg [.str ⟨#[120]⟩, .int .i64 0, .int .i64 0, .bool false, .str ⟨#[]⟩, .sl .ro 5 (encs []), .int .i64 0, .sl .ro 8 (enxs [])]) rfl rfl rfl rfl rfl rfl rfl (w_f29) trivial (by simp [pureA, pureL, pureR, inA, inL, inR, inO, idsIn, encs_pure, enxs_pure, enys_pure, valC_pure, exC_pure, tyC_pure]) ?_
      refine AL.lit good (d := 36) (rows := [[.str ⟨#[120]⟩, .int .i64 0, .int .i64 0, .bool false, .str ⟨#[]⟩, .sl .ro 5 (encs []), .int .i64 0, .sl .ro 8 (enxs [])]]) rfl rfl rfl rfl rfl rfl rfl rfl rfl 4 rfl ?_
      refine AL.bld good (d := 37) (l := [.str ⟨#[97, 116]⟩, .int .i64 0, .int .i64 0, .bool false, .str ⟨#[]⟩, .sl .nil 0 [], .int .i64 1, .sl (.own 4) 8 [[.str ⟨#[120]⟩, .int .i64 0, .int .i64 0, .bool false, .str ⟨#[]⟩, .sl .ro 5 (encs []), .int .i64 0, .sl .ro 8 (enxs [])]]]) rfl rfl rfl rfl rfl rfl rfl ?_
      refine AL.alc good (d := 7) rfl rfl rfl rfl rfl 5 rfl ?_
      refine AL.st2 good (c2 := [.str ⟨#[97, 116]⟩, .int .i64 0, .int .i64 0, .bool false, .str ⟨#[]⟩, .sl .nil 0 [], .int .i64 1, .sl (.own 4) 8 [[.str ⟨#[120]⟩, .int .i64 0, .int .i64 0, .bool false, .str ⟨#[]⟩, .sl .ro 5 (encs []), .int .i64 0, .sl .ro 8 (enxs [])]]]) rfl rfl rfl rfl rfl rfl rfl rfl rfl rfl rfl rfl ?_
      refine AW.seq ?_
      refine AW.draw (M := fun i => Nat.beq i 10) good.wide (by kernel_rfl) ?_
      refine AL.v good (d := 39) (v := .agg [.str ⟨#[97, 116]⟩, .int .i64 0, .int .i64 0, .bool false, .str ⟨#[]⟩, .sl .nil 0 [], .int .i64 0, .sl (.own 2) 8 [[.str ⟨#[120]⟩, .int .i64 0, .int .i64 0, .bool false, .str ⟨#[]⟩, .sl .ro 5 (encs []), .int .i64 0, .sl .ro 8 (enxs [])]]]) rfl rfl rfl rfl ?_
      refine AL.v good (d := 40) (v := .agg [.str ⟨#[97, 116]⟩, .int .i64 0, .int .i64 0, .bool false, .str ⟨#[]⟩, .sl .nil 0 [], .int .i64 1, .sl (.own 4) 8 [[.str ⟨#[120]⟩, .int .i64 0, .int .i64 0, .bool false, .str ⟨#[]⟩, .sl .ro 5 (encs []), .int .i64 0, .sl .ro 8 (enxs [])]]]) rfl rfl rfl rfl ?_
      refine AL.lit good (d := 41) (rows := [[.str ⟨#[97, 116]⟩, .int .i64 0, .int .i64 0, .bool false, .str ⟨#[]⟩, .sl .nil 0 [], .int .i64 0, .sl (.own 2) 8 [[.str ⟨#[120]⟩, .int .i64 0, .int .i64 0, .bool false, .str ⟨#[]⟩, .sl .ro 5 (encs []), .int .i64 0, .sl .ro 8 (enxs [])]]], [.str ⟨#[97, 116]⟩, .int .i64 0, .int .i64 0, .bool false, .str ⟨#[]⟩, .sl .nil 0 [], .int .i64 1, .sl (.own 4) 8 [[.str ⟨#[120]⟩, .int .i64 0, .int .i64 0, .bool false, .str ⟨#[]⟩, .sl .ro 5 (encs []), .int .i64 0, .sl .ro 8 (enxs [])]]]]) rfl rfl rfl rfl rfl rfl rfl rfl rfl 6 rfl ?_
      refine AL.cw good (d := 42) (xs := [.str ⟨#[99, 97, 116]⟩, .sl .ro 8 (enxs [(Ex.mk ⟨#[97, 116]⟩ (Val.mk 0 0 false ⟨#[]⟩ []) 0 [(Ex.mk ⟨#[120]⟩ (Val.mk 0 0 false ⟨#[]⟩ []) 0 [])]), (Ex.mk ⟨#[97, 116]⟩ (Val.mk 0 0 false ⟨#[]⟩ []) 1 [(Ex.mk ⟨#[120]⟩ (Val.mk 0 0 false ⟨#[]⟩ []) 0 [])])])]) (res := .agg [.str ⟨#[99, 97, 116]⟩, .int .i64 0, .int .i64 0, .bool false, .str ⟨#[]⟩, .sl .ro 5 (encs []), .int .i64 0, .sl .ro 8 (enxs [(Ex.mk ⟨#[97, 116]⟩ (Val.mk 0 0 false ⟨#[]⟩ []) 0 [(Ex.mk ⟨#[120]⟩ (Val.mk 0 0 false ⟨#[]⟩ []) 0 [])]), (Ex.mk ⟨#[97, 116]⟩ (Val.mk 0 0 false ⟨#[]⟩ []) 1 [(Ex.mk ⟨#[120]⟩ (Val.mk 0 0 false ⟨#[]⟩ []) 0 [])])])]) rfl rfl rfl rfl rfl rfl rfl (w_f30 ⟨#[99, 97, 116]⟩ [(Ex.mk ⟨#[97, 116]⟩ (Val.mk 0 0 false ⟨#[]⟩ []) 0 [(Ex.mk ⟨#[120]⟩ (Val.mk 0 0 false ⟨#[]⟩ []) 0 [])]), (Ex.mk ⟨#[97, 116]⟩ (Val.mk 0 0 false ⟨#[]⟩ []) 1 [(Ex.mk ⟨#[120]⟩ (Val.mk 0 0 false ⟨#[]⟩ []) 0 [])])]) ⟨(Wv.refl _), ⟨.inr rfl, (WvR_enxs ⟨⟨Wv.refl _, Wv.refl _, Wv.refl _, Wv.refl _, Wv.refl _, ⟨.inr rfl, trivial, .inr rfl⟩, Wv.refl _, ⟨.inr rfl, (WvR_enxs ⟨⟨Wv.refl _, Wv.refl _, Wv.refl _, Wv.refl _, Wv.refl _, Wv.refl _, Wv.refl _, Wv.refl _, trivial⟩, trivial⟩), .inl rfl⟩, trivial⟩, ⟨Wv.refl _, Wv.refl _, Wv.refl _, Wv.refl _, Wv.refl _, ⟨.inr rfl, trivial, .inr rfl⟩, Wv.refl _, ⟨.inr rfl, (WvR_enxs ⟨⟨Wv.refl _, Wv.refl _, Wv.refl _, Wv.refl _, Wv.refl _, Wv.refl _, Wv.refl _, Wv.refl _, trivial⟩, trivial⟩), .inl rfl⟩, trivial⟩, trivial⟩), .inl rfl⟩, trivial⟩ (by simp [pureA, pureL, pureR, inA, inL, inR, inO, idsIn, encs_pure, enxs_pure, enys_pure, valC_pure, exC_pure, tyC_pure]) ?_
      refine AL.v good (d := 43) (v := .agg [.int .i64 q5.kind, .int .i64 q5.i, .bool q5.b, .str q5.s, .sl .ro 5 (encs q5.t)]) rfl rfl rfl rfl ?_
      obtain ⟨q7, h8, hr⟩ := bnd1 hr
      refine AL.cw good (d := 44) (xs := [.agg (exC (Ex.mk ⟨#[99, 97, 116]⟩ (Val.mk 0 0 false ⟨#[]⟩ []) 0 [(Ex.mk ⟨#[97, 116]⟩ (Val.mk 0 0 false ⟨#[]⟩ []) 0 [(Ex.mk ⟨#[120]⟩ (Val.mk 0 0 false ⟨#[]⟩ []) 0 [])]), (Ex.mk ⟨#[97, 116]⟩ (Val.mk 0 0 false ⟨#[]⟩ []) 1 [(Ex.mk ⟨#[120]⟩ (Val.mk 0 0 false ⟨#[]⟩ []) 0 [])])])), .agg (valC q5)]) (res := .tup [.agg [.int .i64 q7.1.kind, .int .i64 q7.1.i, .bool q7.1.b, .str q7.1.s, .sl .ro 5 (encs q7.1.t)], .int .i64 q7.2]) rfl rfl rfl rfl rfl rfl rfl (w23 _ _ _ h8) ⟨(Wv.refl _), (Wv.refl _), trivial⟩ (by simp [pureA, pureL, pureR, inA, inL, inR, inO, idsIn, encs_pure, enxs_pure, enys_pure, valC_pure, exC_pure, tyC_pure]) ?_
      refine AL.v good (d := 38) (v := .tup [.agg [.int .i64 q7.1.kind, .int .i64 q7.1.i, .bool q7.1.b, .str q7.1.s, .sl .ro 5 (encs q7.1.t)], .int .i64 q7.2]) rfl rfl rfl rfl ?_
      refine AL.v good (d := 45) (v := .agg [.int .i64 q7.1.kind, .int .i64 q7.1.i, .bool q7.1.b, .str q7.1.s, .sl .ro 5 (encs q7.1.t)]) rfl rfl rfl rfl ?_
      refine AL.v good (d := 46) (v := .int .i64 q7.2) rfl rfl rfl rfl ?_
      refine AL.alc good (d := 8) rfl rfl rfl rfl rfl 7 rfl ?_
      refine AL.st2 good (c2 := [.int .i64 q7.1.kind, .int .i64 q7.1.i, .bool q7.1.b, .str q7.1.s, .sl .ro 5 (encs q7.1.t)]) rfl rfl rfl rfl rfl rfl rfl rfl rfl rfl rfl rfl ?_
      refine AL.v good (d := 9) (v := .int .i64 q7.2) rfl rfl rfl rfl ?_
      refine AW.seq ?_
      refine AW.draw (M := fun i => Nat.beq i 9) good.wide (by kernel_rfl) ?_
      refine AL.v good (d := 48) (v := .agg [.str ⟨#[97, 116]⟩, .int .i64 0, .int .i64 0, .bool false, .str ⟨#[]⟩, .sl .nil 0 [], .int .i64 0, .sl (.own 2) 8 [[.str ⟨#[120]⟩, .int .i64 0, .int .i64 0, .bool false, .str ⟨#[]⟩, .sl .ro 5 (encs []), .int .i64 0, .sl .ro 8 (enxs [])]]]) rfl rfl rfl rfl ?_
      refine AL.lit good (d := 49) (rows := [[.str ⟨#[97, 116]⟩, .int .i64 0, .int .i64 0, .bool false, .str ⟨#[]⟩, .sl .nil 0 [], .int .i64 0, .sl (.own 2) 8 [[.str ⟨#[120]⟩, .int .i64 0, .int .i64 0, .bool false, .str ⟨#[]⟩, .sl .ro 5 (encs []), .int .i64 0, .sl .ro 8 (enxs [])]]]]) rfl rfl rfl rfl rfl rfl rfl rfl rfl 8 rfl ?_
      refine AL.cw good (d := 50) (xs := [.str ⟨#[108, 101, 110]⟩, .sl .ro 8 (enxs [(Ex.mk ⟨#[97, 116]⟩ (Val.mk 0 0 false ⟨#[]⟩ []) 0 [(Ex.mk ⟨#[120]⟩ (Val.mk 0 0 false ⟨#[]⟩ []) 0 [])])])]) (res := .agg [.str ⟨#[108, 101, 110]⟩, .int .i64 0, .int .i64 0, .bool false, .str ⟨#[]⟩, .sl .ro 5 (encs []), .int .i64 0, .sl .ro 8 (enxs [(Ex.mk ⟨#[97, 116]⟩ (Val.mk 0 0 false ⟨#[]⟩ []) 0 [(Ex.mk ⟨#[120]⟩ (Val.mk 0 0 false ⟨#[]⟩ []) 0 [])])])]) rfl rfl rfl rfl rfl rfl rfl (w_f30 ⟨#[108, 101, 110]⟩ [(Ex.mk ⟨#[97, 116]⟩ (Val.mk 0 0 false ⟨#[]⟩ []) 0 [(Ex.mk ⟨#[120]⟩ (Val.mk 0 0 false ⟨#[]⟩ []) 0 [])])]) ⟨(Wv.refl _), ⟨.inr rfl, (WvR_enxs ⟨⟨Wv.refl _, Wv.refl _, Wv.refl _, Wv.refl _, Wv.refl _, ⟨.inr rfl, trivial, .inr rfl⟩, Wv.refl _, ⟨.inr rfl, (WvR_enxs ⟨⟨Wv.refl _, Wv.refl _, Wv.refl _, Wv.refl _, Wv.refl _, Wv.refl _, Wv.refl _, Wv.refl _, trivial⟩, trivial⟩), .inl rfl⟩, trivial⟩, trivial⟩), .inl rfl⟩, trivial⟩ (by simp [pureA, pureL, pureR, inA, inL, inR, inO, idsIn, encs_pure, enxs_pure, enys_pure, valC_pure, exC_pure, tyC_pure]) ?_
      refine AL.v good (d := 51) (v := .agg [.int .i64 q5.kind, .int .i64 q5.i, .bool q5.b, .str q5.s, .sl .ro 5 (encs q5.t)]) rfl rfl rfl rfl ?_
      obtain ⟨q9, h10, hr⟩ := bnd1 hr
      refine AL.cw good (d := 52) (xs := [.agg (exC (Ex.mk ⟨#[108, 101, 110]⟩ (Val.mk 0 0 false ⟨#[]⟩ []) 0 [(Ex.mk ⟨#[97, 116]⟩ (Val.mk 0 0 false ⟨#[]⟩ []) 0 [(Ex.mk ⟨#[120]⟩ (Val.mk 0 0 false ⟨#[]⟩ []) 0 [])])])), .agg (valC q5)]) (res := .tup [.agg [.int .i64 q9.1.kind, .int .i64 q9.1.i, .bool q9.1.b, .str q9.1.s, .sl .ro 5 (encs q9.1.t)], .int .i64 q9.2]) rfl rfl rfl rfl rfl rfl rfl (w23 _ _ _ h10) ⟨(Wv.refl _), (Wv.refl _), trivial⟩ (by simp [pureA, pureL, pureR, inA, inL, inR, inO, idsIn, encs_pure, enxs_pure, enys_pure, valC_pure, exC_pure, tyC_pure]) ?_
      refine AL.v good (d := 47) (v := .tup [.agg [.int .i64 q9.1.kind, .int .i64 q9.1.i, .bool q9.1.b, .str q9.1.s, .sl .ro 5 (encs q9.1.t)], .int .i64 q9.2]) rfl rfl rfl rfl ?_
      refine AL.v good (d := 53) (v := .agg [.int .i64 q9.1.kind, .int .i64 q9.1.i, .bool q9.1.b, .str q9.1.s, .sl .ro 5 (encs q9.1.t)]) rfl rfl rfl rfl ?_
      refine AL.v good (d := 54) (v := .int .i64 q9.2) rfl rfl rfl rfl ?_
      refine AL.alc good (d := 10) rfl rfl rfl rfl rfl 9 rfl ?_
      refine AL.st2 good (c2 := [.int .i64 q9.1.kind, .int .i64 q9.1.i, .bool q9.1.b, .str q9.1.s, .sl .ro 5 (encs q9.1.t)]) rfl rfl rfl rfl rfl rfl rfl rfl rfl rfl rfl rfl ?_
      refine AL.v good (d := 11) (v := .int .i64 q9.2) rfl rfl rfl rfl ?_
      refine AW.seq ?_
      refine AW.draw (M := fun i => Nat.beq i 10) good.wide (by kernel_rfl) ?_
      refine AL.v good (d := 56) (v := .agg [.str ⟨#[97, 116]⟩, .int .i64 0, .int .i64 0, .bool false, .str ⟨#[]⟩, .sl .nil 0 [], .int .i64 0, .sl (.own 2) 8 [[.str ⟨#[120]⟩, .int .i64 0, .int .i64 0, .bool false, .str ⟨#[]⟩, .sl .ro 5 (encs []), .int .i64 0, .sl .ro 8 (enxs [])]]]) rfl rfl rfl rfl ?_
      refine AL.v good (d := 57) (v := .agg [.str ⟨#[97, 116]⟩, .int .i64 0, .int .i64 0, .bool false, .str ⟨#[]⟩, .sl .nil 0 [], .int .i64 1, .sl (.own 4) 8 [[.str ⟨#[120]⟩, .int .i64 0, .int .i64 0, .bool false, .str ⟨#[]⟩, .sl .ro 5 (encs []), .int .i64 0, .sl .ro 8 (enxs [])]]]) rfl rfl rfl rfl ?_
      refine AL.lit good (d := 58) (rows := [[.str ⟨#[97, 116]⟩, .int .i64 0, .int .i64 0, .bool false, .str ⟨#[]⟩, .sl .nil 0 [], .int .i64 0, .sl (.own 2) 8 [[.str ⟨#[120]⟩, .int .i64 0, .int .i64 0, .bool false, .str ⟨#[]⟩, .sl .ro 5 (encs []), .int .i64 0, .sl .ro 8 (enxs [])]]], [.str ⟨#[97, 116]⟩, .int .i64 0, .int .i64 0, .bool false, .str ⟨#[]⟩, .sl .nil 0 [], .int .i64 1, .sl (.own 4) 8 [[.str ⟨#[120]⟩, .int .i64 0, .int .i64 0, .bool false, .str ⟨#[]⟩, .sl .ro 5 (encs []), .int .i64 0, .sl .ro 8 (enxs [])]]]]) rfl rfl rfl rfl rfl rfl rfl rfl rfl 10 rfl ?_
      refine AL.cw good (d := 59) (xs := [.str ⟨#[108, 116]⟩, .sl .ro 8 (enxs [(Ex.mk ⟨#[97, 116]⟩ (Val.mk 0 0 false ⟨#[]⟩ []) 0 [(Ex.mk ⟨#[120]⟩ (Val.mk 0 0 false ⟨#[]⟩ []) 0 [])]), (Ex.mk ⟨#[97, 116]⟩ (Val.mk 0 0 false ⟨#[]⟩ []) 1 [(Ex.mk ⟨#[120]⟩ (Val.mk 0 0 false ⟨#[]⟩ []) 0 [])])])]) (res := .agg [.str ⟨#[108, 116]⟩, .int .i64 0, .int .i64 0, .bool false, .str ⟨#[]⟩, .sl .ro 5 (encs []), .int .i64 0, .sl .ro 8 (enxs [(Ex.mk ⟨#[97, 116]⟩ (Val.mk 0 0 false ⟨#[]⟩ []) 0 [(Ex.mk ⟨#[120]⟩ (Val.mk 0 0 false ⟨#[]⟩ []) 0 [])]), (Ex.mk ⟨#[97, 116]⟩ (Val.mk 0 0 false ⟨#[]⟩ []) 1 [(Ex.mk ⟨#[120]⟩ (Val.mk 0 0 false ⟨#[]⟩ []) 0 [])])])]) rfl rfl rfl rfl rfl rfl rfl (w_f30 ⟨#[108, 116]⟩ [(Ex.mk ⟨#[97, 116]⟩ (Val.mk 0 0 false ⟨#[]⟩ []) 0 [(Ex.mk ⟨#[120]⟩ (Val.mk 0 0 false ⟨#[]⟩ []) 0 [])]), (Ex.mk ⟨#[97, 116]⟩ (Val.mk 0 0 false ⟨#[]⟩ []) 1 [(Ex.mk ⟨#[120]⟩ (Val.mk 0 0 false ⟨#[]⟩ []) 0 [])])]) ⟨(Wv.refl _), ⟨.inr rfl, (WvR_enxs ⟨⟨Wv.refl _, Wv.refl _, Wv.refl _, Wv.refl _, Wv.refl _, ⟨.inr rfl, trivial, .inr rfl⟩, Wv.refl _, ⟨.inr rfl, (WvR_enxs ⟨⟨Wv.refl _, Wv.refl _, Wv.refl _, Wv.refl _, Wv.refl _, Wv.refl _, Wv.refl _, Wv.refl _, trivial⟩, trivial⟩), .inl rfl⟩, trivial⟩, ⟨Wv.refl _, Wv.refl _, Wv.refl _, Wv.refl _, Wv.refl _, ⟨.inr rfl, trivial, .inr rfl⟩, Wv.refl _, ⟨.inr rfl, (WvR_enxs ⟨⟨Wv.refl _, Wv.refl _, Wv.refl _, Wv.refl _, Wv.refl _, Wv.refl _, Wv.refl _, Wv.refl _, trivial⟩, trivial⟩), .inl rfl⟩, trivial⟩, trivial⟩), .inl rfl⟩, trivial⟩ (by simp [pureA, pureL, pureR, inA, inL, inR, inO, idsIn, encs_pure, enxs_pure, enys_pure, valC_pure, exC_pure, tyC_pure]) ?_
      refine AL.v good (d := 60) (v := .agg [.int .i64 q5.kind, .int .i64 q5.i, .bool q5.b, .str q5.s, .sl .ro 5 (encs q5.t)]) rfl rfl rfl rfl ?_
      obtain ⟨q11, h12, hr⟩ := bnd1 hr
      refine AL.cw good (d := 61) (xs := [.agg (exC (Ex.mk ⟨#[108, 116]⟩ (Val.mk 0 0 false ⟨#[]⟩ []) 0 [(Ex.mk ⟨#[97, 116]⟩ (Val.mk 0 0 false ⟨#[]⟩ []) 0 [(Ex.mk ⟨#[120]⟩ (Val.mk 0 0 false ⟨#[]⟩ []) 0 [])]), (Ex.mk ⟨#[97, 116]⟩ (Val.mk 0 0 false ⟨#[]⟩ []) 1 [(Ex.mk ⟨#[120]⟩ (Val.mk 0 0 false ⟨#[]⟩ []) 0 [])])])), .agg (valC q5)]) (res := .tup [.agg [.int .i64 q11.1.kind, .int .i64 q11.1.i, .bool q11.1.b, .str q11.1.s, .sl .ro 5 (encs q11.1.t)], .int .i64 q11.2]) rfl rfl rfl rfl rfl rfl rfl (w23 _ _ _ h12) ⟨(Wv.refl _), (Wv.refl _), trivial⟩ (by simp [pureA, pureL, pureR, inA, inL, inR, inO, idsIn, encs_pure, enxs_pure, enys_pure, valC_pure, exC_pure, tyC_pure]) ?_
      refine AL.v good (d := 55) (v := .tup [.agg [.int .i64 q11.1.kind, .int .i64 q11.1.i, .bool q11.1.b, .str q11.1.s, .sl .ro 5 (encs q11.1.t)], .int .i64 q11.2]) rfl rfl rfl rfl ?_
      refine AL.v good (d := 62) (v := .agg [.int .i64 q11.1.kind, .int .i64 q11.1.i, .bool q11.1.b, .str q11.1.s, .sl .ro 5 (encs q11.1.t)]) rfl rfl rfl rfl ?_
      refine AL.v good (d := 63) (v := .int .i64 q11.2) rfl rfl rfl rfl ?_
      refine AL.alc good (d := 12) rfl rfl rfl rfl rfl 11 rfl ?_
      refine AL.st2 good (c2 := [.int .i64 q11.1.kind, .int .i64 q11.1.i, .bool q11.1.b, .str q11.1.s, .sl .ro 5 (encs q11.1.t)]) rfl rfl rfl rfl rfl rfl rfl rfl rfl rfl rfl rfl ?_
      refine AL.v good (d := 13) (v := .int .i64 q11.2) rfl rfl rfl rfl ?_
      refine AW.seq ?_
      refine AW.draw (M := fun i => Nat.beq i 10) good.wide (by kernel_rfl) ?_
      refine AL.v good (d := 65) (v := .agg [.str ⟨#[97, 116]⟩, .int .i64 0, .int .i64 0, .bool false, .str ⟨#[]⟩, .sl .nil 0 [], .int .i64 0, .sl (.own 2) 8 [[.str ⟨#[120]⟩, .int .i64 0, .int .i64 0, .bool false, .str ⟨#[]⟩, .sl .ro 5 (encs []), .int .i64 0, .sl .ro 8 (enxs [])]]]) rfl rfl rfl rfl ?_
      refine AL.v good (d := 66) (v := .agg [.str ⟨#[97, 116]⟩, .int .i64 0, .int .i64 0, .bool false, .str ⟨#[]⟩, .sl .nil 0 [], .int .i64 1, .sl (.own 4) 8 [[.str ⟨#[120]⟩, .int .i64 0, .int .i64 0, .bool false, .str ⟨#[]⟩, .sl .ro 5 (encs []), .int .i64 0, .sl .ro 8 (enxs [])]]]) rfl rfl rfl rfl ?_
      refine AL.lit good (d := 67) (rows := [[.str ⟨#[97, 116]⟩, .int .i64 0, .int .i64 0, .bool false, .str ⟨#[]⟩, .sl .nil 0 [], .int .i64 0, .sl (.own 2) 8 [[.str ⟨#[120]⟩, .int .i64 0, .int .i64 0, .bool false, .str ⟨#[]⟩, .sl .ro 5 (encs []), .int .i64 0, .sl .ro 8 (enxs [])]]], [.str ⟨#[97, 116]⟩, .int .i64 0, .int .i64 0, .bool false, .str ⟨#[]⟩, .sl .nil 0 [], .int .i64 1, .sl (.own 4) 8 [[.str ⟨#[120]⟩, .int .i64 0, .int .i64 0, .bool false, .str ⟨#[]⟩, .sl .ro 5 (encs []), .int .i64 0, .sl .ro 8 (enxs [])]]]]) rfl rfl rfl rfl rfl rfl rfl rfl rfl 12 rfl ?_
      refine AL.cw good (d := 68) (xs := [.str ⟨#[101, 113]⟩, .sl .ro 8 (enxs [(Ex.mk ⟨#[97, 116]⟩ (Val.mk 0 0 false ⟨#[]⟩ []) 0 [(Ex.mk ⟨#[120]⟩ (Val.mk 0 0 false ⟨#[]⟩ []) 0 [])]), (Ex.mk ⟨#[97, 116]⟩ (Val.mk 0 0 false ⟨#[]⟩ []) 1 [(Ex.mk ⟨#[120]⟩ (Val.mk 0 0 false ⟨#[]⟩ []) 0 [])])])]) (res := .agg [.str ⟨#[101, 113]⟩, .int .i64 0, .int .i64 0, .bool false, .str ⟨#[]⟩, .sl .ro 5 (encs []), .int .i64 0, .sl .ro 8 (enxs [(Ex.mk ⟨#[97, 116]⟩ (Val.mk 0 0 false ⟨#[]⟩ []) 0 [(Ex.mk ⟨#[120]⟩ (Val.mk 0 0 false ⟨#[]⟩ []) 0 [])]), (Ex.mk ⟨#[97, 116]⟩ (Val.mk 0 0 false ⟨#[]⟩ []) 1 [(Ex.mk ⟨#[120]⟩ (Val.mk 0 0 false ⟨#[]⟩ []) 0 [])])])]) rfl rfl rfl rfl rfl rfl rfl (w_f30 ⟨#[101, 113]⟩ [(Ex.mk ⟨#[97, 116]⟩ (Val.mk 0 0 false ⟨#[]⟩ []) 0 [(Ex.mk ⟨#[120]⟩ (Val.mk 0 0 false ⟨#[]⟩ []) 0 [])]), (Ex.mk ⟨#[97, 116]⟩ (Val.mk 0 0 false ⟨#[]⟩ []) 1 [(Ex.mk ⟨#[120]⟩ (Val.mk 0 0 false ⟨#[]⟩ []) 0 [])])]) ⟨(Wv.refl _), ⟨.inr rfl, (WvR_enxs ⟨⟨Wv.refl _, Wv.refl _, Wv.refl _, Wv.refl _, Wv.refl _, ⟨.inr rfl, trivial, .inr rfl⟩, Wv.refl _, ⟨.inr rfl, (WvR_enxs ⟨⟨Wv.refl _, Wv.refl _, Wv.refl _, Wv.refl _, Wv.refl _, Wv.refl _, Wv.refl _, Wv.refl _, trivial⟩, trivial⟩), .inl rfl⟩, trivial⟩, ⟨Wv.refl _, Wv.refl _, Wv.refl _, Wv.refl _, Wv.refl _, ⟨.inr rfl, trivial, .inr rfl⟩, Wv.refl _, ⟨.inr rfl, (WvR_enxs ⟨⟨Wv.refl _, Wv.refl _, Wv.refl _, Wv.refl _, Wv.refl _, Wv.refl _, Wv.refl _, Wv.refl _, trivial⟩, trivial⟩), .inl rfl⟩, trivial⟩, trivial⟩), .inl rfl⟩, trivial⟩ (by simp [pureA, pureL, pureR, inA, inL, inR, inO, idsIn, encs_pure, enxs_pure, enys_pure, valC_pure, exC_pure, tyC_pure]) ?_
      refine AL.v good (d := 69) (v := .agg [.int .i64 q5.kind, .int .i64 q5.i, .bool q5.b, .str q5.s, .sl .ro 5 (encs q5.t)]) rfl rfl rfl rfl ?_
      obtain ⟨q13, h14, hr⟩ := bnd1 hr
      refine AL.cw good (d := 70) (xs := [.agg (exC (Ex.mk ⟨#[101, 113]⟩ (Val.mk 0 0 false ⟨#[]⟩ []) 0 [(Ex.mk ⟨#[97, 116]⟩ (Val.mk 0 0 false ⟨#[]⟩ []) 0 [(Ex.mk ⟨#[120]⟩ (Val.mk 0 0 false ⟨#[]⟩ []) 0 [])]), (Ex.mk ⟨#[97, 116]⟩ (Val.mk 0 0 false ⟨#[]⟩ []) 1 [(Ex.mk ⟨#[120]⟩ (Val.mk 0 0 false ⟨#[]⟩ []) 0 [])])])), .agg (valC q5)]) (res := .tup [.agg [.int .i64 q13.1.kind, .int .i64 q13.1.i, .bool q13.1.b, .str q13.1.s, .sl .ro 5 (encs q13.1.t)], .int .i64 q13.2]) rfl rfl rfl rfl rfl rfl rfl (w23 _ _ _ h14) ⟨(Wv.refl _), (Wv.refl _), trivial⟩ (by simp [pureA, pureL, pureR, inA, inL, inR, inO, idsIn, encs_pure, enxs_pure, enys_pure, valC_pure, exC_pure, tyC_pure]) ?_
      refine AL.v good (d := 64) (v := .tup [.agg [.int .i64 q13.1.kind, .int .i64 q13.1.i, .bool q13.1.b, .str q13.1.s, .sl .ro 5 (encs q13.1.t)], .int .i64 q13.2]) rfl rfl rfl rfl ?_
      refine AL.v good (d := 71) (v := .agg [.int .i64 q13.1.kind, .int .i64 q13.1.i, .bool q13.1.b, .str q13.1.s, .sl .ro 5 (encs q13.1.t)]) rfl rfl rfl rfl ?_
      refine AL.v good (d := 72) (v := .int .i64 q13.2) rfl rfl rfl rfl ?_
      refine AL.alc good (d := 14) rfl rfl rfl rfl rfl 13 rfl ?_
      refine AL.st2 good (c2 := [.int .i64 q13.1.kind, .int .i64 q13.1.i, .bool q13.1.b, .str q13.1.s, .sl .ro 5 (encs q13.1.t)]) rfl rfl rfl rfl rfl rfl rfl rfl rfl rfl rfl rfl ?_
      refine AL.v good (d := 15) (v := .int .i64 q13.2) rfl rfl rfl rfl ?_
      refine AW.seq ?_
      refine AW.seq ?_
      refine AW.region (M := fun _ => true) ?_
      refine AL.v good (d := 73) (v := .int .i64 q9.2) rfl rfl rfl rfl ?_
      refine AL.v good (d := 74) (v := .int .i64 q11.2) rfl rfl rfl rfl ?_
      refine AL.v good (d := 75) (v := .int .i64 (IntKind.i64.wrap (q9.2 + q11.2))) rfl rfl rfl rfl ?_
      refine AL.v good (d := 76) (v := .int .i64 q13.2) rfl rfl rfl rfl ?_
      refine AL.v good (d := 77) (v := .int .i64 (IntKind.i64.wrap ((IntKind.i64.wrap (q9.2 + q11.2)) + q13.2))) rfl rfl rfl rfl ?_
      refine AL.v good (d := 78) (v := .bool ((IntKind.i64.wrap ((IntKind.i64.wrap (q9.2 + q11.2)) + q13.2)) != 0)) rfl rfl rfl rfl ?_
      refine AL.vb good (d := 79) (b := ((IntKind.i64.wrap ((IntKind.i64.wrap (q9.2 + q11.2)) + q13.2)) != 0)) rfl rfl rfl rfl (fun g15 h16 => ?_)
      refine AL.gv good (d := 80) (c := (!g15)) (v := .ptr 9 1) (rd := []) rfl rfl (by cases g15 <;> rfl) (fun h => by cases g15 <;> first | rfl | exact absurd h (by decide)) ?_
      refine AL.gv good (d := 81) (c := (!g15)) (v := .int .i64 q9.1.i) (rd := [(9, .box 24 [.int .i64 q9.1.kind, .int .i64 q9.1.i, .bool q9.1.b, .str q9.1.s, .sl .ro 5 (encs q9.1.t)])]) rfl rfl (by cases g15 <;> rfl) (fun h => by cases g15 <;> first | rfl | exact absurd h (by decide)) ?_
      refine AL.gv good (d := 82) (c := (!g15)) (v := .str a0) (rd := []) rfl rfl (by cases g15 <;> rfl) (fun h => by cases g15 <;> first | rfl | exact absurd h (by decide)) ?_
      refine AL.gv good (d := 83) (c := (!g15)) (v := .int .i64 (a0.size : Int)) (rd := []) rfl rfl (by cases g15 <;> rfl) (fun h => by cases g15 <;> first | rfl | exact absurd h (by decide)) ?_
      refine AL.gv good (d := 84) (c := (!g15)) (v := .bool (q9.1.i != (a0.size : Int))) (rd := []) rfl rfl (by cases g15 <;> rfl) (fun h => by cases g15 <;> first | rfl | exact absurd h (by decide)) ?_
      refine AL.v good (d := 85) (v := .bool (g15 || (q9.1.i != (a0.size : Int)))) (rd := []) rfl rfl rfl (by cases g15 <;> rfl) ?_
      refine AL.vb good (d := 86) (b := (g15 || (q9.1.i != (a0.size : Int)))) rfl rfl rfl rfl (fun g17 h18 => ?_)
      refine AL.gv good (d := 87) (c := (!g17)) (v := .ptr 11 2) (rd := []) rfl rfl (by cases g17 <;> rfl) (fun h => by cases g17 <;> first | rfl | exact absurd h (by decide)) ?_
      refine AL.gv good (d := 88) (c := (!g17)) (v := .bool q11.1.b) (rd := [(11, .box 24 [.int .i64 q11.1.kind, .int .i64 q11.1.i, .bool q11.1.b, .str q11.1.s, .sl .ro 5 (encs q11.1.t)])]) rfl rfl (by cases g17 <;> rfl) (fun h => by cases g17 <;> first | rfl | exact absurd h (by decide)) ?_
      refine AL.gv good (d := 89) (c := (!g17)) (v := .str a0) (rd := []) rfl rfl (by cases g17 <;> rfl) (fun h => by cases g17 <;> first | rfl | exact absurd h (by decide)) ?_
      refine AL.gv good (d := 90) (c := (!g17)) (v := .str a1) (rd := []) rfl rfl (by cases g17 <;> rfl) (fun h => by cases g17 <;> first | rfl | exact absurd h (by decide)) ?_
      refine AL.gsb good (d := 91) (c := (!g17)) (b := (Op.bytesLess a0.data.toList a1.data.toList)) rfl rfl (by cases g17 <;> rfl) rfl (fun h => by cases g17 <;> first | rfl | exact absurd h (by decide)) (fun h => by cases g17 <;> first | rfl | exact absurd h (by decide)) rfl ?_
      refine AL.gv good (d := 92) (c := (!g17)) (v := .bool (q11.1.b != (Op.bytesLess a0.data.toList a1.data.toList))) (rd := []) rfl rfl (by cases g17 <;> rfl) (fun h => by cases g17 <;> first | rfl | exact absurd h (by decide)) ?_
      refine AL.v good (d := 93) (v := .bool (g17 || (q11.1.b != (Op.bytesLess a0.data.toList a1.data.toList)))) (rd := []) rfl rfl rfl (by cases g17 <;> rfl) ?_
      refine AL.vb good (d := 94) (b := (g17 || (q11.1.b != (Op.bytesLess a0.data.toList a1.data.toList)))) rfl rfl rfl rfl (fun g19 h20 => ?_)
      refine AL.gv good (d := 95) (c := (!g19)) (v := .ptr 13 2) (rd := []) rfl rfl (by cases g19 <;> rfl) (fun h => by cases g19 <;> first | rfl | exact absurd h (by decide)) ?_
      refine AL.gv good (d := 96) (c := (!g19)) (v := .bool q13.1.b) (rd := [(13, .box 24 [.int .i64 q13.1.kind, .int .i64 q13.1.i, .bool q13.1.b, .str q13.1.s, .sl .ro 5 (encs q13.1.t)])]) rfl rfl (by cases g19 <;> rfl) (fun h => by cases g19 <;> first | rfl | exact absurd h (by decide)) ?_
      refine AL.gv good (d := 97) (c := (!g19)) (v := .str a0) (rd := []) rfl rfl (by cases g19 <;> rfl) (fun h => by cases g19 <;> first | rfl | exact absurd h (by decide)) ?_
      refine AL.gv good (d := 98) (c := (!g19)) (v := .str a1) (rd := []) rfl rfl (by cases g19 <;> rfl) (fun h => by cases g19 <;> first | rfl | exact absurd h (by decide)) ?_
      refine AL.gsb good (d := 99) (c := (!g19)) (b := (a0.data.toList == a1.data.toList)) rfl rfl (by cases g19 <;> rfl) rfl (fun h => by cases g19 <;> first | rfl | exact absurd h (by decide)) (fun h => by cases g19 <;> first | rfl | exact absurd h (by decide)) rfl ?_
      refine AL.gv good (d := 100) (c := (!g19)) (v := .bool (q13.1.b != (a0.data.toList == a1.data.toList))) (rd := []) rfl rfl (by cases g19 <;> rfl) (fun h => by cases g19 <;> first | rfl | exact absurd h (by decide)) ?_
      refine AL.v good (d := 101) (v := .bool (g19 || (q13.1.b != (a0.data.toList == a1.data.toList)))) (rd := []) rfl rfl rfl (by cases g19 <;> rfl) ?_
      subst h16 h18 h20
      refine AW.if rfl (fun h21 => ?_) (fun h21 => ?_)
      · replace hr := cnd_t h21 hr
        refine AW.seq ?_
        refine AW.region (M := fun _ => true) ?_
        refine AL.v good (d := 4) (v := .bool false) rfl rfl rfl rfl ?_
        refine AW.ret ?_
        obtain rfl := Option.some.inj hr
        exact RetQ.w good (.inr rfl) rfl rfl (Wv.refl _) (by simp [pureA, pureL, pureR, inA, inL, inR, inO, idsIn, encs_pure, enxs_pure, enys_pure, valC_pure, exC_pure, tyC_pure])
      · replace hr := cnd_f h21 hr
        refine AW.skip ?_
        refine AW.seq ?_
        refine AW.seq ?_
        refine AW.region (M := fun _ => true) ?_
        refine AL.v good (d := 102) (v := .str a0) rfl rfl rfl rfl ?_
        refine AL.v good (d := 103) (v := .int .i64 (a0.size : Int)) rfl rfl rfl rfl ?_
        refine AL.v good (d := 104) (v := .str a1) rfl rfl rfl rfl ?_
        refine AL.v good (d := 105) (v := .int .i64 (a1.size : Int)) rfl rfl rfl rfl ?_
        refine AL.v good (d := 106) (v := .int .i64 (IntKind.i64.wrap ((a0.size : Int) + (a1.size : Int)))) rfl rfl rfl rfl ?_
        refine AL.v good (d := 107) (v := .bool (decide ((IntKind.i64.wrap ((a0.size : Int) + (a1.size : Int))) > 255))) rfl rfl rfl rfl ?_
        refine AW.if rfl (fun h22 => ?_) (fun h22 => ?_)
        · replace hr := cnd_t h22 hr
          refine AW.seq ?_
          refine AW.region (M := fun _ => true) ?_
          refine AL.v good (d := 108) (v := .int .i64 q7.2) rfl rfl rfl rfl ?_
          refine AL.v good (d := 109) (v := .bool (q7.2 == 4)) rfl rfl rfl rfl ?_
          refine AL.v good (d := 4) (v := .bool (q7.2 == 4)) rfl rfl rfl rfl ?_
          refine AW.ret ?_
          obtain rfl := Option.some.inj hr
          exact RetQ.w good (.inr rfl) rfl rfl (Wv.refl _) (by simp [pureA, pureL, pureR, inA, inL, inR, inO, idsIn, encs_pure, enxs_pure, enys_pure, valC_pure, exC_pure, tyC_pure])
        · replace hr := cnd_f h22 hr
          refine AW.skip ?_
          refine AW.seq ?_
          refine AW.region (M := fun _ => true) ?_
          refine AL.v good (d := 110) (v := .int .i64 q7.2) rfl rfl rfl rfl ?_
          refine AL.v good (d := 111) (v := .bool (q7.2 == 0)) rfl rfl rfl rfl ?_
          refine AL.v good (d := 112) (v := .bool (q7.2 == 0)) rfl rfl rfl rfl ?_
          refine AL.cs 112 rfl (fun h23 => ?_) (fun h23 => ?_)
          · replace hr := cnd_t h23 hr
            refine AL.v good (d := 113) (v := .ptr 7 3) rfl rfl rfl rfl ?_
            refine AL.v good (d := 114) (v := .str q7.1.s) rfl rfl rfl rfl ?_
            refine AL.v good (d := 115) (v := .str a0) rfl rfl rfl rfl ?_
            refine AL.v good (d := 116) (v := .str a1) rfl rfl rfl rfl ?_
            obtain ⟨h24, hr⟩ := grd hr
            refine AL.cat good (d := 117) rfl rfl rfl rfl rfl rfl h24 ?_
            refine AL.sb good (d := 118) (b := (q7.1.s.data.toList == (a0 ++ a1).data.toList)) rfl rfl rfl rfl rfl rfl rfl ?_
            refine AL.v good (d := 119) (v := .bool (q7.1.s.data.toList == (a0 ++ a1).data.toList)) rfl rfl rfl rfl ?_
            refine AL.v good (d := 4) (v := .bool (q7.1.s.data.toList == (a0 ++ a1).data.toList)) rfl rfl rfl rfl ?_
            refine AW.ret ?_
            obtain rfl := Option.some.inj hr
            exact RetQ.w good (.inr rfl) rfl rfl (Wv.refl _) (by simp [pureA, pureL, pureR, inA, inL, inR, inO, idsIn, encs_pure, enxs_pure, enys_pure, valC_pure, exC_pure, tyC_pure])
          · replace hr := cnd_f h23 hr
            refine AL.sk good (d := 113) rfl rfl rfl ?_
            refine AL.sk good (d := 114) rfl rfl rfl ?_
            refine AL.sk good (d := 115) rfl rfl rfl ?_
            refine AL.sk good (d := 116) rfl rfl rfl ?_
            refine AL.sk good (d := 117) rfl rfl rfl ?_
            refine AL.sk good (d := 118) rfl rfl rfl ?_
            refine AL.v good (d := 119) (v := .bool false) rfl rfl rfl rfl ?_
            refine AL.v good (d := 4) (v := .bool false) rfl rfl rfl rfl ?_
            refine AW.ret ?_
            obtain rfl := Option.some.inj hr
            exact RetQ.w good (.inr rfl) rfl rfl (Wv.refl _) (by simp [pureA, pureL, pureR, inA, inL, inR, inO, idsIn, encs_pure, enxs_pure, enys_pure, valC_pure, exC_pure, tyC_pure])

end Go.Proofs.Ytbcjcekoonebiaa.Tl
