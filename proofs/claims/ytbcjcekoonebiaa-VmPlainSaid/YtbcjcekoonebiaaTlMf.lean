/- Definitions and walks: what is known of machines. Conditions: none. -/
import Derived.Test.YtbcjcekoonebiaaTlMe
set_option linter.unusedVariables false
set_option linter.unusedSimpArgs false
namespace Go.Proofs.Ytbcjcekoonebiaa.Tl
open Go Go.RowKit



def s_f36 (n : Nat)  : Option Bool :=
  ((s_f40 n [(GInst.mk ⟨#[120]⟩ (Val.mk 0 0 false ⟨#[]⟩ []) 0), (GInst.mk ⟨#[120]⟩ (Val.mk 0 0 false ⟨#[]⟩ []) 0), (GInst.mk ⟨#[101, 109, 105, 116]⟩ (Val.mk 0 0 false ⟨#[]⟩ []) 2), (GInst.mk ⟨#[114, 101, 116]⟩ (Val.mk 0 0 false ⟨#[]⟩ []) 0)] (Val.mk 1 3 false ⟨#[]⟩ [])).bind fun q1 => ((s_f44 n [[(GInst.mk ⟨#[120]⟩ (Val.mk 0 0 false ⟨#[]⟩ []) 0), (GInst.mk ⟨#[120]⟩ (Val.mk 0 0 false ⟨#[]⟩ []) 0), (GInst.mk ⟨#[101, 109, 105, 116]⟩ (Val.mk 0 0 false ⟨#[]⟩ []) 2), (GInst.mk ⟨#[114, 101, 116]⟩ (Val.mk 0 0 false ⟨#[]⟩ []) 0)], [(GInst.mk ⟨#[112, 117, 115, 104]⟩ (Val.mk 1 6 false ⟨#[]⟩ []) 0), (GInst.mk ⟨#[120]⟩ (Val.mk 0 0 false ⟨#[]⟩ []) 0), (GInst.mk ⟨#[100, 105, 118]⟩ (Val.mk 0 0 false ⟨#[]⟩ []) 0), (GInst.mk ⟨#[101, 109, 105, 116]⟩ (Val.mk 0 0 false ⟨#[]⟩ []) 1), (GInst.mk ⟨#[114, 101, 116]⟩ (Val.mk 0 0 false ⟨#[]⟩ []) 0)]] (Val.mk 1 3 false ⟨#[]⟩ [])).bind fun q3 => ((s_f44 n [[(GInst.mk ⟨#[112, 117, 115, 104]⟩ (Val.mk 1 6 false ⟨#[]⟩ []) 0), (GInst.mk ⟨#[120]⟩ (Val.mk 0 0 false ⟨#[]⟩ []) 0), (GInst.mk ⟨#[100, 105, 118]⟩ (Val.mk 0 0 false ⟨#[]⟩ []) 0), (GInst.mk ⟨#[101, 109, 105, 116]⟩ (Val.mk 0 0 false ⟨#[]⟩ []) 1), (GInst.mk ⟨#[114, 101, 116]⟩ (Val.mk 0 0 false ⟨#[]⟩ []) 0)]] (Val.mk 1 0 false ⟨#[]⟩ [])).bind fun q5 => ((s_f40 n [(GInst.mk ⟨#[112, 117, 115, 104]⟩ (Val.mk 1 6 false ⟨#[]⟩ []) 0), (GInst.mk ⟨#[120]⟩ (Val.mk 0 0 false ⟨#[]⟩ []) 0), (GInst.mk ⟨#[100, 105, 118]⟩ (Val.mk 0 0 false ⟨#[]⟩ []) 0), (GInst.mk ⟨#[101, 109, 105, 116]⟩ (Val.mk 0 0 false ⟨#[]⟩ []) 1), (GInst.mk ⟨#[114, 101, 116]⟩ (Val.mk 0 0 false ⟨#[]⟩ []) 0)] (Val.mk 1 0 false ⟨#[]⟩ [])).bind fun q7 => (bif (q1.2 == 0) then (bif ((q1.1.length : Int) == 2) then (bif ((q3.1.length : Int) == 2) then ((q3.1[1]?).bind fun x12 => (bif (x12.i == 2) then (bif ((q3.2.length : Int) == 0) then (bif ((q5.2.length : Int) == 1) then ((q5.2[0]?).bind fun x17 => (bif (x17.f0 == 0) then ((q5.2[0]?).bind fun x20 => (bif (x20.f1.kind == 1) then some (q7.2 == 8) else some false)) else some false)) else some false) else some false) else some false)) else some false) else some false) else some false)))))

theorem w_f36 (n : Nat)  (r : Bool) (hr : s_f36 n  = some r) : ACall Try.prog 36 [] (.bool r) := by
  refine ACall.go [] Try.func36 rfl Try.ntmps36 rfl rfl (by simp [pureA, pureL, pureR, inA, inL, inR, inO, idsIn, encs_pure, enxs_pure, enys_pure, valC_pure, exC_pure, tyC_pure, r_int_u8_pure, r_st_GInst_pure, r_sl_st_GInst_pure, r_st_GMiss_pure]) ?_
  rw [s_f36] at hr
  refine AW.seq ?_
  refine AW.region (M := fun _ => true) ?_
  refine AL.v good (d := 0) (v := .bool false) rfl rfl rfl rfl ?_
  refine AW.seq ?_
  refine AW.region (M := fun _ => true) ?_
  refine AL.bld good (d := 11) (l := [.str ⟨#[120]⟩, .int .i64 0, .int .i64 0, .bool false, .str ⟨#[]⟩, .sl .nil 0 [], .int .i64 0]) rfl rfl rfl rfl rfl rfl rfl ?_
  refine AL.bld good (d := 12) (l := [.str ⟨#[120]⟩, .int .i64 0, .int .i64 0, .bool false, .str ⟨#[]⟩, .sl .nil 0 [], .int .i64 0]) rfl rfl rfl rfl rfl rfl rfl ?_
  refine AL.bld good (d := 13) (l := [.str ⟨#[101, 109, 105, 116]⟩, .int .i64 0, .int .i64 0, .bool false, .str ⟨#[]⟩, .sl .nil 0 [], .int .i64 2]) rfl rfl rfl rfl rfl rfl rfl ?_
  refine AL.bld good (d := 14) (l := [.str ⟨#[114, 101, 116]⟩, .int .i64 0, .int .i64 0, .bool false, .str ⟨#[]⟩, .sl .nil 0 [], .int .i64 0]) rfl rfl rfl rfl rfl rfl rfl ?_
  refine AL.lit good (d := 15) (rows := [[.str ⟨#[120]⟩, .int .i64 0, .int .i64 0, .bool false, .str ⟨#[]⟩, .sl .nil 0 [], .int .i64 0], [.str ⟨#[120]⟩, .int .i64 0, .int .i64 0, .bool false, .str ⟨#[]⟩, .sl .nil 0 [], .int .i64 0], [.str ⟨#[101, 109, 105, 116]⟩, .int .i64 0, .int .i64 0, .bool false, .str ⟨#[]⟩, .sl .nil 0 [], .int .i64 2], [.str ⟨#[114, 101, 116]⟩, .int .i64 0, .int .i64 0, .bool false, .str ⟨#[]⟩, .sl .nil 0 [], .int .i64 0]]) rfl rfl rfl rfl rfl rfl rfl rfl rfl 0 rfl ?_
  refine AL.v good (d := 1) (v := .sl (.own 0) 7 [[.str ⟨#[120]⟩, .int .i64 0, .int .i64 0, .bool false, .str ⟨#[]⟩, .sl .nil 0 [], .int .i64 0], [.str ⟨#[120]⟩, .int .i64 0, .int .i64 0, .bool false, .str ⟨#[]⟩, .sl .nil 0 [], .int .i64 0], [.str ⟨#[101, 109, 105, 116]⟩, .int .i64 0, .int .i64 0, .bool false, .str ⟨#[]⟩, .sl .nil 0 [], .int .i64 2], [.str ⟨#[114, 101, 116]⟩, .int .i64 0, .int .i64 0, .bool false, .str ⟨#[]⟩, .sl .nil 0 [], .int .i64 0]]) rfl rfl rfl rfl ?_
  refine AW.seq ?_
  refine AW.region (M := fun _ => true) ?_
  refine AL.cw good (d := 16) (xs := [.int .i64 6]) (res := .agg [.int .i64 1, .int .i64 6, .bool false, .str ⟨#[]⟩, .sl .ro 5 (encs [])]) rfl rfl rfl rfl rfl rfl rfl (w_f28 6) ⟨(Wv.refl _), trivial⟩ (by simp [pureA, pureL, pureR, inA, inL, inR, inO, idsIn, encs_pure, enxs_pure, enys_pure, valC_pure, exC_pure, tyC_pure, r_int_u8_pure, r_st_GInst_pure, r_sl_st_GInst_pure, r_st_GMiss_pure]) ?_
  refine AL.bld good (d := 17) (l := [.str ⟨#[112, 117, 115, 104]⟩, .int .i64 1, .int .i64 6, .bool false, .str ⟨#[]⟩, .sl .ro 5 (encs []), .int .i64 0]) rfl rfl rfl rfl rfl rfl rfl ?_
  refine AL.bld good (d := 18) (l := [.str ⟨#[120]⟩, .int .i64 0, .int .i64 0, .bool false, .str ⟨#[]⟩, .sl .nil 0 [], .int .i64 0]) rfl rfl rfl rfl rfl rfl rfl ?_
  refine AL.bld good (d := 19) (l := [.str ⟨#[100, 105, 118]⟩, .int .i64 0, .int .i64 0, .bool false, .str ⟨#[]⟩, .sl .nil 0 [], .int .i64 0]) rfl rfl rfl rfl rfl rfl rfl ?_
  refine AL.bld good (d := 20) (l := [.str ⟨#[101, 109, 105, 116]⟩, .int .i64 0, .int .i64 0, .bool false, .str ⟨#[]⟩, .sl .nil 0 [], .int .i64 1]) rfl rfl rfl rfl rfl rfl rfl ?_
  refine AL.bld good (d := 21) (l := [.str ⟨#[114, 101, 116]⟩, .int .i64 0, .int .i64 0, .bool false, .str ⟨#[]⟩, .sl .nil 0 [], .int .i64 0]) rfl rfl rfl rfl rfl rfl rfl ?_
  refine AL.lit good (d := 22) (rows := [[.str ⟨#[112, 117, 115, 104]⟩, .int .i64 1, .int .i64 6, .bool false, .str ⟨#[]⟩, .sl .ro 5 (encs []), .int .i64 0], [.str ⟨#[120]⟩, .int .i64 0, .int .i64 0, .bool false, .str ⟨#[]⟩, .sl .nil 0 [], .int .i64 0], [.str ⟨#[100, 105, 118]⟩, .int .i64 0, .int .i64 0, .bool false, .str ⟨#[]⟩, .sl .nil 0 [], .int .i64 0], [.str ⟨#[101, 109, 105, 116]⟩, .int .i64 0, .int .i64 0, .bool false, .str ⟨#[]⟩, .sl .nil 0 [], .int .i64 1], [.str ⟨#[114, 101, 116]⟩, .int .i64 0, .int .i64 0, .bool false, .str ⟨#[]⟩, .sl .nil 0 [], .int .i64 0]]) rfl rfl rfl rfl rfl rfl rfl rfl rfl 1 rfl ?_
  refine AL.v good (d := 2) (v := .sl (.own 1) 7 [[.str ⟨#[112, 117, 115, 104]⟩, .int .i64 1, .int .i64 6, .bool false, .str ⟨#[]⟩, .sl .ro 5 (encs []), .int .i64 0], [.str ⟨#[120]⟩, .int .i64 0, .int .i64 0, .bool false, .str ⟨#[]⟩, .sl .nil 0 [], .int .i64 0], [.str ⟨#[100, 105, 118]⟩, .int .i64 0, .int .i64 0, .bool false, .str ⟨#[]⟩, .sl .nil 0 [], .int .i64 0], [.str ⟨#[101, 109, 105, 116]⟩, .int .i64 0, .int .i64 0, .bool false, .str ⟨#[]⟩, .sl .nil 0 [], .int .i64 1], [.str ⟨#[114, 101, 116]⟩, .int .i64 0, .int .i64 0, .bool false, .str ⟨#[]⟩, .sl .nil 0 [], .int .i64 0]]) rfl rfl rfl rfl ?_
  refine AW.seq ?_
  refine AW.region (M := fun _ => true) ?_
  refine AL.v good (d := 24) (v := .sl (.own 0) 7 [[.str ⟨#[120]⟩, .int .i64 0, .int .i64 0, .bool false, .str ⟨#[]⟩, .sl .nil 0 [], .int .i64 0], [.str ⟨#[120]⟩, .int .i64 0, .int .i64 0, .bool false, .str ⟨#[]⟩, .sl .nil 0 [], .int .i64 0], [.str ⟨#[101, 109, 105, 116]⟩, .int .i64 0, .int .i64 0, .bool false, .str ⟨#[]⟩, .sl .nil 0 [], .int .i64 2], [.str ⟨#[114, 101, 116]⟩, .int .i64 0, .int .i64 0, .bool false, .str ⟨#[]⟩, .sl .nil 0 [], .int .i64 0]]) rfl rfl rfl rfl ?_
  refine AL.cw good (d := 25) (xs := [.int .i64 3]) (res := .agg [.int .i64 1, .int .i64 3, .bool false, .str ⟨#[]⟩, .sl .ro 5 (encs [])]) rfl rfl rfl rfl rfl rfl rfl (w_f28 3) ⟨(Wv.refl _), trivial⟩ (by simp [pureA, pureL, pureR, inA, inL, inR, inO, idsIn, encs_pure, enxs_pure, enys_pure, valC_pure, exC_pure, tyC_pure, r_int_u8_pure, r_st_GInst_pure, r_sl_st_GInst_pure, r_st_GMiss_pure]) ?_
  obtain ⟨q1, h2, hr⟩ := bnd1 hr
  refine AL.cw good (d := 26) (xs := [.sl .ro 7 (r_st_GInst [(GInst.mk ⟨#[120]⟩ (Val.mk 0 0 false ⟨#[]⟩ []) 0), (GInst.mk ⟨#[120]⟩ (Val.mk 0 0 false ⟨#[]⟩ []) 0), (GInst.mk ⟨#[101, 109, 105, 116]⟩ (Val.mk 0 0 false ⟨#[]⟩ []) 2), (GInst.mk ⟨#[114, 101, 116]⟩ (Val.mk 0 0 false ⟨#[]⟩ []) 0)]), .agg (valC (Val.mk 1 3 false ⟨#[]⟩ []))]) (res := .tup [.sl .ro 5 (encs q1.1), .int .i64 q1.2]) rfl rfl rfl rfl rfl rfl rfl (w_f40 _ _ _ _ h2) ⟨⟨.inr rfl, ⟨⟨Wv.refl _, Wv.refl _, Wv.refl _, Wv.refl _, Wv.refl _, ⟨.inr rfl, trivial, .inr rfl⟩, Wv.refl _, trivial⟩, ⟨Wv.refl _, Wv.refl _, Wv.refl _, Wv.refl _, Wv.refl _, ⟨.inr rfl, trivial, .inr rfl⟩, Wv.refl _, trivial⟩, ⟨Wv.refl _, Wv.refl _, Wv.refl _, Wv.refl _, Wv.refl _, ⟨.inr rfl, trivial, .inr rfl⟩, Wv.refl _, trivial⟩, ⟨Wv.refl _, Wv.refl _, Wv.refl _, Wv.refl _, Wv.refl _, ⟨.inr rfl, trivial, .inr rfl⟩, Wv.refl _, trivial⟩, trivial⟩, .inl rfl⟩, (Wv.refl _), trivial⟩ (by simp [pureA, pureL, pureR, inA, inL, inR, inO, idsIn, encs_pure, enxs_pure, enys_pure, valC_pure, exC_pure, tyC_pure, r_int_u8_pure, r_st_GInst_pure, r_sl_st_GInst_pure, r_st_GMiss_pure]) ?_
  refine AL.v good (d := 23) (v := .tup [.sl .ro 5 (encs q1.1), .int .i64 q1.2]) rfl rfl rfl rfl ?_
  refine AL.v good (d := 27) (v := .sl .ro 5 (encs q1.1)) rfl rfl rfl rfl ?_
  refine AL.v good (d := 28) (v := .int .i64 q1.2) rfl rfl rfl rfl ?_
  refine AL.v good (d := 3) (v := .sl .ro 5 (encs q1.1)) rfl rfl rfl rfl ?_
  refine AL.v good (d := 4) (v := .int .i64 q1.2) rfl rfl rfl rfl ?_
  refine AW.seq ?_
  refine AW.region (M := fun _ => true) ?_
  refine AL.v good (d := 30) (v := .sl (.own 0) 7 [[.str ⟨#[120]⟩, .int .i64 0, .int .i64 0, .bool false, .str ⟨#[]⟩, .sl .nil 0 [], .int .i64 0], [.str ⟨#[120]⟩, .int .i64 0, .int .i64 0, .bool false, .str ⟨#[]⟩, .sl .nil 0 [], .int .i64 0], [.str ⟨#[101, 109, 105, 116]⟩, .int .i64 0, .int .i64 0, .bool false, .str ⟨#[]⟩, .sl .nil 0 [], .int .i64 2], [.str ⟨#[114, 101, 116]⟩, .int .i64 0, .int .i64 0, .bool false, .str ⟨#[]⟩, .sl .nil 0 [], .int .i64 0]]) rfl rfl rfl rfl ?_
  refine AL.v good (d := 31) (v := .sl (.own 1) 7 [[.str ⟨#[112, 117, 115, 104]⟩, .int .i64 1, .int .i64 6, .bool false, .str ⟨#[]⟩, .sl .ro 5 (encs []), .int .i64 0], [.str ⟨#[120]⟩, .int .i64 0, .int .i64 0, .bool false, .str ⟨#[]⟩, .sl .nil 0 [], .int .i64 0], [.str ⟨#[100, 105, 118]⟩, .int .i64 0, .int .i64 0, .bool false, .str ⟨#[]⟩, .sl .nil 0 [], .int .i64 0], [.str ⟨#[101, 109, 105, 116]⟩, .int .i64 0, .int .i64 0, .bool false, .str ⟨#[]⟩, .sl .nil 0 [], .int .i64 1], [.str ⟨#[114, 101, 116]⟩, .int .i64 0, .int .i64 0, .bool false, .str ⟨#[]⟩, .sl .nil 0 [], .int .i64 0]]) rfl rfl rfl rfl ?_
  refine AL.lit good (d := 32) (rows := [[.sl (.own 0) 7 [[.str ⟨#[120]⟩, .int .i64 0, .int .i64 0, .bool false, .str ⟨#[]⟩, .sl .nil 0 [], .int .i64 0], [.str ⟨#[120]⟩, .int .i64 0, .int .i64 0, .bool false, .str ⟨#[]⟩, .sl .nil 0 [], .int .i64 0], [.str ⟨#[101, 109, 105, 116]⟩, .int .i64 0, .int .i64 0, .bool false, .str ⟨#[]⟩, .sl .nil 0 [], .int .i64 2], [.str ⟨#[114, 101, 116]⟩, .int .i64 0, .int .i64 0, .bool false, .str ⟨#[]⟩, .sl .nil 0 [], .int .i64 0]]], [.sl (.own 1) 7 [[.str ⟨#[112, 117, 115, 104]⟩, .int .i64 1, .int .i64 6, .bool false, .str ⟨#[]⟩, .sl .ro 5 (encs []), .int .i64 0], [.str ⟨#[120]⟩, .int .i64 0, .int .i64 0, .bool false, .str ⟨#[]⟩, .sl .nil 0 [], .int .i64 0], [.str ⟨#[100, 105, 118]⟩, .int .i64 0, .int .i64 0, .bool false, .str ⟨#[]⟩, .sl .nil 0 [], .int .i64 0], [.str ⟨#[101, 109, 105, 116]⟩, .int .i64 0, .int .i64 0, .bool false, .str ⟨#[]⟩, .sl .nil 0 [], .int .i64 1], [.str ⟨#[114, 101, 116]⟩, .int .i64 0, .int .i64 0, .bool false, .str ⟨#[]⟩, .sl .nil 0 [], .int .i64 0]]]]) rfl rfl rfl rfl rfl rfl rfl rfl rfl 2 rfl ?_
  refine AL.cw good (d := 33) (xs := [.int .i64 3]) (res := .agg [.int .i64 1, .int .i64 3, .bool false, .str ⟨#[]⟩, .sl .ro 5 (encs [])]) rfl rfl rfl rfl rfl rfl rfl (w_f28 3) ⟨(Wv.refl _), trivial⟩ (by simp [pureA, pureL, pureR, inA, inL, inR, inO, idsIn, encs_pure, enxs_pure, enys_pure, valC_pure, exC_pure, tyC_pure, r_int_u8_pure, r_st_GInst_pure, r_sl_st_GInst_pure, r_st_GMiss_pure]) ?_
  obtain ⟨q3, h4, hr⟩ := bnd1 hr
  refine AL.cw good (d := 34) (xs := [.sl .ro 1 (r_sl_st_GInst [[(GInst.mk ⟨#[120]⟩ (Val.mk 0 0 false ⟨#[]⟩ []) 0), (GInst.mk ⟨#[120]⟩ (Val.mk 0 0 false ⟨#[]⟩ []) 0), (GInst.mk ⟨#[101, 109, 105, 116]⟩ (Val.mk 0 0 false ⟨#[]⟩ []) 2), (GInst.mk ⟨#[114, 101, 116]⟩ (Val.mk 0 0 false ⟨#[]⟩ []) 0)], [(GInst.mk ⟨#[112, 117, 115, 104]⟩ (Val.mk 1 6 false ⟨#[]⟩ []) 0), (GInst.mk ⟨#[120]⟩ (Val.mk 0 0 false ⟨#[]⟩ []) 0), (GInst.mk ⟨#[100, 105, 118]⟩ (Val.mk 0 0 false ⟨#[]⟩ []) 0), (GInst.mk ⟨#[101, 109, 105, 116]⟩ (Val.mk 0 0 false ⟨#[]⟩ []) 1), (GInst.mk ⟨#[114, 101, 116]⟩ (Val.mk 0 0 false ⟨#[]⟩ []) 0)]]), .agg (valC (Val.mk 1 3 false ⟨#[]⟩ []))]) (res := .tup [.sl .ro 5 (encs q3.1), .sl .ro 6 (r_st_GMiss q3.2)]) rfl rfl rfl rfl rfl rfl rfl (w_f44 _ _ _ _ h4) ⟨⟨.inr rfl, ⟨⟨⟨.inr rfl, ⟨⟨Wv.refl _, Wv.refl _, Wv.refl _, Wv.refl _, Wv.refl _, ⟨.inr rfl, trivial, .inr rfl⟩, Wv.refl _, trivial⟩, ⟨Wv.refl _, Wv.refl _, Wv.refl _, Wv.refl _, Wv.refl _, ⟨.inr rfl, trivial, .inr rfl⟩, Wv.refl _, trivial⟩, ⟨Wv.refl _, Wv.refl _, Wv.refl _, Wv.refl _, Wv.refl _, ⟨.inr rfl, trivial, .inr rfl⟩, Wv.refl _, trivial⟩, ⟨Wv.refl _, Wv.refl _, Wv.refl _, Wv.refl _, Wv.refl _, ⟨.inr rfl, trivial, .inr rfl⟩, Wv.refl _, trivial⟩, trivial⟩, .inl rfl⟩, trivial⟩, ⟨⟨.inr rfl, ⟨⟨Wv.refl _, Wv.refl _, Wv.refl _, Wv.refl _, Wv.refl _, Wv.refl _, Wv.refl _, trivial⟩, ⟨Wv.refl _, Wv.refl _, Wv.refl _, Wv.refl _, Wv.refl _, ⟨.inr rfl, trivial, .inr rfl⟩, Wv.refl _, trivial⟩, ⟨Wv.refl _, Wv.refl _, Wv.refl _, Wv.refl _, Wv.refl _, ⟨.inr rfl, trivial, .inr rfl⟩, Wv.refl _, trivial⟩, ⟨Wv.refl _, Wv.refl _, Wv.refl _, Wv.refl _, Wv.refl _, ⟨.inr rfl, trivial, .inr rfl⟩, Wv.refl _, trivial⟩, ⟨Wv.refl _, Wv.refl _, Wv.refl _, Wv.refl _, Wv.refl _, ⟨.inr rfl, trivial, .inr rfl⟩, Wv.refl _, trivial⟩, trivial⟩, .inl rfl⟩, trivial⟩, trivial⟩, .inl rfl⟩, (Wv.refl _), trivial⟩ (by simp [pureA, pureL, pureR, inA, inL, inR, inO, idsIn, encs_pure, enxs_pure, enys_pure, valC_pure, exC_pure, tyC_pure, r_int_u8_pure, r_st_GInst_pure, r_sl_st_GInst_pure, r_st_GMiss_pure]) ?_
  refine AL.v good (d := 29) (v := .tup [.sl .ro 5 (encs q3.1), .sl .ro 6 (r_st_GMiss q3.2)]) rfl rfl rfl rfl ?_
  refine AL.v good (d := 35) (v := .sl .ro 5 (encs q3.1)) rfl rfl rfl rfl ?_
  refine AL.v good (d := 36) (v := .sl .ro 6 (r_st_GMiss q3.2)) rfl rfl rfl rfl ?_
  refine AL.v good (d := 5) (v := .sl .ro 5 (encs q3.1)) rfl rfl rfl rfl ?_
  refine AL.v good (d := 6) (v := .sl .ro 6 (r_st_GMiss q3.2)) rfl rfl rfl rfl ?_
  refine AW.seq ?_
  refine AW.region (M := fun _ => true) ?_
  refine AL.v good (d := 38) (v := .sl (.own 1) 7 [[.str ⟨#[112, 117, 115, 104]⟩, .int .i64 1, .int .i64 6, .bool false, .str ⟨#[]⟩, .sl .ro 5 (encs []), .int .i64 0], [.str ⟨#[120]⟩, .int .i64 0, .int .i64 0, .bool false, .str ⟨#[]⟩, .sl .nil 0 [], .int .i64 0], [.str ⟨#[100, 105, 118]⟩, .int .i64 0, .int .i64 0, .bool false, .str ⟨#[]⟩, .sl .nil 0 [], .int .i64 0], [.str ⟨#[101, 109, 105, 116]⟩, .int .i64 0, .int .i64 0, .bool false, .str ⟨#[]⟩, .sl .nil 0 [], .int .i64 1], [.str ⟨#[114, 101, 116]⟩, .int .i64 0, .int .i64 0, .bool false, .str ⟨#[]⟩, .sl .nil 0 [], .int .i64 0]]) rfl rfl rfl rfl ?_
  refine AL.lit good (d := 39) (rows := [[.sl (.own 1) 7 [[.str ⟨#[112, 117, 115, 104]⟩, .int .i64 1, .int .i64 6, .bool false, .str ⟨#[]⟩, .sl .ro 5 (encs []), .int .i64 0], [.str ⟨#[120]⟩, .int .i64 0, .int .i64 0, .bool false, .str ⟨#[]⟩, .sl .nil 0 [], .int .i64 0], [.str ⟨#[100, 105, 118]⟩, .int .i64 0, .int .i64 0, .bool false, .str ⟨#[]⟩, .sl .nil 0 [], .int .i64 0], [.str ⟨#[101, 109, 105, 116]⟩, .int .i64 0, .int .i64 0, .bool false, .str ⟨#[]⟩, .sl .nil 0 [], .int .i64 1], [.str ⟨#[114, 101, 116]⟩, .int .i64 0, .int .i64 0, .bool false, .str ⟨#[]⟩, .sl .nil 0 [], .int .i64 0]]]]) rfl rfl rfl rfl rfl rfl rfl rfl rfl 3 rfl ?_
  refine AL.cw good (d := 40) (xs := [.int .i64 0]) (res := .agg [.int .i64 1, .int .i64 0, .bool false, .str ⟨#[]⟩, .sl .ro 5 (encs [])]) rfl rfl rfl rfl rfl rfl rfl (w_f28 0) ⟨(Wv.refl _), trivial⟩ (by simp [pureA, pureL, pureR, inA, inL, inR, inO, idsIn, encs_pure, enxs_pure, enys_pure, valC_pure, exC_pure, tyC_pure, r_int_u8_pure, r_st_GInst_pure, r_sl_st_GInst_pure, r_st_GMiss_pure]) ?_
  obtain ⟨q5, h6, hr⟩ := bnd1 hr
  refine AL.cw good (d := 41) (xs := [.sl .ro 1 (r_sl_st_GInst [[(GInst.mk ⟨#[112, 117, 115, 104]⟩ (Val.mk 1 6 false ⟨#[]⟩ []) 0), (GInst.mk ⟨#[120]⟩ (Val.mk 0 0 false ⟨#[]⟩ []) 0), (GInst.mk ⟨#[100, 105, 118]⟩ (Val.mk 0 0 false ⟨#[]⟩ []) 0), (GInst.mk ⟨#[101, 109, 105, 116]⟩ (Val.mk 0 0 false ⟨#[]⟩ []) 1), (GInst.mk ⟨#[114, 101, 116]⟩ (Val.mk 0 0 false ⟨#[]⟩ []) 0)]]), .agg (valC (Val.mk 1 0 false ⟨#[]⟩ []))]) (res := .tup [.sl .ro 5 (encs q5.1), .sl .ro 6 (r_st_GMiss q5.2)]) rfl rfl rfl rfl rfl rfl rfl (w_f44 _ _ _ _ h6) ⟨⟨.inr rfl, ⟨⟨⟨.inr rfl, ⟨⟨Wv.refl _, Wv.refl _, Wv.refl _, Wv.refl _, Wv.refl _, Wv.refl _, Wv.refl _, trivial⟩, ⟨Wv.refl _, Wv.refl _, Wv.refl _, Wv.refl _, Wv.refl _, ⟨.inr rfl, trivial, .inr rfl⟩, Wv.refl _, trivial⟩, ⟨Wv.refl _, Wv.refl _, Wv.refl _, Wv.refl _, Wv.refl _, ⟨.inr rfl, trivial, .inr rfl⟩, Wv.refl _, trivial⟩, ⟨Wv.refl _, Wv.refl _, Wv.refl _, Wv.refl _, Wv.refl _, ⟨.inr rfl, trivial, .inr rfl⟩, Wv.refl _, trivial⟩, ⟨Wv.refl _, Wv.refl _, Wv.refl _, Wv.refl _, Wv.refl _, ⟨.inr rfl, trivial, .inr rfl⟩, Wv.refl _, trivial⟩, trivial⟩, .inl rfl⟩, trivial⟩, trivial⟩, .inl rfl⟩, (Wv.refl _), trivial⟩ (by simp [pureA, pureL, pureR, inA, inL, inR, inO, idsIn, encs_pure, enxs_pure, enys_pure, valC_pure, exC_pure, tyC_pure, r_int_u8_pure, r_st_GInst_pure, r_sl_st_GInst_pure, r_st_GMiss_pure]) ?_
  refine AL.v good (d := 37) (v := .tup [.sl .ro 5 (encs q5.1), .sl .ro 6 (r_st_GMiss q5.2)]) rfl rfl rfl rfl ?_
  refine AL.v good (d := 42) (v := .sl .ro 5 (encs q5.1)) rfl rfl rfl rfl ?_
  refine AL.v good (d := 43) (v := .sl .ro 6 (r_st_GMiss q5.2)) rfl rfl rfl rfl ?_
  refine AL.v good (d := 7) (v := .sl .ro 5 (encs q5.1)) rfl rfl rfl rfl ?_
  refine AL.v good (d := 8) (v := .sl .ro 6 (r_st_GMiss q5.2)) rfl rfl rfl rfl ?_
  refine AW.seq ?_
  refine AW.region (M := fun _ => true) ?_
  refine AL.v good (d := 45) (v := .sl (.own 1) 7 [[.str ⟨#[112, 117, 115, 104]⟩, .int .i64 1, .int .i64 6, .bool false, .str ⟨#[]⟩, .sl .ro 5 (encs []), .int .i64 0], [.str ⟨#[120]⟩, .int .i64 0, .int .i64 0, .bool false, .str ⟨#[]⟩, .sl .nil 0 [], .int .i64 0], [.str ⟨#[100, 105, 118]⟩, .int .i64 0, .int .i64 0, .bool false, .str ⟨#[]⟩, .sl .nil 0 [], .int .i64 0], [.str ⟨#[101, 109, 105, 116]⟩, .int .i64 0, .int .i64 0, .bool false, .str ⟨#[]⟩, .sl .nil 0 [], .int .i64 1], [.str ⟨#[114, 101, 116]⟩, .int .i64 0, .int .i64 0, .bool false, .str ⟨#[]⟩, .sl .nil 0 [], .int .i64 0]]) rfl rfl rfl rfl ?_
  refine AL.cw good (d := 46) (xs := [.int .i64 0]) (res := .agg [.int .i64 1, .int .i64 0, .bool false, .str ⟨#[]⟩, .sl .ro 5 (encs [])]) rfl rfl rfl rfl rfl rfl rfl (w_f28 0) ⟨(Wv.refl _), trivial⟩ (by simp [pureA, pureL, pureR, inA, inL, inR, inO, idsIn, encs_pure, enxs_pure, enys_pure, valC_pure, exC_pure, tyC_pure, r_int_u8_pure, r_st_GInst_pure, r_sl_st_GInst_pure, r_st_GMiss_pure]) ?_
  obtain ⟨q7, h8, hr⟩ := bnd1 hr
  refine AL.cw good (d := 47) (xs := [.sl .ro 7 (r_st_GInst [(GInst.mk ⟨#[112, 117, 115, 104]⟩ (Val.mk 1 6 false ⟨#[]⟩ []) 0), (GInst.mk ⟨#[120]⟩ (Val.mk 0 0 false ⟨#[]⟩ []) 0), (GInst.mk ⟨#[100, 105, 118]⟩ (Val.mk 0 0 false ⟨#[]⟩ []) 0), (GInst.mk ⟨#[101, 109, 105, 116]⟩ (Val.mk 0 0 false ⟨#[]⟩ []) 1), (GInst.mk ⟨#[114, 101, 116]⟩ (Val.mk 0 0 false ⟨#[]⟩ []) 0)]), .agg (valC (Val.mk 1 0 false ⟨#[]⟩ []))]) (res := .tup [.sl .ro 5 (encs q7.1), .int .i64 q7.2]) rfl rfl rfl rfl rfl rfl rfl (w_f40 _ _ _ _ h8) ⟨⟨.inr rfl, ⟨⟨Wv.refl _, Wv.refl _, Wv.refl _, Wv.refl _, Wv.refl _, Wv.refl _, Wv.refl _, trivial⟩, ⟨Wv.refl _, Wv.refl _, Wv.refl _, Wv.refl _, Wv.refl _, ⟨.inr rfl, trivial, .inr rfl⟩, Wv.refl _, trivial⟩, ⟨Wv.refl _, Wv.refl _, Wv.refl _, Wv.refl _, Wv.refl _, ⟨.inr rfl, trivial, .inr rfl⟩, Wv.refl _, trivial⟩, ⟨Wv.refl _, Wv.refl _, Wv.refl _, Wv.refl _, Wv.refl _, ⟨.inr rfl, trivial, .inr rfl⟩, Wv.refl _, trivial⟩, ⟨Wv.refl _, Wv.refl _, Wv.refl _, Wv.refl _, Wv.refl _, ⟨.inr rfl, trivial, .inr rfl⟩, Wv.refl _, trivial⟩, trivial⟩, .inl rfl⟩, (Wv.refl _), trivial⟩ (by simp [pureA, pureL, pureR, inA, inL, inR, inO, idsIn, encs_pure, enxs_pure, enys_pure, valC_pure, exC_pure, tyC_pure, r_int_u8_pure, r_st_GInst_pure, r_sl_st_GInst_pure, r_st_GMiss_pure]) ?_
  refine AL.v good (d := 44) (v := .tup [.sl .ro 5 (encs q7.1), .int .i64 q7.2]) rfl rfl rfl rfl ?_
  refine AL.v good (d := 48) (v := .sl .ro 5 (encs q7.1)) rfl rfl rfl rfl ?_
  refine AL.v good (d := 49) (v := .int .i64 q7.2) rfl rfl rfl rfl ?_
  refine AL.v good (d := 9) (v := .sl .ro 5 (encs q7.1)) rfl rfl rfl rfl ?_
  refine AL.v good (d := 10) (v := .int .i64 q7.2) rfl rfl rfl rfl ?_
  refine AW.seq ?_
  refine AW.region (M := fun _ => true) ?_
  refine AL.v good (d := 50) (v := .int .i64 q1.2) rfl rfl rfl rfl ?_
  refine AL.v good (d := 51) (v := .bool (q1.2 == 0)) rfl rfl rfl rfl ?_
  refine AL.v good (d := 52) (v := .bool (q1.2 == 0)) rfl rfl rfl rfl ?_
  refine AL.cs 52 rfl (fun h9 => ?_) (fun h9 => ?_)
  · replace hr := cnd_t h9 hr
    refine AL.v good (d := 53) (v := .sl .ro 5 (encs q1.1)) rfl rfl rfl rfl ?_
    refine AL.ln good (d := 54) (m := q1.1.length) rfl rfl rfl rfl rfl rfl (encs_length _) ?_
    refine AL.v good (d := 55) (v := .bool ((q1.1.length : Int) == 2)) rfl rfl rfl rfl ?_
    refine AL.v good (d := 56) (v := .bool ((q1.1.length : Int) == 2)) rfl rfl rfl rfl ?_
    refine AL.v good (d := 57) (v := .bool ((q1.1.length : Int) == 2)) rfl rfl rfl rfl ?_
    refine AL.cs 57 rfl (fun h10 => ?_) (fun h10 => ?_)
    · replace hr := cnd_t h10 hr
      refine AL.v good (d := 58) (v := .sl .ro 5 (encs q3.1)) rfl rfl rfl rfl ?_
      refine AL.ln good (d := 59) (m := q3.1.length) rfl rfl rfl rfl rfl rfl (encs_length _) ?_
      refine AL.v good (d := 60) (v := .bool ((q3.1.length : Int) == 2)) rfl rfl rfl rfl ?_
      refine AL.v good (d := 61) (v := .bool ((q3.1.length : Int) == 2)) rfl rfl rfl rfl ?_
      refine AL.v good (d := 62) (v := .bool ((q3.1.length : Int) == 2)) rfl rfl rfl rfl ?_
      refine AL.cs 62 rfl (fun h11 => ?_) (fun h11 => ?_)
      · replace hr := cnd_t h11 hr
        refine AL.v good (d := 63) (v := .sl .ro 5 (encs q3.1)) rfl rfl rfl rfl ?_
        obtain ⟨x12, h13, hr⟩ := bnd1 hr
        refine AL.ix good (d := 64) (r := [.int .i64 x12.kind, .int .i64 x12.i, .bool x12.b, .str x12.s, .sl .ro 5 (encs x12.t)]) rfl rfl rfl rfl rfl rfl rfl (by decide) (encs_get h13) ?_
        refine AL.v good (d := 65) (v := .ep [.int .i64 x12.i, .bool x12.b, .str x12.s, .sl .ro 5 (encs x12.t)]) rfl rfl rfl rfl ?_
        refine AL.v good (d := 66) (v := .int .i64 x12.i) rfl rfl rfl rfl ?_
        refine AL.v good (d := 67) (v := .bool (x12.i == 2)) rfl rfl rfl rfl ?_
        refine AL.v good (d := 68) (v := .bool (x12.i == 2)) rfl rfl rfl rfl ?_
        refine AL.v good (d := 69) (v := .bool (x12.i == 2)) rfl rfl rfl rfl ?_
        refine AL.cs 69 rfl (fun h14 => ?_) (fun h14 => ?_)
        · replace hr := cnd_t h14 hr
          refine AL.v good (d := 70) (v := .sl .ro 6 (r_st_GMiss q3.2)) rfl rfl rfl rfl ?_
          refine AL.ln good (d := 71) (m := q3.2.length) rfl rfl rfl rfl rfl rfl (r_st_GMiss_length _) ?_
          refine AL.v good (d := 72) (v := .bool ((q3.2.length : Int) == 0)) rfl rfl rfl rfl ?_
          refine AL.v good (d := 73) (v := .bool ((q3.2.length : Int) == 0)) rfl rfl rfl rfl ?_
          refine AL.v good (d := 74) (v := .bool ((q3.2.length : Int) == 0)) rfl rfl rfl rfl ?_
          refine AL.cs 74 rfl (fun h15 => ?_) (fun h15 => ?_)
          · replace hr := cnd_t h15 hr
            refine AL.v good (d := 75) (v := .sl .ro 6 (r_st_GMiss q5.2)) rfl rfl rfl rfl ?_
            refine AL.ln good (d := 76) (m := q5.2.length) rfl rfl rfl rfl rfl rfl (r_st_GMiss_length _) ?_
            refine AL.v good (d := 77) (v := .bool ((q5.2.length : Int) == 1)) rfl rfl rfl rfl ?_
            refine AL.v good (d := 78) (v := .bool ((q5.2.length : Int) == 1)) rfl rfl rfl rfl ?_
            refine AL.v good (d := 79) (v := .bool ((q5.2.length : Int) == 1)) rfl rfl rfl rfl ?_
            refine AL.cs 79 rfl (fun h16 => ?_) (fun h16 => ?_)
            · replace hr := cnd_t h16 hr
              refine AL.v good (d := 80) (v := .sl .ro 6 (r_st_GMiss q5.2)) rfl rfl rfl rfl ?_
              obtain ⟨x17, h18, hr⟩ := bnd1 hr
              refine AL.ix good (d := 81) (r := [.int .i64 x17.f0, .int .i64 x17.f1.kind, .int .i64 x17.f1.i, .bool x17.f1.b, .str x17.f1.s, .sl .ro 5 (encs x17.f1.t)]) rfl rfl rfl rfl rfl rfl rfl (by decide) (r_st_GMiss_get h18) ?_
              refine AL.v good (d := 82) (v := .ep [.int .i64 x17.f0, .int .i64 x17.f1.kind, .int .i64 x17.f1.i, .bool x17.f1.b, .str x17.f1.s, .sl .ro 5 (encs x17.f1.t)]) rfl rfl rfl rfl ?_
              refine AL.v good (d := 83) (v := .int .i64 x17.f0) rfl rfl rfl rfl ?_
              refine AL.v good (d := 84) (v := .bool (x17.f0 == 0)) rfl rfl rfl rfl ?_
              refine AL.v good (d := 85) (v := .bool (x17.f0 == 0)) rfl rfl rfl rfl ?_
              refine AL.v good (d := 86) (v := .bool (x17.f0 == 0)) rfl rfl rfl rfl ?_
              refine AL.cs 86 rfl (fun h19 => ?_) (fun h19 => ?_)
              · replace hr := cnd_t h19 hr
                refine AL.v good (d := 87) (v := .sl .ro 6 (r_st_GMiss q5.2)) rfl rfl rfl rfl ?_
                obtain ⟨x20, h21, hr⟩ := bnd1 hr
                refine AL.ix good (d := 88) (r := [.int .i64 x20.f0, .int .i64 x20.f1.kind, .int .i64 x20.f1.i, .bool x20.f1.b, .str x20.f1.s, .sl .ro 5 (encs x20.f1.t)]) rfl rfl rfl rfl rfl rfl rfl (by decide) (r_st_GMiss_get h21) ?_
                refine AL.v good (d := 89) (v := .ep [.int .i64 x20.f1.kind, .int .i64 x20.f1.i, .bool x20.f1.b, .str x20.f1.s, .sl .ro 5 (encs x20.f1.t)]) rfl rfl rfl rfl ?_
                refine AL.v good (d := 90) (v := .ep [.int .i64 x20.f1.kind, .int .i64 x20.f1.i, .bool x20.f1.b, .str x20.f1.s, .sl .ro 5 (encs x20.f1.t)]) rfl rfl rfl rfl ?_
                refine AL.v good (d := 91) (v := .int .i64 x20.f1.kind) rfl rfl rfl rfl ?_
                refine AL.v good (d := 92) (v := .bool (x20.f1.kind == 1)) rfl rfl rfl rfl ?_
                refine AL.v good (d := 93) (v := .bool (x20.f1.kind == 1)) rfl rfl rfl rfl ?_
                refine AL.v good (d := 94) (v := .bool (x20.f1.kind == 1)) rfl rfl rfl rfl ?_
                refine AL.cs 94 rfl (fun h22 => ?_) (fun h22 => ?_)
                · replace hr := cnd_t h22 hr
                  refine AL.v good (d := 95) (v := .int .i64 q7.2) rfl rfl rfl rfl ?_
                  refine AL.v good (d := 96) (v := .bool (q7.2 == 8)) rfl rfl rfl rfl ?_
                  refine AL.v good (d := 97) (v := .bool (q7.2 == 8)) rfl rfl rfl rfl ?_
                  refine AL.v good (d := 0) (v := .bool (q7.2 == 8)) rfl rfl rfl rfl ?_
                  refine AW.ret ?_
                  obtain rfl := Option.some.inj hr
                  exact RetQ.w good (.inr rfl) rfl rfl (Wv.refl _) (by simp [pureA, pureL, pureR, inA, inL, inR, inO, idsIn, encs_pure, enxs_pure, enys_pure, valC_pure, exC_pure, tyC_pure, r_int_u8_pure, r_st_GInst_pure, r_sl_st_GInst_pure, r_st_GMiss_pure])
                · replace hr := cnd_f h22 hr
                  refine AL.sk good (d := 95) rfl rfl rfl ?_
                  refine AL.sk good (d := 96) rfl rfl rfl ?_
                  refine AL.v good (d := 97) (v := .bool false) rfl rfl rfl rfl ?_
                  refine AL.v good (d := 0) (v := .bool false) rfl rfl rfl rfl ?_
                  refine AW.ret ?_
                  obtain rfl := Option.some.inj hr
                  exact RetQ.w good (.inr rfl) rfl rfl (Wv.refl _) (by simp [pureA, pureL, pureR, inA, inL, inR, inO, idsIn, encs_pure, enxs_pure, enys_pure, valC_pure, exC_pure, tyC_pure, r_int_u8_pure, r_st_GInst_pure, r_sl_st_GInst_pure, r_st_GMiss_pure])
              · replace hr := cnd_f h19 hr
                refine AL.sk good (d := 87) rfl rfl rfl ?_
                refine AL.sk good (d := 88) rfl rfl rfl ?_
                refine AL.sk good (d := 89) rfl rfl rfl ?_
                refine AL.sk good (d := 90) rfl rfl rfl ?_
                refine AL.sk good (d := 91) rfl rfl rfl ?_
                refine AL.sk good (d := 92) rfl rfl rfl ?_
                refine AL.v good (d := 93) (v := .bool false) rfl rfl rfl rfl ?_
                refine AL.v good (d := 94) (v := .bool false) rfl rfl rfl rfl ?_
                refine AL.sk good (d := 95) rfl rfl rfl ?_
                refine AL.sk good (d := 96) rfl rfl rfl ?_
                refine AL.v good (d := 97) (v := .bool false) rfl rfl rfl rfl ?_
                refine AL.v good (d := 0) (v := .bool false) rfl rfl rfl rfl ?_
                refine AW.ret ?_
                obtain rfl := Option.some.inj hr
                exact RetQ.w good (.inr rfl) rfl rfl (Wv.refl _) (by simp [pureA, pureL, pureR, inA, inL, inR, inO, idsIn, encs_pure, enxs_pure, enys_pure, valC_pure, exC_pure, tyC_pure, r_int_u8_pure, r_st_GInst_pure, r_sl_st_GInst_pure, r_st_GMiss_pure])
            · replace hr := cnd_f h16 hr
              refine AL.sk good (d := 80) rfl rfl rfl ?_
              refine AL.sk good (d := 81) rfl rfl rfl ?_
              refine AL.sk good (d := 82) rfl rfl rfl ?_
              refine AL.sk good (d := 83) rfl rfl rfl ?_
              refine AL.sk good (d := 84) rfl rfl rfl ?_
              refine AL.v good (d := 85) (v := .bool false) rfl rfl rfl rfl ?_
              refine AL.v good (d := 86) (v := .bool false) rfl rfl rfl rfl ?_
              refine AL.sk good (d := 87) rfl rfl rfl ?_
              refine AL.sk good (d := 88) rfl rfl rfl ?_
              refine AL.sk good (d := 89) rfl rfl rfl ?_
              refine AL.sk good (d := 90) rfl rfl rfl ?_
              refine AL.sk good (d := 91) rfl rfl rfl ?_
              refine AL.sk good (d := 92) rfl rfl rfl ?_
              refine AL.v good (d := 93) (v := .bool false) rfl rfl rfl rfl ?_
              refine AL.v good (d := 94) (v := .bool false) rfl rfl rfl rfl ?_
              refine AL.sk good (d := 95) rfl rfl rfl ?_
              refine AL.sk good (d := 96) rfl rfl rfl ?_
              refine AL.v good (d := 97) (v := .bool false) rfl rfl rfl rfl ?_
              refine AL.v good (d := 0) (v := .bool false) rfl rfl rfl rfl ?_
              refine AW.ret ?_
              obtain rfl := Option.some.inj hr
              exact RetQ.w good (.inr rfl) rfl rfl (Wv.refl _) (by simp [pureA, pureL, pureR, inA, inL, inR, inO, idsIn, encs_pure, enxs_pure, enys_pure, valC_pure, exC_pure, tyC_pure, r_int_u8_pure, r_st_GInst_pure, r_sl_st_GInst_pure, r_st_GMiss_pure])
          · replace hr := cnd_f h15 hr
            refine AL.sk good (d := 75) rfl rfl rfl ?_
            refine AL.sk good (d := 76) rfl rfl rfl ?_
            refine AL.sk good (d := 77) rfl rfl rfl ?_
            refine AL.v good (d := 78) (v := .bool false) rfl rfl rfl rfl ?_
            refine AL.v good (d := 79) (v := .bool false) rfl rfl rfl rfl ?_
            refine AL.sk good (d := 80) rfl rfl rfl ?_
            refine AL.sk good (d := 81) rfl rfl rfl ?_
            refine AL.sk good (d := 82) rfl rfl rfl ?_
            refine AL.sk good (d := 83) rfl rfl rfl ?_
            refine AL.sk good (d := 84) rfl rfl rfl ?_
            refine AL.v good (d := 85) (v := .bool false) rfl rfl rfl rfl ?_
            refine AL.v good (d := 86) (v := .bool false) rfl rfl rfl rfl ?_
            refine AL.sk good (d := 87) rfl rfl rfl ?_
            refine AL.sk good (d := 88) rfl rfl rfl ?_
            refine AL.sk good (d := 89) rfl rfl rfl ?_
            refine AL.sk good (d := 90) rfl rfl rfl ?_
            refine AL.sk good (d := 91) rfl rfl rfl ?_
            refine AL.sk good (d := 92) rfl rfl rfl ?_
            refine AL.v good (d := 93) (v := .bool false) rfl rfl rfl rfl ?_
            refine AL.v good (d := 94) (v := .bool false) rfl rfl rfl rfl ?_
            refine AL.sk good (d := 95) rfl rfl rfl ?_
            refine AL.sk good (d := 96) rfl rfl rfl ?_
            refine AL.v good (d := 97) (v := .bool false) rfl rfl rfl rfl ?_
            refine AL.v good (d := 0) (v := .bool false) rfl rfl rfl rfl ?_
            refine AW.ret ?_
            obtain rfl := Option.some.inj hr
            exact RetQ.w good (.inr rfl) rfl rfl (Wv.refl _) (by simp [pureA, pureL, pureR, inA, inL, inR, inO, idsIn, encs_pure, enxs_pure, enys_pure, valC_pure, exC_pure, tyC_pure, r_int_u8_pure, r_st_GInst_pure, r_sl_st_GInst_pure, r_st_GMiss_pure])
        · replace hr := cnd_f h14 hr
          refine AL.sk good (d := 70) rfl rfl rfl ?_
          refine AL.sk good (d := 71) rfl rfl rfl ?_
          refine AL.sk good (d := 72) rfl rfl rfl ?_
          refine AL.v good (d := 73) (v := .bool false) rfl rfl rfl rfl ?_
          refine AL.v good (d := 74) (v := .bool false) rfl rfl rfl rfl ?_
          refine AL.sk good (d := 75) rfl rfl rfl ?_
          refine AL.sk good (d := 76) rfl rfl rfl ?_
          refine AL.sk good (d := 77) rfl rfl rfl ?_
          refine AL.v good (d := 78) (v := .bool false) rfl rfl rfl rfl ?_
          refine AL.v good (d := 79) (v := .bool false) rfl rfl rfl rfl ?_
          refine AL.sk good (d := 80) rfl rfl rfl ?_
          refine AL.sk good (d := 81) rfl rfl rfl ?_
          refine AL.sk good (d := 82) rfl rfl rfl ?_
          refine AL.sk good (d := 83) rfl rfl rfl ?_
          refine AL.sk good (d := 84) rfl rfl rfl ?_
          refine AL.v good (d := 85) (v := .bool false) rfl rfl rfl rfl ?_
          refine AL.v good (d := 86) (v := .bool false) rfl rfl rfl rfl ?_
          refine AL.sk good (d := 87) rfl rfl rfl ?_
          refine AL.sk good (d := 88) rfl rfl rfl ?_
          refine AL.sk good (d := 89) rfl rfl rfl ?_
          refine AL.sk good (d := 90) rfl rfl rfl ?_
          refine AL.sk good (d := 91) rfl rfl rfl ?_
          refine AL.sk good (d := 92) rfl rfl rfl ?_
          refine AL.v good (d := 93) (v := .bool false) rfl rfl rfl rfl ?_
          refine AL.v good (d := 94) (v := .bool false) rfl rfl rfl rfl ?_
          refine AL.sk good (d := 95) rfl rfl rfl ?_
          refine AL.sk good (d := 96) rfl rfl rfl ?_
          refine AL.v good (d := 97) (v := .bool false) rfl rfl rfl rfl ?_
          refine AL.v good (d := 0) (v := .bool false) rfl rfl rfl rfl ?_
          refine AW.ret ?_
          obtain rfl := Option.some.inj hr
          exact RetQ.w good (.inr rfl) rfl rfl (Wv.refl _) (by simp [pureA, pureL, pureR, inA, inL, inR, inO, idsIn, encs_pure, enxs_pure, enys_pure, valC_pure, exC_pure, tyC_pure, r_int_u8_pure, r_st_GInst_pure, r_sl_st_GInst_pure, r_st_GMiss_pure])
      · replace hr := cnd_f h11 hr
        refine AL.sk good (d := 63) rfl rfl rfl ?_
        refine AL.sk good (d := 64) rfl rfl rfl ?_
        refine AL.sk good (d := 65) rfl rfl rfl ?_
        refine AL.sk good (d := 66) rfl rfl rfl ?_
        refine AL.sk good (d := 67) rfl rfl rfl ?_
        refine AL.v good (d := 68) (v := .bool false) rfl rfl rfl rfl ?_
        refine AL.v good (d := 69) (v := .bool false) rfl rfl rfl rfl ?_
        refine AL.sk good (d := 70) rfl rfl rfl ?_
        refine AL.sk good (d := 71) rfl rfl rfl ?_
        refine AL.sk good (d := 72) rfl rfl rfl ?_
        refine AL.v good (d := 73) (v := .bool false) rfl rfl rfl rfl ?_
        refine AL.v good (d := 74) (v := .bool false) rfl rfl rfl rfl ?_
        refine AL.sk good (d := 75) rfl rfl rfl ?_
        refine AL.sk good (d := 76) rfl rfl rfl ?_
        refine AL.sk good (d := 77) rfl rfl rfl ?_
        refine AL.v good (d := 78) (v := .bool false) rfl rfl rfl rfl ?_
        refine AL.v good (d := 79) (v := .bool false) rfl rfl rfl rfl ?_
        refine AL.sk good (d := 80) rfl rfl rfl ?_
        refine AL.sk good (d := 81) rfl rfl rfl ?_
        refine AL.sk good (d := 82) rfl rfl rfl ?_
        refine AL.sk good (d := 83) rfl rfl rfl ?_
        refine AL.sk good (d := 84) rfl rfl rfl ?_
        refine AL.v good (d := 85) (v := .bool false) rfl rfl rfl rfl ?_
        refine AL.v good (d := 86) (v := .bool false) rfl rfl rfl rfl ?_
        refine AL.sk good (d := 87) rfl rfl rfl ?_
        refine AL.sk good (d := 88) rfl rfl rfl ?_
        refine AL.sk good (d := 89) rfl rfl rfl ?_
        refine AL.sk good (d := 90) rfl rfl rfl ?_
        refine AL.sk good (d := 91) rfl rfl rfl ?_
        refine AL.sk good (d := 92) rfl rfl rfl ?_
        refine AL.v good (d := 93) (v := .bool false) rfl rfl rfl rfl ?_
        refine AL.v good (d := 94) (v := .bool false) rfl rfl rfl rfl ?_
        refine AL.sk good (d := 95) rfl rfl rfl ?_
        refine AL.sk good (d := 96) rfl rfl rfl ?_
        refine AL.v good (d := 97) (v := .bool false) rfl rfl rfl rfl ?_
        refine AL.v good (d := 0) (v := .bool false) rfl rfl rfl rfl ?_
        refine AW.ret ?_
        obtain rfl := Option.some.inj hr
        exact RetQ.w good (.inr rfl) rfl rfl (Wv.refl _) (by simp [pureA, pureL, pureR, inA, inL, inR, inO, idsIn, encs_pure, enxs_pure, enys_pure, valC_pure, exC_pure, tyC_pure, r_int_u8_pure, r_st_GInst_pure, r_sl_st_GInst_pure, r_st_GMiss_pure])
    · replace hr := cnd_f h10 hr
      refine AL.sk good (d := 58) rfl rfl rfl ?_
      refine AL.sk good (d := 59) rfl rfl rfl ?_
      refine AL.sk good (d := 60) rfl rfl rfl ?_
      refine AL.v good (d := 61) (v := .bool false) rfl rfl rfl rfl ?_
      refine AL.v good (d := 62) (v := .bool false) rfl rfl rfl rfl ?_
      refine AL.sk good (d := 63) rfl rfl rfl ?_
      refine AL.sk good (d := 64) rfl rfl rfl ?_
      refine AL.sk good (d := 65) rfl rfl rfl ?_
      refine AL.sk good (d := 66) rfl rfl rfl ?_
      refine AL.sk good (d := 67) rfl rfl rfl ?_
      refine AL.v good (d := 68) (v := .bool false) rfl rfl rfl rfl ?_
      refine AL.v good (d := 69) (v := .bool false) rfl rfl rfl rfl ?_
      refine AL.sk good (d := 70) rfl rfl rfl ?_
      refine AL.sk good (d := 71) rfl rfl rfl ?_
      refine AL.sk good (d := 72) rfl rfl rfl ?_
      refine AL.v good (d := 73) (v := .bool false) rfl rfl rfl rfl ?_
      refine AL.v good (d := 74) (v := .bool false) rfl rfl rfl rfl ?_
      refine AL.sk good (d := 75) rfl rfl rfl ?_
      refine AL.sk good (d := 76) rfl rfl rfl ?_
      refine AL.sk good (d := 77) rfl rfl rfl ?_
      refine AL.v good (d := 78) (v := .bool false) rfl rfl rfl rfl ?_
      refine AL.v good (d := 79) (v := .bool false) rfl rfl rfl rfl ?_
      refine AL.sk good (d := 80) rfl rfl rfl ?_
      refine AL.sk good (d := 81) rfl rfl rfl ?_
      refine AL.sk good (d := 82) rfl rfl rfl ?_
      refine AL.sk good (d := 83) rfl rfl rfl ?_
      refine AL.sk good (d := 84) rfl rfl rfl ?_
      refine AL.v good (d := 85) (v := .bool false) rfl rfl rfl rfl ?_
      refine AL.v good (d := 86) (v := .bool false) rfl rfl rfl rfl ?_
      refine AL.sk good (d := 87) rfl rfl rfl ?_
      refine AL.sk good (d := 88) rfl rfl rfl ?_
      refine AL.sk good (d := 89) rfl rfl rfl ?_
      refine AL.sk good (d := 90) rfl rfl rfl ?_
      refine AL.sk good (d := 91) rfl rfl rfl ?_
      refine AL.sk good (d := 92) rfl rfl rfl ?_
      refine AL.v good (d := 93) (v := .bool false) rfl rfl rfl rfl ?_
      refine AL.v good (d := 94) (v := .bool false) rfl rfl rfl rfl ?_
      refine AL.sk good (d := 95) rfl rfl rfl ?_
      refine AL.sk good (d := 96) rfl rfl rfl ?_
      refine AL.v good (d := 97) (v := .bool false) rfl rfl rfl rfl ?_
      refine AL.v good (d := 0) (v := .bool false) rfl rfl rfl rfl ?_
      refine AW.ret ?_
      obtain rfl := Option.some.inj hr
      exact RetQ.w good (.inr rfl) rfl rfl (Wv.refl _) (by simp [pureA, pureL, pureR, inA, inL, inR, inO, idsIn, encs_pure, enxs_pure, enys_pure, valC_pure, exC_pure, tyC_pure, r_int_u8_pure, r_st_GInst_pure, r_sl_st_GInst_pure, r_st_GMiss_pure])
  · replace hr := cnd_f h9 hr
    refine AL.sk good (d := 53) rfl rfl rfl ?_
    refine AL.sk good (d := 54) rfl rfl rfl ?_
    refine AL.sk good (d := 55) rfl rfl rfl ?_
    refine AL.v good (d := 56) (v := .bool false) rfl rfl rfl rfl ?_
    refine AL.v good (d := 57) (v := .bool false) rfl rfl rfl rfl ?_
    refine AL.sk good (d := 58) rfl rfl rfl ?_
    refine AL.sk good (d := 59) rfl rfl rfl ?_
    refine AL.sk good (d := 60) rfl rfl rfl ?_
    refine AL.v good (d := 61) (v := .bool false) rfl rfl rfl rfl ?_
    refine AL.v good (d := 62) (v := .bool false) rfl rfl rfl rfl ?_
    refine AL.sk good (d := 63) rfl rfl rfl ?_
    refine AL.sk good (d := 64) rfl rfl rfl ?_
    refine AL.sk good (d := 65) rfl rfl rfl ?_
    refine AL.sk good (d := 66) rfl rfl rfl ?_
    refine AL.sk good (d := 67) rfl rfl rfl ?_
    refine AL.v good (d := 68) (v := .bool false) rfl rfl rfl rfl ?_
    refine AL.v good (d := 69) (v := .bool false) rfl rfl rfl rfl ?_
    refine AL.sk good (d := 70) rfl rfl rfl ?_
    refine AL.sk good (d := 71) rfl rfl rfl ?_
    refine AL.sk good (d := 72) rfl rfl rfl ?_
    refine AL.v good (d := 73) (v := .bool false) rfl rfl rfl rfl ?_
    refine AL.v good (d := 74) (v := .bool false) rfl rfl rfl rfl ?_
    refine AL.sk good (d := 75) rfl rfl rfl ?_
    refine AL.sk good (d := 76) rfl rfl rfl ?_
    refine AL.sk good (d := 77) rfl rfl rfl ?_
    refine AL.v good (d := 78) (v := .bool false) rfl rfl rfl rfl ?_
    refine AL.v good (d := 79) (v := .bool false) rfl rfl rfl rfl ?_
    refine AL.sk good (d := 80) rfl rfl rfl ?_
    refine AL.sk good (d := 81) rfl rfl rfl ?_
    refine AL.sk good (d := 82) rfl rfl rfl ?_
    refine AL.sk good (d := 83) rfl rfl rfl ?_
    refine AL.sk good (d := 84) rfl rfl rfl ?_
    refine AL.v good (d := 85) (v := .bool false) rfl rfl rfl rfl ?_
    refine AL.v good (d := 86) (v := .bool false) rfl rfl rfl rfl ?_
    refine AL.sk good (d := 87) rfl rfl rfl ?_
    refine AL.sk good (d := 88) rfl rfl rfl ?_
    refine AL.sk good (d := 89) rfl rfl rfl ?_
    refine AL.sk good (d := 90) rfl rfl rfl ?_
    refine AL.sk good (d := 91) rfl rfl rfl ?_
    refine AL.sk good (d := 92) rfl rfl rfl ?_
    refine AL.v good (d := 93) (v := .bool false) rfl rfl rfl rfl ?_
    refine AL.v good (d := 94) (v := .bool false) rfl rfl rfl rfl ?_
    refine AL.sk good (d := 95) rfl rfl rfl ?_
    refine AL.sk good (d := 96) rfl rfl rfl ?_
    refine AL.v good (d := 97) (v := .bool false) rfl rfl rfl rfl ?_
    refine AL.v good (d := 0) (v := .bool false) rfl rfl rfl rfl ?_
    refine AW.ret ?_
    obtain rfl := Option.some.inj hr
    exact RetQ.w good (.inr rfl) rfl rfl (Wv.refl _) (by simp [pureA, pureL, pureR, inA, inL, inR, inO, idsIn, encs_pure, enxs_pure, enys_pure, valC_pure, exC_pure, tyC_pure, r_int_u8_pure, r_st_GInst_pure, r_sl_st_GInst_pure, r_st_GMiss_pure])

end Go.Proofs.Ytbcjcekoonebiaa.Tl
