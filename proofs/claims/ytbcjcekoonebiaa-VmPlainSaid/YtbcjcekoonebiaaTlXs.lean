/- Walks: values and expressions are made. Conditions: none. -/
import Derived.Test.YtbcjcekoonebiaaTlU
import Derived.Test.YtbcjcekoonebiaaTlWh
set_option linter.unusedVariables false
set_option linter.unusedSimpArgs false
namespace Go.Proofs.Ytbcjcekoonebiaa.Tl
open Go Go.RowKit




theorem w_f28 (a0 : Int) : ACall Try.prog 28 [.int .i64 a0] (.agg [.int .i64 1, .int .i64 a0, .bool false, .str ⟨#[]⟩, .sl .ro 5 (encs [])]) := by
  refine ACall.go [(0, .int .i64 a0)] Try.func28 rfl Try.ntmps28 rfl rfl (by simp [pureA, pureL, pureR, inA, inL, inR, inO, idsIn, encs_pure, enxs_pure, enys_pure, valC_pure, exC_pure, tyC_pure]) ?_
  refine AW.seq ?_
  refine AW.region (M := fun _ => true) ?_
  refine AL.alc good (d := 2) rfl rfl rfl rfl rfl 0 rfl ?_
  refine AW.seq ?_
  refine AW.region (M := fun _ => true) ?_
  refine AL.v good (d := 3) (v := .int .i64 a0) rfl rfl rfl rfl ?_
  refine AL.bld good (d := 4) (l := [.int .i64 1, .int .i64 a0, .bool false, .str ⟨#[]⟩, .sl .nil 0 []]) rfl rfl rfl rfl rfl rfl rfl ?_
  refine AL.st2 good (c2 := [.int .i64 1, .int .i64 a0, .bool false, .str ⟨#[]⟩, .sl .nil 0 []]) rfl rfl rfl rfl rfl rfl rfl rfl rfl rfl rfl rfl ?_
  refine AW.ret ?_
  exact RetQ.w good (.inr rfl) rfl rfl ⟨Wv.refl _, Wv.refl _, Wv.refl _, Wv.refl _, ⟨.inr rfl, trivial, .inr rfl⟩, trivial⟩ (by simp [pureA, pureL, pureR, inA, inL, inR, inO, idsIn, encs_pure, enxs_pure, enys_pure, valC_pure, exC_pure, tyC_pure])


theorem w_f29  : ACall Try.prog 29 [] (.agg [.str ⟨#[120]⟩, .int .i64 0, .int .i64 0, .bool false, .str ⟨#[]⟩, .sl .ro 5 (encs []), .int .i64 0, .sl .ro 8 (enxs [])]) := by
  refine ACall.go [] Try.func29 rfl Try.ntmps29 rfl rfl (by simp [pureA, pureL, pureR, inA, inL, inR, inO, idsIn, encs_pure, enxs_pure, enys_pure, valC_pure, exC_pure, tyC_pure]) ?_
  refine AW.seq ?_
  refine AW.region (M := fun _ => true) ?_
  refine AL.alc good (d := 0) rfl rfl rfl rfl rfl 0 rfl ?_
  refine AW.seq ?_
  refine AW.region (M := fun _ => true) ?_
  refine AL.bld good (d := 1) (l := [.str ⟨#[120]⟩, .int .i64 0, .int .i64 0, .bool false, .str ⟨#[]⟩, .sl .nil 0 [], .int .i64 0, .sl .nil 0 []]) rfl rfl rfl rfl rfl rfl rfl ?_
  refine AL.st2 good (c2 := [.str ⟨#[120]⟩, .int .i64 0, .int .i64 0, .bool false, .str ⟨#[]⟩, .sl .nil 0 [], .int .i64 0, .sl .nil 0 []]) rfl rfl rfl rfl rfl rfl rfl rfl rfl rfl rfl rfl ?_
  refine AW.ret ?_
  exact RetQ.w good (.inr rfl) rfl rfl ⟨Wv.refl _, Wv.refl _, Wv.refl _, Wv.refl _, Wv.refl _, ⟨.inr rfl, trivial, .inr rfl⟩, Wv.refl _, ⟨.inr rfl, trivial, .inr rfl⟩, trivial⟩ (by simp [pureA, pureL, pureR, inA, inL, inR, inO, idsIn, encs_pure, enxs_pure, enys_pure, valC_pure, exC_pure, tyC_pure])


theorem w_f30 (a0 : ByteArray) (a1 : List Ex) : ACall Try.prog 30 [.str a0, .sl .ro 8 (enxs a1)] (.agg [.str a0, .int .i64 0, .int .i64 0, .bool false, .str ⟨#[]⟩, .sl .ro 5 (encs []), .int .i64 0, .sl .ro 8 (enxs a1)]) := by
  refine ACall.go [(0, .str a0), (1, .sl .ro 8 (enxs a1))] Try.func30 rfl Try.ntmps30 rfl rfl (by simp [pureA, pureL, pureR, inA, inL, inR, inO, idsIn, encs_pure, enxs_pure, enys_pure, valC_pure, exC_pure, tyC_pure]) ?_
  refine AW.seq ?_
  refine AW.region (M := fun _ => true) ?_
  refine AL.alc good (d := 4) rfl rfl rfl rfl rfl 0 rfl ?_
  refine AW.seq ?_
  refine AW.region (M := fun _ => true) ?_
  refine AL.v good (d := 5) (v := .str a0) rfl rfl rfl rfl ?_
  refine AL.v good (d := 6) (v := .sl .ro 8 (enxs a1)) rfl rfl rfl rfl ?_
  refine AL.bld good (d := 7) (l := [.str a0, .int .i64 0, .int .i64 0, .bool false, .str ⟨#[]⟩, .sl .nil 0 [], .int .i64 0, .sl .ro 8 (enxs a1)]) rfl rfl rfl rfl rfl rfl rfl ?_
  refine AL.st2 good (c2 := [.str a0, .int .i64 0, .int .i64 0, .bool false, .str ⟨#[]⟩, .sl .nil 0 [], .int .i64 0, .sl .ro 8 (enxs a1)]) rfl rfl rfl rfl rfl rfl rfl rfl rfl rfl rfl rfl ?_
  refine AW.ret ?_
  exact RetQ.w good (.inr rfl) rfl rfl ⟨Wv.refl _, Wv.refl _, Wv.refl _, Wv.refl _, Wv.refl _, ⟨.inr rfl, trivial, .inr rfl⟩, Wv.refl _, Wv.refl _, trivial⟩ (by simp [pureA, pureL, pureR, inA, inL, inR, inO, idsIn, encs_pure, enxs_pure, enys_pure, valC_pure, exC_pure, tyC_pure])


theorem w_f31 (a0 : Val) : ACall Try.prog 31 [.agg (valC a0)] (.agg [.str ⟨#[108, 105, 116]⟩, .int .i64 a0.kind, .int .i64 a0.i, .bool a0.b, .str a0.s, .sl .ro 5 (encs a0.t), .int .i64 0, .sl .ro 8 (enxs [])]) := by
  refine ACall.go [(0, .agg (valC a0))] Try.func31 rfl Try.ntmps31 rfl rfl (by simp [pureA, pureL, pureR, inA, inL, inR, inO, idsIn, encs_pure, enxs_pure, enys_pure, valC_pure, exC_pure, tyC_pure]) ?_
  refine AW.seq ?_
  refine AW.region (M := fun _ => true) ?_
  refine AL.bx good (d := 1) (l := [.int .i64 a0.kind, .int .i64 a0.i, .bool a0.b, .str a0.s, .sl .ro 5 (encs a0.t)]) rfl rfl rfl rfl rfl rfl 0 rfl ?_
  refine AL.alc good (d := 2) rfl rfl rfl rfl rfl 1 rfl ?_
  refine AW.seq ?_
  refine AW.region (M := fun _ => true) ?_
  refine AL.v good (d := 3) (v := .agg [.int .i64 a0.kind, .int .i64 a0.i, .bool a0.b, .str a0.s, .sl .ro 5 (encs a0.t)]) rfl rfl rfl rfl ?_
  refine AL.bld good (d := 4) (l := [.str ⟨#[108, 105, 116]⟩, .int .i64 a0.kind, .int .i64 a0.i, .bool a0.b, .str a0.s, .sl .ro 5 (encs a0.t), .int .i64 0, .sl .nil 0 []]) rfl rfl rfl rfl rfl rfl rfl ?_
  refine AL.st2 good (c2 := [.str ⟨#[108, 105, 116]⟩, .int .i64 a0.kind, .int .i64 a0.i, .bool a0.b, .str a0.s, .sl .ro 5 (encs a0.t), .int .i64 0, .sl .nil 0 []]) rfl rfl rfl rfl rfl rfl rfl rfl rfl rfl rfl rfl ?_
  refine AW.ret ?_
  exact RetQ.w good (.inr rfl) rfl rfl ⟨Wv.refl _, Wv.refl _, Wv.refl _, Wv.refl _, Wv.refl _, Wv.refl _, Wv.refl _, ⟨.inr rfl, trivial, .inr rfl⟩, trivial⟩ (by simp [pureA, pureL, pureR, inA, inL, inR, inO, idsIn, encs_pure, enxs_pure, enys_pure, valC_pure, exC_pure, tyC_pure])


theorem w_f32 (a0 : Bool) : ACall Try.prog 32 [.bool a0] (.agg [.int .i64 2, .int .i64 0, .bool a0, .str ⟨#[]⟩, .sl .ro 5 (encs [])]) := by
  refine ACall.go [(0, .bool a0)] Try.func32 rfl Try.ntmps32 rfl rfl (by simp [pureA, pureL, pureR, inA, inL, inR, inO, idsIn, encs_pure, enxs_pure, enys_pure, valC_pure, exC_pure, tyC_pure]) ?_
  refine AW.seq ?_
  refine AW.region (M := fun _ => true) ?_
  refine AL.alc good (d := 2) rfl rfl rfl rfl rfl 0 rfl ?_
  refine AW.seq ?_
  refine AW.region (M := fun _ => true) ?_
  refine AL.v good (d := 3) (v := .bool a0) rfl rfl rfl rfl ?_
  refine AL.bld good (d := 4) (l := [.int .i64 2, .int .i64 0, .bool a0, .str ⟨#[]⟩, .sl .nil 0 []]) rfl rfl rfl rfl rfl rfl rfl ?_
  refine AL.st2 good (c2 := [.int .i64 2, .int .i64 0, .bool a0, .str ⟨#[]⟩, .sl .nil 0 []]) rfl rfl rfl rfl rfl rfl rfl rfl rfl rfl rfl rfl ?_
  refine AW.ret ?_
  exact RetQ.w good (.inr rfl) rfl rfl ⟨Wv.refl _, Wv.refl _, Wv.refl _, Wv.refl _, ⟨.inr rfl, trivial, .inr rfl⟩, trivial⟩ (by simp [pureA, pureL, pureR, inA, inL, inR, inO, idsIn, encs_pure, enxs_pure, enys_pure, valC_pure, exC_pure, tyC_pure])


theorem w_f33 (a0 : ByteArray) : ACall Try.prog 33 [.str a0] (.agg [.int .i64 3, .int .i64 0, .bool false, .str a0, .sl .ro 5 (encs [])]) := by
  refine ACall.go [(0, .str a0)] Try.func33 rfl Try.ntmps33 rfl rfl (by simp [pureA, pureL, pureR, inA, inL, inR, inO, idsIn, encs_pure, enxs_pure, enys_pure, valC_pure, exC_pure, tyC_pure]) ?_
  refine AW.seq ?_
  refine AW.region (M := fun _ => true) ?_
  refine AL.alc good (d := 2) rfl rfl rfl rfl rfl 0 rfl ?_
  refine AW.seq ?_
  refine AW.region (M := fun _ => true) ?_
  refine AL.v good (d := 3) (v := .str a0) rfl rfl rfl rfl ?_
  refine AL.bld good (d := 4) (l := [.int .i64 3, .int .i64 0, .bool false, .str a0, .sl .nil 0 []]) rfl rfl rfl rfl rfl rfl rfl ?_
  refine AL.st2 good (c2 := [.int .i64 3, .int .i64 0, .bool false, .str a0, .sl .nil 0 []]) rfl rfl rfl rfl rfl rfl rfl rfl rfl rfl rfl rfl ?_
  refine AW.ret ?_
  exact RetQ.w good (.inr rfl) rfl rfl ⟨Wv.refl _, Wv.refl _, Wv.refl _, Wv.refl _, ⟨.inr rfl, trivial, .inr rfl⟩, trivial⟩ (by simp [pureA, pureL, pureR, inA, inL, inR, inO, idsIn, encs_pure, enxs_pure, enys_pure, valC_pure, exC_pure, tyC_pure])


theorem w_f53 (a0 : Int) : ACall Try.prog 53 [.int .i64 a0] (.agg [.int .i64 1, .int .i64 a0, .bool false, .str ⟨#[]⟩, .sl .ro 5 (encs [])]) := by
  refine ACall.go [(0, .int .i64 a0)] Try.func53 rfl Try.ntmps53 rfl rfl (by simp [pureA, pureL, pureR, inA, inL, inR, inO, idsIn, encs_pure, enxs_pure, enys_pure, valC_pure, exC_pure, tyC_pure]) ?_
  refine AW.seq ?_
  refine AW.region (M := fun _ => true) ?_
  refine AL.alc good (d := 2) rfl rfl rfl rfl rfl 0 rfl ?_
  refine AW.seq ?_
  refine AW.region (M := fun _ => true) ?_
  refine AL.v good (d := 3) (v := .int .i64 a0) rfl rfl rfl rfl ?_
  refine AL.bld good (d := 4) (l := [.int .i64 1, .int .i64 a0, .bool false, .str ⟨#[]⟩, .sl .nil 0 []]) rfl rfl rfl rfl rfl rfl rfl ?_
  refine AL.st2 good (c2 := [.int .i64 1, .int .i64 a0, .bool false, .str ⟨#[]⟩, .sl .nil 0 []]) rfl rfl rfl rfl rfl rfl rfl rfl rfl rfl rfl rfl ?_
  refine AW.ret ?_
  exact RetQ.w good (.inr rfl) rfl rfl ⟨Wv.refl _, Wv.refl _, Wv.refl _, Wv.refl _, ⟨.inr rfl, trivial, .inr rfl⟩, trivial⟩ (by simp [pureA, pureL, pureR, inA, inL, inR, inO, idsIn, encs_pure, enxs_pure, enys_pure, valC_pure, exC_pure, tyC_pure])


theorem w_f99 (a0 : Bool) : ACall Try.prog 99 [.bool a0] (.agg [.int .i64 2, .int .i64 0, .bool a0, .str ⟨#[]⟩, .sl .ro 5 (encs [])]) := by
  refine ACall.go [(0, .bool a0)] Try.func99 rfl Try.ntmps99 rfl rfl (by simp [pureA, pureL, pureR, inA, inL, inR, inO, idsIn, encs_pure, enxs_pure, enys_pure, valC_pure, exC_pure, tyC_pure]) ?_
  refine AW.seq ?_
  refine AW.region (M := fun _ => true) ?_
  refine AL.alc good (d := 2) rfl rfl rfl rfl rfl 0 rfl ?_
  refine AW.seq ?_
  refine AW.region (M := fun _ => true) ?_
  refine AL.v good (d := 3) (v := .bool a0) rfl rfl rfl rfl ?_
  refine AL.bld good (d := 4) (l := [.int .i64 2, .int .i64 0, .bool a0, .str ⟨#[]⟩, .sl .nil 0 []]) rfl rfl rfl rfl rfl rfl rfl ?_
  refine AL.st2 good (c2 := [.int .i64 2, .int .i64 0, .bool a0, .str ⟨#[]⟩, .sl .nil 0 []]) rfl rfl rfl rfl rfl rfl rfl rfl rfl rfl rfl rfl ?_
  refine AW.ret ?_
  exact RetQ.w good (.inr rfl) rfl rfl ⟨Wv.refl _, Wv.refl _, Wv.refl _, Wv.refl _, ⟨.inr rfl, trivial, .inr rfl⟩, trivial⟩ (by simp [pureA, pureL, pureR, inA, inL, inR, inO, idsIn, encs_pure, enxs_pure, enys_pure, valC_pure, exC_pure, tyC_pure])


theorem w_f121 (a0 : Int) : ACall Try.prog 121 [.int .i64 a0] (.agg [.int .i64 a0, .sl .ro 2 (enys [])]) := by
  refine ACall.go [(0, .int .i64 a0)] Try.func121 rfl Try.ntmps121 rfl rfl (by simp [pureA, pureL, pureR, inA, inL, inR, inO, idsIn, encs_pure, enxs_pure, enys_pure, valC_pure, exC_pure, tyC_pure]) ?_
  refine AW.seq ?_
  refine AW.region (M := fun _ => true) ?_
  refine AL.alc good (d := 2) rfl rfl rfl rfl rfl 0 rfl ?_
  refine AW.seq ?_
  refine AW.region (M := fun _ => true) ?_
  refine AL.v good (d := 3) (v := .int .i64 a0) rfl rfl rfl rfl ?_
  refine AL.bld good (d := 4) (l := [.int .i64 a0, .sl .nil 0 []]) rfl rfl rfl rfl rfl rfl rfl ?_
  refine AL.st2 good (c2 := [.int .i64 a0, .sl .nil 0 []]) rfl rfl rfl rfl rfl rfl rfl rfl rfl rfl rfl rfl ?_
  refine AW.ret ?_
  exact RetQ.w good (.inr rfl) rfl rfl ⟨Wv.refl _, ⟨.inr rfl, trivial, .inr rfl⟩, trivial⟩ (by simp [pureA, pureL, pureR, inA, inL, inR, inO, idsIn, encs_pure, enxs_pure, enys_pure, valC_pure, exC_pure, tyC_pure])

end Go.Proofs.Ytbcjcekoonebiaa.Tl
