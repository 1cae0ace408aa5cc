/- Definitions and walks: a value read. Conditions: none. -/
import Derived.Test.YtbcjcekoonebiaaTlYc
set_option linter.unusedVariables false
set_option linter.unusedSimpArgs false
namespace Go.Proofs.Ytbcjcekoonebiaa.Tl
open Go Go.RowKit



mutual
def s_f83 : Nat → GReader → Int → Option (GReader × Val)
  | 0, _, _ => none
  | n + 1, a0, a1 => ((s_f114 n a0).bind fun q1 => (bif ((IntKind.i64.wrap (q1.2)) == 1) then ((s_f115 n q1.1).bind fun q4 => some (q4.1, (Val.mk 1 (bits .xor .i64 (IntKind.i64.wrap ((q4.2.fdiv (2 ^ 1)))) (IntKind.i64.wrap (0 - (IntKind.i64.wrap ((bits .and .u64 q4.2 1)))))) false ⟨#[]⟩ []))) else (bif ((IntKind.i64.wrap (q1.2)) == 2) then ((s_f114 n q1.1).bind fun q7 => (bif (decide (q7.2 > 1)) then ((s_f116 n q7.1 2).bind fun q10 => some (q10, (Val.mk 2 0 (q7.2 == 1) ⟨#[]⟩ []))) else some (q7.1, (Val.mk 2 0 (q7.2 == 1) ⟨#[]⟩ [])))) else (bif ((IntKind.i64.wrap (q1.2)) == 3) then ((s_f117 n q1.1 255).bind fun q13 => some (q13.1, (Val.mk 3 0 false q13.2 []))) else (bif ((IntKind.i64.wrap (q1.2)) == 4) then ((s_f114 n q1.1).bind fun q16 => (bif (q16.1.f2 == 0) then ((s_f118 n (IntKind.i64.wrap (q16.2)) a1).bind fun q19 => ((s_f116 n q16.1 q19).bind fun q21 => (s_f83_l1 n a1 q1 q16 0 q21.f0 q21.f1 q21.f2 []))) else (s_f83_l2 n q1 q16))) else ((s_f116 n q1.1 5).bind fun q35 => some (q35, (Val.mk 0 0 false ⟨#[]⟩ []))))))))
def s_f83_l1 : Nat → Int → (GReader × Int) → (GReader × Int) → Int → (List Int) → Int → Int → (List Val) → Option (GReader × Val)
  | 0, _, _, _, _, _, _, _, _ => none
  | n + 1, a1, q1, q16, v1_1, v1_2, v1_3, v1_4, v1_5 => (bif (decide (v1_1 < (IntKind.i64.wrap (q16.2)))) then (bif (v1_4 == 0) then ((s_f83 n (GReader.mk v1_2 v1_3 v1_4) (IntKind.i64.wrap (a1 + 1))).bind fun q30 => (if v1_5.length + 1 ≤ 1000000 then (s_f83_l1 n a1 q1 q16 (IntKind.i64.wrap (v1_1 + 1)) q30.1.f0 q30.1.f1 q30.1.f2 (v1_5 ++ [q30.2])) else none)) else some ((GReader.mk v1_2 v1_3 v1_4), (Val.mk (IntKind.i64.wrap (q1.2)) 0 false ⟨#[]⟩ v1_5))) else some ((GReader.mk v1_2 v1_3 v1_4), (Val.mk (IntKind.i64.wrap (q1.2)) 0 false ⟨#[]⟩ v1_5)))
def s_f83_l2 : Nat → (GReader × Int) → (GReader × Int) → Option (GReader × Val)
  | 0, _, _ => none
  | n + 1, q1, q16 => (bif (decide (0 < (IntKind.i64.wrap (q16.2)))) then some (q16.1, (Val.mk (IntKind.i64.wrap (q1.2)) 0 false ⟨#[]⟩ [])) else some (q16.1, (Val.mk (IntKind.i64.wrap (q1.2)) 0 false ⟨#[]⟩ [])))
end

theorem w_f83_1_a (n : Nat) (ih : ∀ (m : Nat) (a0 : GReader) (a1 : Int) (r : GReader × Val), s_f83 m a0 a1 = some r → m < n → ACallH Try.prog 83 [.ptr 1 0, .int .i64 a1] [(1, .box 160 [.sl .ro 1 (r_int_u8 a0.f0), .int .i64 a0.f1, .int .i64 a0.f2])] [(1, .box 160 [.sl .ro 1 (r_int_u8 r.1.f0), .int .i64 r.1.f1, .int .i64 r.1.f2])] (.agg (valC r.2))) (a0 : GReader) (a1 : Int) (r : GReader × Val) (hr : s_f83 n a0 a1 = some r) : ACallH Try.prog 83 [.ptr 1 0, .int .i64 a1] [(1, .box 160 [.sl .ro 1 (r_int_u8 a0.f0), .int .i64 a0.f1, .int .i64 a0.f2])] [(1, .box 160 [.sl .ro 1 (r_int_u8 r.1.f0), .int .i64 r.1.f1, .int .i64 r.1.f2])] (.agg (valC r.2)) := by
  refine ACallH.go [(0, .ptr 1 0), (1, .int .i64 a1)] [(1, .box 160 [.sl .ro 1 (r_int_u8 a0.f0), .int .i64 a0.f1, .int .i64 a0.f2])] Try.func83 rfl Try.ntmps83 rfl rfl rfl (by simp [pureA, pureL, pureR, inA, inL, inR, inO, idsIn, encs_pure, enxs_pure, enys_pure, valC_pure, exC_pure, tyC_pure, r_int_u8_pure]) (List.forall_mem_cons.2 ⟨(by simp [pureA, pureL, pureR, inA, inL, inR, inO, idsIn, encs_pure, enxs_pure, enys_pure, valC_pure, exC_pure, tyC_pure, r_int_u8_pure]), (fun _ h => by cases h)⟩) (List.forall_mem_cons.2 ⟨⟨rfl, (by simp [pureA, pureL, pureR, inA, inL, inR, inO, idsIn, encs_pure, enxs_pure, enys_pure, valC_pure, exC_pure, tyC_pure, r_int_u8_pure])⟩, (fun _ h => by cases h)⟩) (by simp [pureA, pureL, pureR, inA, inL, inR, inO, idsIn, encs_pure, enxs_pure, enys_pure, valC_pure, exC_pure, tyC_pure, r_int_u8_pure]) ?_
  cases n with
  | zero => rw [s_f83] at hr; cases hr
  | succ n =>
    rw [s_f83] at hr
    refine AW.seq ?_
    refine AW.region (M := fun _ => true) ?_
    refine AL.alc good (d := 4) rfl rfl rfl rfl rfl 2 rfl ?_
    refine AW.seq ?_
    refine AW.region (M := fun _ => true) ?_
    refine AL.v good (d := 11) (v := .ptr 1 0) rfl rfl rfl rfl ?_
    obtain ⟨q1, h2, hr⟩ := bnd1 hr
    refine AL.clW good (d := 12) (xs := [.ptr 1 0]) (rd := [(1, .box 160 [.sl .ro 1 (r_int_u8 a0.f0), .int .i64 a0.f1, .int .i64 a0.f2])]) (up := [(1, .box 160 [.sl .ro 1 (r_int_u8 q1.1.f0), .int .i64 q1.1.f1, .int .i64 q1.1.f2])]) (res := .int .u8 q1.2) rfl rfl rfl rfl rfl rfl rfl (w_f114_1 _ _ _ h2) ⟨(Wv.refl _), trivial⟩ (List.forall_mem_cons.2 ⟨rfl, (fun _ h => by cases h)⟩) (List.forall_mem_cons.2 ⟨⟨_, .head _⟩, (fun _ h => by cases h)⟩) rfl rfl ?_
    refine AL.v good (d := 13) (v := .int .i64 (IntKind.i64.wrap (q1.2))) rfl rfl rfl rfl ?_
    refine AL.v good (d := 5) (v := .int .i64 (IntKind.i64.wrap (q1.2))) rfl rfl rfl rfl ?_
    refine AW.seq ?_
    refine AW.seq ?_
    refine AW.region (M := fun _ => true) ?_
    refine AL.v good (d := 14) (v := .int .i64 (IntKind.i64.wrap (q1.2))) rfl rfl rfl rfl ?_
    refine AW.block ?_
    refine AW.seq ?_
    refine AW.region (M := fun _ => true) ?_
    refine AL.v good (d := 16) (v := .bool ((IntKind.i64.wrap (q1.2)) == 1)) rfl rfl rfl rfl ?_
    refine AL.v good (d := 15) (v := .bool ((IntKind.i64.wrap (q1.2)) == 1)) rfl rfl rfl rfl ?_
    refine AW.if rfl (fun h3 => ?_) (fun h3 => ?_)
    · replace hr := cnd_t h3 hr
      refine AW.seq ?_
      refine AW.region (M := fun _ => true) ?_
      refine AL.v good (d := 17) (v := .ptr 1 0) rfl rfl rfl rfl ?_
      obtain ⟨q4, h5, hr⟩ := bnd1 hr
      refine AL.clW good (d := 18) (xs := [.ptr 1 0]) (rd := [(1, .box 160 [.sl .ro 1 (r_int_u8 q1.1.f0), .int .i64 q1.1.f1, .int .i64 q1.1.f2])]) (up := [(1, .box 160 [.sl .ro 1 (r_int_u8 q4.1.f0), .int .i64 q4.1.f1, .int .i64 q4.1.f2])]) (res := .int .u64 q4.2) rfl rfl rfl rfl rfl rfl rfl (w_f115_1 _ _ _ h5) ⟨(Wv.refl _), trivial⟩ (List.forall_mem_cons.2 ⟨rfl, (fun _ h => by cases h)⟩) (List.forall_mem_cons.2 ⟨⟨_, .head _⟩, (fun _ h => by cases h)⟩) rfl rfl ?_
      refine AL.v good (d := 6) (v := .int .u64 q4.2) rfl rfl rfl rfl ?_
      refine AW.seq ?_
      refine AW.region (M := fun _ => true) ?_
      refine AL.v good (d := 19) (v := .int .u64 q4.2) rfl rfl rfl rfl ?_
      refine AL.v good (d := 20) (v := .int .u64 (q4.2.fdiv (2 ^ 1))) rfl rfl rfl rfl ?_
      refine AL.v good (d := 21) (v := .int .i64 (IntKind.i64.wrap ((q4.2.fdiv (2 ^ 1))))) rfl rfl rfl rfl ?_
      refine AL.v good (d := 22) (v := .int .u64 q4.2) rfl rfl rfl rfl ?_
      refine AL.v good (d := 23) (v := .int .u64 (bits .and .u64 q4.2 1)) rfl rfl rfl rfl ?_
      refine AL.v good (d := 24) (v := .int .i64 (IntKind.i64.wrap ((bits .and .u64 q4.2 1)))) rfl rfl rfl rfl ?_
      refine AL.v good (d := 25) (v := .int .i64 (IntKind.i64.wrap (0 - (IntKind.i64.wrap ((bits .and .u64 q4.2 1)))))) rfl rfl rfl rfl ?_
      refine AL.v good (d := 26) (v := .int .i64 (bits .xor .i64 (IntKind.i64.wrap ((q4.2.fdiv (2 ^ 1)))) (IntKind.i64.wrap (0 - (IntKind.i64.wrap ((bits .and .u64 q4.2 1))))))) rfl rfl rfl rfl ?_
      refine AL.cw good (d := 27) (xs := [.int .i64 (bits .xor .i64 (IntKind.i64.wrap ((q4.2.fdiv (2 ^ 1)))) (IntKind.i64.wrap (0 - (IntKind.i64.wrap ((bits .and .u64 q4.2 1))))))]) (res := .agg [.int .i64 1, .int .i64 (bits .xor .i64 (IntKind.i64.wrap ((q4.2.fdiv (2 ^ 1)))) (IntKind.i64.wrap (0 - (IntKind.i64.wrap ((bits .and .u64 q4.2 1)))))), .bool false, .str ⟨#[]⟩, .sl .ro 5 (encs [])]) rfl rfl rfl rfl rfl rfl rfl (w_f28 (bits .xor .i64 (IntKind.i64.wrap ((q4.2.fdiv (2 ^ 1)))) (IntKind.i64.wrap (0 - (IntKind.i64.wrap ((bits .and .u64 q4.2 1))))))) ⟨(Wv.refl _), trivial⟩ (by simp [pureA, pureL, pureR, inA, inL, inR, inO, idsIn, encs_pure, enxs_pure, enys_pure, valC_pure, exC_pure, tyC_pure, r_int_u8_pure]) ?_
      refine AL.st2 good (c2 := [.int .i64 1, .int .i64 (bits .xor .i64 (IntKind.i64.wrap ((q4.2.fdiv (2 ^ 1)))) (IntKind.i64.wrap (0 - (IntKind.i64.wrap ((bits .and .u64 q4.2 1)))))), .bool false, .str ⟨#[]⟩, .sl .ro 5 (encs [])]) rfl rfl rfl rfl rfl rfl rfl rfl rfl rfl rfl rfl ?_
      refine AW.ret ?_
      obtain rfl := Option.some.inj hr
      exact RetH.w good (.inr rfl) rfl rfl (Wv.refl _) (List.forall_mem_cons.2 ⟨rfl, (fun _ h => by cases h)⟩)
    · replace hr := cnd_f h3 hr
      refine AW.seq ?_
      refine AW.region (M := fun _ => true) ?_
      refine AL.v good (d := 29) (v := .bool ((IntKind.i64.wrap (q1.2)) == 2)) rfl rfl rfl rfl ?_
      refine AL.v good (d := 28) (v := .bool ((IntKind.i64.wrap (q1.2)) == 2)) rfl rfl rfl rfl ?_
      refine AW.if rfl (fun h6 => ?_) (fun h6 => ?_)
      · replace hr := cnd_t h6 hr
        refine AW.seq ?_
        refine AW.region (M := fun _ => true) ?_
        refine AL.v good (d := 30) (v := .ptr 1 0) rfl rfl rfl rfl ?_
        obtain ⟨q7, h8, hr⟩ := bnd1 hr
        refine AL.clW good (d := 31) (xs := [.ptr 1 0]) (rd := [(1, .box 160 [.sl .ro 1 (r_int_u8 q1.1.f0), .int .i64 q1.1.f1, .int .i64 q1.1.f2])]) (up := [(1, .box 160 [.sl .ro 1 (r_int_u8 q7.1.f0), .int .i64 q7.1.f1, .int .i64 q7.1.f2])]) (res := .int .u8 q7.2) rfl rfl rfl rfl rfl rfl rfl (w_f114_1 _ _ _ h8) ⟨(Wv.refl _), trivial⟩ (List.forall_mem_cons.2 ⟨rfl, (fun _ h => by cases h)⟩) (List.forall_mem_cons.2 ⟨⟨_, .head _⟩, (fun _ h => by cases h)⟩) rfl rfl ?_
        refine AL.v good (d := 7) (v := .int .u8 q7.2) rfl rfl rfl rfl ?_
        refine AW.seq ?_
        refine AW.seq ?_
        refine AW.region (M := fun _ => true) ?_
        refine AL.v good (d := 32) (v := .int .u8 q7.2) rfl rfl rfl rfl ?_
        refine AL.v good (d := 33) (v := .bool (decide (q7.2 > 1))) rfl rfl rfl rfl ?_
        refine AW.if rfl (fun h9 => ?_) (fun h9 => ?_)
        · replace hr := cnd_t h9 hr
          refine AW.region (M := fun _ => true) ?_
          refine AL.v good (d := 34) (v := .ptr 1 0) rfl rfl rfl rfl ?_
          obtain ⟨q10, h11, hr⟩ := bnd1 hr
          refine AL.clW good (d := 35) (xs := [.ptr 1 0, .int .i64 2]) (rd := [(1, .box 160 [.sl .ro 1 (r_int_u8 q7.1.f0), .int .i64 q7.1.f1, .int .i64 q7.1.f2])]) (up := [(1, .box 160 [.sl .ro 1 (r_int_u8 q10.f0), .int .i64 q10.f1, .int .i64 q10.f2])]) (res := .tup []) rfl rfl rfl rfl rfl rfl rfl (w_f116_1 _ _ _ _ h11) ⟨(Wv.refl _), (Wv.refl _), trivial⟩ (List.forall_mem_cons.2 ⟨rfl, (fun _ h => by cases h)⟩) (List.forall_mem_cons.2 ⟨⟨_, .head _⟩, (fun _ h => by cases h)⟩) rfl rfl ?_
          refine AW.seq ?_
          refine AW.region (M := fun _ => true) ?_
          refine AL.v good (d := 36) (v := .int .u8 q7.2) rfl rfl rfl rfl ?_
          refine AL.v good (d := 37) (v := .bool (q7.2 == 1)) rfl rfl rfl rfl ?_
          refine AL.cw good (d := 38) (xs := [.bool (q7.2 == 1)]) (res := .agg [.int .i64 2, .int .i64 0, .bool (q7.2 == 1), .str ⟨#[]⟩, .sl .ro 5 (encs [])]) rfl rfl rfl rfl rfl rfl rfl (w_f32 (q7.2 == 1)) ⟨(Wv.refl _), trivial⟩ (by simp [pureA, pureL, pureR, inA, inL, inR, inO, idsIn, encs_pure, enxs_pure, enys_pure, valC_pure, exC_pure, tyC_pure, r_int_u8_pure]) ?_
          refine AL.st2 good (c2 := [.int .i64 2, .int .i64 0, .bool (q7.2 == 1), .str ⟨#[]⟩, .sl .ro 5 (encs [])]) rfl rfl rfl rfl rfl rfl rfl rfl rfl rfl rfl rfl ?_
          refine AW.ret ?_
          obtain rfl := Option.some.inj hr
          exact RetH.w good (.inr rfl) rfl rfl (Wv.refl _) (List.forall_mem_cons.2 ⟨rfl, (fun _ h => by cases h)⟩)
        · replace hr := cnd_f h9 hr
          refine AW.skip ?_
          refine AW.seq ?_
          refine AW.region (M := fun _ => true) ?_
          refine AL.v good (d := 36) (v := .int .u8 q7.2) rfl rfl rfl rfl ?_
          refine AL.v good (d := 37) (v := .bool (q7.2 == 1)) rfl rfl rfl rfl ?_
          refine AL.cw good (d := 38) (xs := [.bool (q7.2 == 1)]) (res := .agg [.int .i64 2, .int .i64 0, .bool (q7.2 == 1), .str ⟨#[]⟩, .sl .ro 5 (encs [])]) rfl rfl rfl rfl rfl rfl rfl (w_f32 (q7.2 == 1)) ⟨(Wv.refl _), trivial⟩ (by simp [pureA, pureL, pureR, inA, inL, inR, inO, idsIn, encs_pure, enxs_pure, enys_pure, valC_pure, exC_pure, tyC_pure, r_int_u8_pure]) ?_
          refine AL.st2 good (c2 := [.int .i64 2, .int .i64 0, .bool (q7.2 == 1), .str ⟨#[]⟩, .sl .ro 5 (encs [])]) rfl rfl rfl rfl rfl rfl rfl rfl rfl rfl rfl rfl ?_
          refine AW.ret ?_
          obtain rfl := Option.some.inj hr
          exact RetH.w good (.inr rfl) rfl rfl (Wv.refl _) (List.forall_mem_cons.2 ⟨rfl, (fun _ h => by cases h)⟩)
      · replace hr := cnd_f h6 hr
        refine AW.seq ?_
        refine AW.region (M := fun _ => true) ?_
        refine AL.v good (d := 40) (v := .bool ((IntKind.i64.wrap (q1.2)) == 3)) rfl rfl rfl rfl ?_
        refine AL.v good (d := 39) (v := .bool ((IntKind.i64.wrap (q1.2)) == 3)) rfl rfl rfl rfl ?_
        refine AW.if rfl (fun h12 => ?_) (fun h12 => ?_)
        · replace hr := cnd_t h12 hr
          refine AW.seq ?_
          refine AW.region (M := fun _ => true) ?_
          refine AL.v good (d := 41) (v := .ptr 1 0) rfl rfl rfl rfl ?_
          refine AL.cw good (d := 42) (xs := [.int .u64 255]) (res := .func 143 [] [.ep [.int .u64 255]]) rfl rfl rfl rfl rfl rfl rfl (w_f113 255) ⟨(Wv.refl _), trivial⟩ (by simp [pureA, pureL, pureR, inA, inL, inR, inO, idsIn, encs_pure, enxs_pure, enys_pure, valC_pure, exC_pure, tyC_pure, r_int_u8_pure]) ?_
          obtain ⟨q13, h14, hr⟩ := bnd1 hr
          refine AL.clW good (d := 43) (xs := [.ptr 1 0, .func 143 [] [.ep [.int .u64 255]]]) (rd := [(1, .box 160 [.sl .ro 1 (r_int_u8 q1.1.f0), .int .i64 q1.1.f1, .int .i64 q1.1.f2])]) (up := [(1, .box 160 [.sl .ro 1 (r_int_u8 q13.1.f0), .int .i64 q13.1.f1, .int .i64 q13.1.f2])]) (res := .str q13.2) rfl rfl rfl rfl rfl rfl rfl (w_f117_1 _ _ _ _ h14) ⟨(Wv.refl _), (Wv.refl _), trivial⟩ (List.forall_mem_cons.2 ⟨rfl, (fun _ h => by cases h)⟩) (List.forall_mem_cons.2 ⟨⟨_, .head _⟩, (fun _ h => by cases h)⟩) rfl rfl ?_
          refine AL.cw good (d := 44) (xs := [.str q13.2]) (res := .agg [.int .i64 3, .int .i64 0, .bool false, .str q13.2, .sl .ro 5 (encs [])]) rfl rfl rfl rfl rfl rfl rfl (w_f33 q13.2) ⟨(Wv.refl _), trivial⟩ (by simp [pureA, pureL, pureR, inA, inL, inR, inO, idsIn, encs_pure, enxs_pure, enys_pure, valC_pure, exC_pure, tyC_pure, r_int_u8_pure]) ?_
          refine AL.st2 good (c2 := [.int .i64 3, .int .i64 0, .bool false, .str q13.2, .sl .ro 5 (encs [])]) rfl rfl rfl rfl rfl rfl rfl rfl rfl rfl rfl rfl ?_
          refine AW.ret ?_
          obtain rfl := Option.some.inj hr
          exact RetH.w good (.inr rfl) rfl rfl (Wv.refl _) (List.forall_mem_cons.2 ⟨rfl, (fun _ h => by cases h)⟩)
        · replace hr := cnd_f h12 hr
          refine AW.seq ?_
          refine AW.region (M := fun _ => true) ?_
          refine AL.v good (d := 46) (v := .bool ((IntKind.i64.wrap (q1.2)) == 4)) rfl rfl rfl rfl ?_
          refine AL.v good (d := 45) (v := .bool ((IntKind.i64.wrap (q1.2)) == 4)) rfl rfl rfl rfl ?_
          refine AW.if rfl (fun h15 => ?_) (fun h15 => ?_)
          · replace hr := cnd_t h15 hr
            refine AW.seq ?_
            refine AW.region (M := fun _ => true) ?_
            refine AL.v good (d := 47) (v := .ptr 1 0) rfl rfl rfl rfl ?_
            obtain ⟨q16, h17, hr⟩ := bnd1 hr
            refine AL.clW good (d := 48) (xs := [.ptr 1 0]) (rd := [(1, .box 160 [.sl .ro 1 (r_int_u8 q1.1.f0), .int .i64 q1.1.f1, .int .i64 q1.1.f2])]) (up := [(1, .box 160 [.sl .ro 1 (r_int_u8 q16.1.f0), .int .i64 q16.1.f1, .int .i64 q16.1.f2])]) (res := .int .u8 q16.2) rfl rfl rfl rfl rfl rfl rfl (w_f114_1 _ _ _ h17) ⟨(Wv.refl _), trivial⟩ (List.forall_mem_cons.2 ⟨rfl, (fun _ h => by cases h)⟩) (List.forall_mem_cons.2 ⟨⟨_, .head _⟩, (fun _ h => by cases h)⟩) rfl rfl ?_
            refine AL.v good (d := 49) (v := .int .i64 (IntKind.i64.wrap (q16.2))) rfl rfl rfl rfl ?_
            refine AL.v good (d := 8) (v := .int .i64 (IntKind.i64.wrap (q16.2))) rfl rfl rfl rfl ?_
            refine AW.seq ?_
            refine AW.seq ?_
            refine AW.region (M := fun _ => true) ?_
            refine AL.v good (d := 50) (v := .ptr 1 0) rfl rfl rfl rfl ?_
            refine AL.v good (d := 51) (v := .ptr 1 0) rfl rfl rfl rfl ?_
            refine AL.v good (d := 52) (v := .ptr 1 2) rfl rfl rfl rfl ?_
            refine AL.v good (d := 53) (v := .int .i64 q16.1.f2) rfl rfl rfl rfl ?_
            refine AL.v good (d := 54) (v := .bool (q16.1.f2 == 0)) rfl rfl rfl rfl ?_
            refine AW.if rfl (fun h18 => ?_) (fun h18 => ?_)
            · replace hr := cnd_t h18 hr
              refine AW.region (M := fun _ => true) ?_
              refine AL.v good (d := 55) (v := .ptr 1 0) rfl rfl rfl rfl ?_
              refine AL.v good (d := 56) (v := .int .i64 (IntKind.i64.wrap (q16.2))) rfl rfl rfl rfl ?_
              refine AL.v good (d := 57) (v := .int .i64 a1) rfl rfl rfl rfl ?_
              obtain ⟨q19, h20, hr⟩ := bnd1 hr
              refine AL.cw good (d := 58) (xs := [.int .i64 (IntKind.i64.wrap (q16.2)), .int .i64 a1]) (res := .int .i64 q19) rfl rfl rfl rfl rfl rfl rfl (w_f118 _ _ _ _ h20) ⟨(Wv.refl _), (Wv.refl _), trivial⟩ (by simp [pureA, pureL, pureR, inA, inL, inR, inO, idsIn, encs_pure, enxs_pure, enys_pure, valC_pure, exC_pure, tyC_pure, r_int_u8_pure]) ?_
              obtain ⟨q21, h22, hr⟩ := bnd1 hr
              refine AL.clW good (d := 59) (xs := [.ptr 1 0, .int .i64 q19]) (rd := [(1, .box 160 [.sl .ro 1 (r_int_u8 q16.1.f0), .int .i64 q16.1.f1, .int .i64 q16.1.f2])]) (up := [(1, .box 160 [.sl .ro 1 (r_int_u8 q21.f0), .int .i64 q21.f1, .int .i64 q21.f2])]) (res := .tup []) rfl rfl rfl rfl rfl rfl rfl (w_f116_1 _ _ _ _ h22) ⟨(Wv.refl _), (Wv.refl _), trivial⟩ (List.forall_mem_cons.2 ⟨rfl, (fun _ h => by cases h)⟩) (List.forall_mem_cons.2 ⟨⟨_, .head _⟩, (fun _ h => by cases h)⟩) rfl rfl ?_
              refine AW.seq ?_
              refine AW.region (M := fun _ => true) ?_
              refine AL.v good (d := 60) (v := .int .i64 (IntKind.i64.wrap (q1.2))) rfl rfl rfl rfl ?_
              refine AL.bld good (d := 61) (l := [.int .i64 (IntKind.i64.wrap (q1.2)), .int .i64 0, .bool false, .str ⟨#[]⟩, .sl .nil 0 []]) rfl rfl rfl rfl rfl rfl rfl ?_
              refine AL.alc good (d := 9) rfl rfl rfl rfl rfl 3 rfl ?_
              refine AL.st2 good (c2 := [.int .i64 (IntKind.i64.wrap (q1.2)), .int .i64 0, .bool false, .str ⟨#[]⟩, .sl .nil 0 []]) rfl rfl rfl rfl rfl rfl rfl rfl rfl rfl rfl rfl ?_
              refine AW.seq ?_
              refine AW.seq ?_
              refine AW.region (M := fun _ => true) ?_
              refine AL.v good (d := 10) (v := .int .i64 0) rfl rfl rfl rfl ?_
              refine AW.block ?_
              refine AW.adoptB 3 rfl 4 rfl 4 5 24 rfl rfl ?_
              refine AW.lpw (fun x : Nat × Int × (List Int) × Int × Int × (List Val) => [(0, .ptr 1 0), (1, .int .i64 a1), (4, .ptr 2 0), (8, .int .i64 (IntKind.i64.wrap (q16.2))), (9, .ptr 3 0), (10, .int .i64 x.2.1)]) (fun x => [(1, .box 160 [.sl .ro 1 (r_int_u8 x.2.2.1), .int .i64 x.2.2.2.1, .int .i64 x.2.2.2.2.1]), (2, .box 24 [.int .i64 0, .int .i64 0, .bool false, .str ⟨#[]⟩, .sl .nil 0 []]), (3, .box 24 [.int .i64 (IntKind.i64.wrap (q1.2)), .int .i64 0, .bool false, .str ⟨#[]⟩, .sl (.own 4) 5 (encs x.2.2.2.2.2)]), (4, .row 24 5 (encs x.2.2.2.2.2).length)]) (fun x => s_f83_l1 x.1 a1 q1 q16 x.2.1 x.2.2.1 x.2.2.2.1 x.2.2.2.2.1 x.2.2.2.2.2 = some r ∧ x.1 ≤ n) (fun x => x.1) (n, 0, q21.f0, q21.f1, q21.f2, []) ⟨(idsIn_sub rfl), List.forall_mem_cons.2 ⟨⟨⟨_, rfl, Wv.refl _⟩, (by simp [pureA, pureL, pureR, inA, inL, inR, inO, idsIn, encs_pure, enxs_pure, enys_pure, valC_pure, exC_pure, tyC_pure, r_int_u8_pure])⟩, List.forall_mem_cons.2 ⟨⟨⟨_, rfl, Wv.refl _⟩, (by simp [pureA, pureL, pureR, inA, inL, inR, inO, idsIn, encs_pure, enxs_pure, enys_pure, valC_pure, exC_pure, tyC_pure, r_int_u8_pure])⟩, List.forall_mem_cons.2 ⟨⟨⟨_, rfl, Wv.refl _⟩, (by simp [pureA, pureL, pureR, inA, inL, inR, inO, idsIn, encs_pure, enxs_pure, enys_pure, valC_pure, exC_pure, tyC_pure, r_int_u8_pure])⟩, List.forall_mem_cons.2 ⟨⟨⟨_, rfl, Wv.refl _⟩, (by simp [pureA, pureL, pureR, inA, inL, inR, inO, idsIn, encs_pure, enxs_pure, enys_pure, valC_pure, exC_pure, tyC_pure, r_int_u8_pure])⟩, List.forall_mem_cons.2 ⟨⟨⟨_, rfl, Wv.refl _⟩, (by simp [pureA, pureL, pureR, inA, inL, inR, inO, idsIn, encs_pure, enxs_pure, enys_pure, valC_pure, exC_pure, tyC_pure, r_int_u8_pure])⟩, List.forall_mem_cons.2 ⟨⟨⟨_, rfl, Wv.refl _⟩, (by simp [pureA, pureL, pureR, inA, inL, inR, inO, idsIn, encs_pure, enxs_pure, enys_pure, valC_pure, exC_pure, tyC_pure, r_int_u8_pure])⟩, (fun _ h => by cases h)⟩⟩⟩⟩⟩⟩, List.forall_mem_cons.2 ⟨⟨⟨_, rfl, ⟨rfl, ⟨Wv.refl _, Wv.refl _, Wv.refl _, trivial⟩⟩⟩, (by simp [pureA, pureL, pureR, inA, inL, inR, inO, idsIn, encs_pure, enxs_pure, enys_pure, valC_pure, exC_pure, tyC_pure, r_int_u8_pure])⟩, List.forall_mem_cons.2 ⟨⟨⟨_, rfl, ⟨rfl, ⟨Wv.refl _, Wv.refl _, Wv.refl _, Wv.refl _, Wv.refl _, trivial⟩⟩⟩, (by simp [pureA, pureL, pureR, inA, inL, inR, inO, idsIn, encs_pure, enxs_pure, enys_pure, valC_pure, exC_pure, tyC_pure, r_int_u8_pure])⟩, List.forall_mem_cons.2 ⟨⟨⟨_, rfl, ⟨rfl, ⟨Wv.refl _, Wv.refl _, Wv.refl _, Wv.refl _, Wv.refl _, trivial⟩⟩⟩, (by simp [pureA, pureL, pureR, inA, inL, inR, inO, idsIn, encs_pure, enxs_pure, enys_pure, valC_pure, exC_pure, tyC_pure, r_int_u8_pure])⟩, List.forall_mem_cons.2 ⟨⟨⟨_, rfl, ⟨rfl, rfl, rfl⟩⟩, (by simp [pureA, pureL, pureR, inA, inL, inR, inO, idsIn, encs_pure, enxs_pure, enys_pure, valC_pure, exC_pure, tyC_pure, r_int_u8_pure])⟩, (fun _ h => by cases h)⟩⟩⟩⟩⟩ ⟨hr, Nat.le_refl _⟩ (fun ⟨m, v1_1, v1_2, v1_3, v1_4, v1_5⟩ hx => ?_)
              obtain ⟨hr, hm⟩ := hx
              try dsimp only at hr hm
              cases m with
              | zero => rw [s_f83_l1] at hr; cases hr
              | succ m =>
                rw [s_f83_l1] at hr
                show AW Try.prog _ _ _ (mkS 87 [(0, .ptr 1 0), (1, .int .i64 a1), (4, .ptr 2 0), (8, .int .i64 (IntKind.i64.wrap (q16.2))), (9, .ptr 3 0), (10, .int .i64 v1_1)] [(1, .box 160 [.sl .ro 1 (r_int_u8 v1_2), .int .i64 v1_3, .int .i64 v1_4]), (2, .box 24 [.int .i64 0, .int .i64 0, .bool false, .str ⟨#[]⟩, .sl .nil 0 []]), (3, .box 24 [.int .i64 (IntKind.i64.wrap (q1.2)), .int .i64 0, .bool false, .str ⟨#[]⟩, .sl (.own 4) 5 (encs v1_5)]), (4, .row 24 5 (encs v1_5).length)])
                refine AW.seq ?_
                refine AW.seq ?_
                refine AW.region (M := fun _ => true) ?_
                refine AL.v good (d := 62) (v := .int .i64 v1_1) rfl rfl rfl rfl ?_
                refine AL.v good (d := 63) (v := .int .i64 (IntKind.i64.wrap (q16.2))) rfl rfl rfl rfl ?_
                refine AL.v good (d := 64) (v := .bool (decide (v1_1 < (IntKind.i64.wrap (q16.2))))) rfl rfl rfl rfl ?_
                refine AL.v good (d := 65) (v := .bool (decide (v1_1 < (IntKind.i64.wrap (q16.2))))) rfl rfl rfl rfl ?_
                refine AL.cs 65 rfl (fun h28 => ?_) (fun h28 => ?_)
                · replace hr := cnd_t h28 hr
                  refine AL.v good (d := 66) (v := .ptr 1 0) rfl rfl rfl rfl ?_
                  refine AL.v good (d := 67) (v := .ptr 1 0) rfl rfl rfl rfl ?_
                  refine AL.v good (d := 68) (v := .ptr 1 2) rfl rfl rfl rfl ?_
                  refine AL.v good (d := 69) (v := .int .i64 v1_4) rfl rfl rfl rfl ?_
                  refine AL.v good (d := 70) (v := .bool (v1_4 == 0)) rfl rfl rfl rfl ?_
                  refine AL.v good (d := 71) (v := .bool (v1_4 == 0)) rfl rfl rfl rfl ?_
                  refine AW.if rfl (fun h29 => ?_) (fun h29 => ?_)
                  · replace hr := cnd_t h29 hr
                    refine AW.skip ?_
                    refine AW.seq ?_
                    refine AW.block ?_
                    refine AW.drawc (M := fun i => ⟨Nat.beq i 5 || Nat.beq i 7 || Nat.beq i 9, bif Nat.beq i 1 then some [3] else bif Nat.beq i 5 then some [1] else bif Nat.beq i 7 then some [4] else bif Nat.beq i 9 then some [3] else none⟩) good.wide (by kernel_rfl) ?_
                    refine AL.v (nc := ⟨rfl⟩) good (d := 74) (v := .ptr 3 4) rfl rfl rfl rfl ?_
                    refine AL.vc good (d := 75) (v := .sl (.own 4) 5 (encs v1_5)) rfl rfl rfl rfl rfl (List.forall_mem_cons.2 ⟨.head _, (fun _ h => by cases h)⟩) ?_
                    refine AL.v (nc := ⟨rfl⟩) good (d := 76) (v := .ptr 1 0) rfl rfl rfl rfl ?_
                    refine AL.v (nc := ⟨rfl⟩) good (d := 77) (v := .int .i64 a1) rfl rfl rfl rfl ?_
                    refine AL.v (nc := ⟨rfl⟩) good (d := 78) (v := .int .i64 (IntKind.i64.wrap (a1 + 1))) rfl rfl rfl rfl ?_
                    obtain ⟨q30, h31, hr⟩ := bnd1 hr
                    refine AL.clWc good (d := 79) (xs := [.ptr 1 0, .int .i64 (IntKind.i64.wrap (a1 + 1))]) (rd := [(1, .box 160 [.sl .ro 1 (r_int_u8 (((GReader.mk v1_2 v1_3 v1_4)).f0)), .int .i64 (((GReader.mk v1_2 v1_3 v1_4)).f1), .int .i64 (((GReader.mk v1_2 v1_3 v1_4)).f2)])]) (up := [(1, .box 160 [.sl .ro 1 (r_int_u8 q30.1.f0), .int .i64 q30.1.f1, .int .i64 q30.1.f2])]) (res := .agg [.int .i64 q30.2.kind, .int .i64 q30.2.i, .bool q30.2.b, .str q30.2.s, .sl .ro 5 (encs q30.2.t)]) rfl rfl rfl rfl rfl rfl rfl (ih _ _ _ _ h31 (by omega)) ⟨(Wv.refl _), (Wv.refl _), trivial⟩ (List.forall_mem_cons.2 ⟨rfl, (fun _ h => by cases h)⟩) (List.forall_mem_cons.2 ⟨⟨_, .head _⟩, (fun _ h => by cases h)⟩) rfl rfl rfl ⟨(List.forall_mem_cons.2 ⟨.head _, (fun _ h => by cases h)⟩), (List.forall_mem_cons.2 ⟨.head _, (fun _ h => by cases h)⟩)⟩ ?_
                    refine AL.lit (nc := ⟨rfl⟩) good (d := 80) (rows := [[.int .i64 q30.2.kind, .int .i64 q30.2.i, .bool q30.2.b, .str q30.2.s, .sl .ro 5 (encs q30.2.t)]]) rfl rfl rfl rfl rfl rfl rfl rfl rfl 5 rfl ?_
                    obtain ⟨h32, hr⟩ := grd hr
                    refine AL.aw2c good (d := 81) (rows := encs v1_5) (news := [(valC q30.2)]) (rows2 := encs (v1_5 ++ [q30.2])) rfl rfl rfl rfl rfl rfl rfl rfl rfl (by simp) rfl rfl rfl rfl ⟨⟨Wv.refl _, Wv.refl _, Wv.refl _, Wv.refl _, Wv.refl _, trivial⟩, trivial⟩ (by simp [encs_map]) (by rw [encs_length, List.length_append]; exact h32) rfl ?_
                    refine AL.v (nc := ⟨rfl⟩) good (d := 82) (v := .ptr 3 4) rfl rfl rfl rfl ?_
                    refine AL.st2c good (c2 := [.int .i64 (IntKind.i64.wrap (q1.2)), .int .i64 0, .bool false, .str ⟨#[]⟩, .sl (.own 4) 5 (encs (v1_5 ++ [q30.2]))]) rfl rfl rfl rfl rfl rfl rfl rfl rfl rfl rfl rfl rfl ?_
                    refine AW.region (M := fun _ => true) ?_
                    refine AL.v good (d := 72) (v := .int .i64 v1_1) rfl rfl rfl rfl ?_
                    refine AL.v good (d := 73) (v := .int .i64 (IntKind.i64.wrap (v1_1 + 1))) rfl rfl rfl rfl ?_
                    refine AL.v good (d := 10) (v := .int .i64 (IntKind.i64.wrap (v1_1 + 1))) rfl rfl rfl rfl ?_
                    exact ⟨(m, (IntKind.i64.wrap (v1_1 + 1)), q30.1.f0, q30.1.f1, q30.1.f2, (v1_5 ++ [q30.2])), _, _, rfl, ⟨(idsIn_sub rfl), List.forall_mem_cons.2 ⟨⟨⟨_, rfl, Wv.refl _⟩, (by simp [pureA, pureL, pureR, inA, inL, inR, inO, idsIn, encs_pure, enxs_pure, enys_pure, valC_pure, exC_pure, tyC_pure, r_int_u8_pure])⟩, List.forall_mem_cons.2 ⟨⟨⟨_, rfl, Wv.refl _⟩, (by simp [pureA, pureL, pureR, inA, inL, inR, inO, idsIn, encs_pure, enxs_pure, enys_pure, valC_pure, exC_pure, tyC_pure, r_int_u8_pure])⟩, List.forall_mem_cons.2 ⟨⟨⟨_, rfl, Wv.refl _⟩, (by simp [pureA, pureL, pureR, inA, inL, inR, inO, idsIn, encs_pure, enxs_pure, enys_pure, valC_pure, exC_pure, tyC_pure, r_int_u8_pure])⟩, List.forall_mem_cons.2 ⟨⟨⟨_, rfl, Wv.refl _⟩, (by simp [pureA, pureL, pureR, inA, inL, inR, inO, idsIn, encs_pure, enxs_pure, enys_pure, valC_pure, exC_pure, tyC_pure, r_int_u8_pure])⟩, List.forall_mem_cons.2 ⟨⟨⟨_, rfl, Wv.refl _⟩, (by simp [pureA, pureL, pureR, inA, inL, inR, inO, idsIn, encs_pure, enxs_pure, enys_pure, valC_pure, exC_pure, tyC_pure, r_int_u8_pure])⟩, List.forall_mem_cons.2 ⟨⟨⟨_, rfl, Wv.refl _⟩, (by simp [pureA, pureL, pureR, inA, inL, inR, inO, idsIn, encs_pure, enxs_pure, enys_pure, valC_pure, exC_pure, tyC_pure, r_int_u8_pure])⟩, (fun _ h => by cases h)⟩⟩⟩⟩⟩⟩, List.forall_mem_cons.2 ⟨⟨⟨_, rfl, ⟨rfl, ⟨Wv.refl _, Wv.refl _, Wv.refl _, trivial⟩⟩⟩, (by simp [pureA, pureL, pureR, inA, inL, inR, inO, idsIn, encs_pure, enxs_pure, enys_pure, valC_pure, exC_pure, tyC_pure, r_int_u8_pure])⟩, List.forall_mem_cons.2 ⟨⟨⟨_, rfl, ⟨rfl, ⟨Wv.refl _, Wv.refl _, Wv.refl _, Wv.refl _, Wv.refl _, trivial⟩⟩⟩, (by simp [pureA, pureL, pureR, inA, inL, inR, inO, idsIn, encs_pure, enxs_pure, enys_pure, valC_pure, exC_pure, tyC_pure, r_int_u8_pure])⟩, List.forall_mem_cons.2 ⟨⟨⟨_, rfl, ⟨rfl, ⟨Wv.refl _, Wv.refl _, Wv.refl _, Wv.refl _, Wv.refl _, trivial⟩⟩⟩, (by simp [pureA, pureL, pureR, inA, inL, inR, inO, idsIn, encs_pure, enxs_pure, enys_pure, valC_pure, exC_pure, tyC_pure, r_int_u8_pure])⟩, List.forall_mem_cons.2 ⟨⟨⟨_, rfl, ⟨rfl, rfl, rfl⟩⟩, (by simp [pureA, pureL, pureR, inA, inL, inR, inO, idsIn, encs_pure, enxs_pure, enys_pure, valC_pure, exC_pure, tyC_pure, r_int_u8_pure])⟩, (fun _ h => by cases h)⟩⟩⟩⟩⟩, ⟨hr, Nat.le_of_succ_le hm⟩, Nat.lt_succ_self _⟩
                  · replace hr := cnd_f h29 hr
                    refine AW.exit ?_
                    refine AW.seq ?_
                    refine AW.region (M := fun _ => true) ?_
                    refine AL.v good (d := 83) (v := .agg [.int .i64 (IntKind.i64.wrap (q1.2)), .int .i64 0, .bool false, .str ⟨#[]⟩, .sl (.own 4) 5 (encs v1_5)]) rfl rfl rfl rfl ?_
                    refine AL.st2 good (c2 := [.int .i64 (IntKind.i64.wrap (q1.2)), .int .i64 0, .bool false, .str ⟨#[]⟩, .sl (.own 4) 5 (encs v1_5)]) rfl rfl rfl rfl rfl rfl rfl rfl rfl rfl rfl rfl ?_
                    refine AW.ret ?_
                    obtain rfl := Option.some.inj hr
                    exact RetH.w good (.inr rfl) rfl rfl ⟨Wv.refl _, Wv.refl _, Wv.refl _, Wv.refl _, ⟨.inr rfl, WvR.refl _, .inl rfl⟩, trivial⟩ (List.forall_mem_cons.2 ⟨rfl, (fun _ h => by cases h)⟩)
                · replace hr := cnd_f h28 hr
                  refine AL.sk good (d := 66) rfl rfl rfl ?_
                  refine AL.sk good (d := 67) rfl rfl rfl ?_
                  refine AL.sk good (d := 68) rfl rfl rfl ?_
                  refine AL.sk good (d := 69) rfl rfl rfl ?_
                  refine AL.sk good (d := 70) rfl rfl rfl ?_
                  refine AL.v good (d := 71) (v := .bool false) rfl rfl rfl rfl ?_
                  refine AW.if rfl (fun h => by cases h) (fun h => ?_)
                  refine AW.exit ?_
                  refine AW.seq ?_
                  refine AW.region (M := fun _ => true) ?_
                  refine AL.v good (d := 83) (v := .agg [.int .i64 (IntKind.i64.wrap (q1.2)), .int .i64 0, .bool false, .str ⟨#[]⟩, .sl (.own 4) 5 (encs v1_5)]) rfl rfl rfl rfl ?_
                  refine AL.st2 good (c2 := [.int .i64 (IntKind.i64.wrap (q1.2)), .int .i64 0, .bool false, .str ⟨#[]⟩, .sl (.own 4) 5 (encs v1_5)]) rfl rfl rfl rfl rfl rfl rfl rfl rfl rfl rfl rfl ?_
                  refine AW.ret ?_
                  obtain rfl := Option.some.inj hr
                  exact RetH.w good (.inr rfl) rfl rfl ⟨Wv.refl _, Wv.refl _, Wv.refl _, Wv.refl _, ⟨.inr rfl, WvR.refl _, .inl rfl⟩, trivial⟩ (List.forall_mem_cons.2 ⟨rfl, (fun _ h => by cases h)⟩)
            · replace hr := cnd_f h18 hr
              refine AW.skip ?_
              refine AW.seq ?_
              refine AW.region (M := fun _ => true) ?_
              refine AL.v good (d := 60) (v := .int .i64 (IntKind.i64.wrap (q1.2))) rfl rfl rfl rfl ?_
              refine AL.bld good (d := 61) (l := [.int .i64 (IntKind.i64.wrap (q1.2)), .int .i64 0, .bool false, .str ⟨#[]⟩, .sl .nil 0 []]) rfl rfl rfl rfl rfl rfl rfl ?_
              refine AL.alc good (d := 9) rfl rfl rfl rfl rfl 3 rfl ?_
              refine AL.st2 good (c2 := [.int .i64 (IntKind.i64.wrap (q1.2)), .int .i64 0, .bool false, .str ⟨#[]⟩, .sl .nil 0 []]) rfl rfl rfl rfl rfl rfl rfl rfl rfl rfl rfl rfl ?_
              refine AW.seq ?_
              refine AW.seq ?_
              refine AW.region (M := fun _ => true) ?_
              refine AL.v good (d := 10) (v := .int .i64 0) rfl rfl rfl rfl ?_
              refine AW.block ?_
              refine AW.lpw (fun x : Nat => [(0, .ptr 1 0), (1, .int .i64 a1), (4, .ptr 2 0), (8, .int .i64 (IntKind.i64.wrap (q16.2))), (9, .ptr 3 0), (10, .int .i64 0)]) (fun x => [(1, .box 160 [.sl .ro 1 (r_int_u8 q16.1.f0), .int .i64 q16.1.f1, .int .i64 q16.1.f2]), (2, .box 24 [.int .i64 0, .int .i64 0, .bool false, .str ⟨#[]⟩, .sl .nil 0 []]), (3, .box 24 [.int .i64 (IntKind.i64.wrap (q1.2)), .int .i64 0, .bool false, .str ⟨#[]⟩, .sl .nil 0 []])]) (fun x => s_f83_l2 x q1 q16 = some r ∧ x ≤ n) (fun x => x) n ⟨(idsIn_sub rfl), List.forall_mem_cons.2 ⟨⟨⟨_, rfl, Wv.refl _⟩, (by simp [pureA, pureL, pureR, inA, inL, inR, inO, idsIn, encs_pure, enxs_pure, enys_pure, valC_pure, exC_pure, tyC_pure, r_int_u8_pure])⟩, List.forall_mem_cons.2 ⟨⟨⟨_, rfl, Wv.refl _⟩, (by simp [pureA, pureL, pureR, inA, inL, inR, inO, idsIn, encs_pure, enxs_pure, enys_pure, valC_pure, exC_pure, tyC_pure, r_int_u8_pure])⟩, List.forall_mem_cons.2 ⟨⟨⟨_, rfl, Wv.refl _⟩, (by simp [pureA, pureL, pureR, inA, inL, inR, inO, idsIn, encs_pure, enxs_pure, enys_pure, valC_pure, exC_pure, tyC_pure, r_int_u8_pure])⟩, List.forall_mem_cons.2 ⟨⟨⟨_, rfl, Wv.refl _⟩, (by simp [pureA, pureL, pureR, inA, inL, inR, inO, idsIn, encs_pure, enxs_pure, enys_pure, valC_pure, exC_pure, tyC_pure, r_int_u8_pure])⟩, List.forall_mem_cons.2 ⟨⟨⟨_, rfl, Wv.refl _⟩, (by simp [pureA, pureL, pureR, inA, inL, inR, inO, idsIn, encs_pure, enxs_pure, enys_pure, valC_pure, exC_pure, tyC_pure, r_int_u8_pure])⟩, List.forall_mem_cons.2 ⟨⟨⟨_, rfl, Wv.refl _⟩, (by simp [pureA, pureL, pureR, inA, inL, inR, inO, idsIn, encs_pure, enxs_pure, enys_pure, valC_pure, exC_pure, tyC_pure, r_int_u8_pure])⟩, (fun _ h => by cases h)⟩⟩⟩⟩⟩⟩, List.forall_mem_cons.2 ⟨⟨⟨_, rfl, ⟨rfl, ⟨Wv.refl _, Wv.refl _, Wv.refl _, trivial⟩⟩⟩, (by simp [pureA, pureL, pureR, inA, inL, inR, inO, idsIn, encs_pure, enxs_pure, enys_pure, valC_pure, exC_pure, tyC_pure, r_int_u8_pure])⟩, List.forall_mem_cons.2 ⟨⟨⟨_, rfl, ⟨rfl, ⟨Wv.refl _, Wv.refl _, Wv.refl _, Wv.refl _, Wv.refl _, trivial⟩⟩⟩, (by simp [pureA, pureL, pureR, inA, inL, inR, inO, idsIn, encs_pure, enxs_pure, enys_pure, valC_pure, exC_pure, tyC_pure, r_int_u8_pure])⟩, List.forall_mem_cons.2 ⟨⟨⟨_, rfl, ⟨rfl, ⟨Wv.refl _, Wv.refl _, Wv.refl _, Wv.refl _, Wv.refl _, trivial⟩⟩⟩, (by simp [pureA, pureL, pureR, inA, inL, inR, inO, idsIn, encs_pure, enxs_pure, enys_pure, valC_pure, exC_pure, tyC_pure, r_int_u8_pure])⟩, (fun _ h => by cases h)⟩⟩⟩⟩ ⟨hr, Nat.le_refl _⟩ (fun m hx => ?_)
              obtain ⟨hr, hm⟩ := hx
              try dsimp only at hr hm
              cases m with
              | zero => rw [s_f83_l2] at hr; cases hr
              | succ m =>
                rw [s_f83_l2] at hr
                show AW Try.prog _ _ _ (mkS 87 [(0, .ptr 1 0), (1, .int .i64 a1), (4, .ptr 2 0), (8, .int .i64 (IntKind.i64.wrap (q16.2))), (9, .ptr 3 0), (10, .int .i64 0)] [(1, .box 160 [.sl .ro 1 (r_int_u8 q16.1.f0), .int .i64 q16.1.f1, .int .i64 q16.1.f2]), (2, .box 24 [.int .i64 0, .int .i64 0, .bool false, .str ⟨#[]⟩, .sl .nil 0 []]), (3, .box 24 [.int .i64 (IntKind.i64.wrap (q1.2)), .int .i64 0, .bool false, .str ⟨#[]⟩, .sl .nil 0 []])])
                refine AW.seq ?_
                refine AW.seq ?_
                refine AW.region (M := fun _ => true) ?_
                refine AL.v good (d := 62) (v := .int .i64 0) rfl rfl rfl rfl ?_
                refine AL.v good (d := 63) (v := .int .i64 (IntKind.i64.wrap (q16.2))) rfl rfl rfl rfl ?_
                refine AL.v good (d := 64) (v := .bool (decide (0 < (IntKind.i64.wrap (q16.2))))) rfl rfl rfl rfl ?_
                refine AL.v good (d := 65) (v := .bool (decide (0 < (IntKind.i64.wrap (q16.2))))) rfl rfl rfl rfl ?_
                refine AL.cs 65 rfl (fun h34 => ?_) (fun h34 => ?_)
                · replace hr := cnd_t h34 hr
                  refine AL.v good (d := 66) (v := .ptr 1 0) rfl rfl rfl rfl ?_
                  refine AL.v good (d := 67) (v := .ptr 1 0) rfl rfl rfl rfl ?_
                  refine AL.v good (d := 68) (v := .ptr 1 2) rfl rfl rfl rfl ?_
                  refine AL.v good (d := 69) (v := .int .i64 q16.1.f2) rfl rfl rfl rfl ?_
                  refine AL.v good (d := 70) (v := .bool (q16.1.f2 == 0)) rfl rfl rfl rfl ?_
                  refine AL.v good (d := 71) (v := .bool (q16.1.f2 == 0)) rfl rfl rfl rfl ?_
                  refine AW.if rfl (fun h => by cases h18.symm.trans h) (fun h => ?_)
                  refine AW.exit ?_
                  refine AW.seq ?_
                  refine AW.region (M := fun _ => true) ?_
                  refine AL.v good (d := 83) (v := .agg [.int .i64 (IntKind.i64.wrap (q1.2)), .int .i64 0, .bool false, .str ⟨#[]⟩, .sl .nil 0 []]) rfl rfl rfl rfl ?_
                  refine AL.st2 good (c2 := [.int .i64 (IntKind.i64.wrap (q1.2)), .int .i64 0, .bool false, .str ⟨#[]⟩, .sl .nil 0 []]) rfl rfl rfl rfl rfl rfl rfl rfl rfl rfl rfl rfl ?_
                  refine AW.ret ?_
                  obtain rfl := Option.some.inj hr
                  exact RetH.w good (.inr rfl) rfl rfl ⟨Wv.refl _, Wv.refl _, Wv.refl _, Wv.refl _, ⟨.inr rfl, trivial, .inr rfl⟩, trivial⟩ (List.forall_mem_cons.2 ⟨rfl, (fun _ h => by cases h)⟩)
                · replace hr := cnd_f h34 hr
                  refine AL.sk good (d := 66) rfl rfl rfl ?_
                  refine AL.sk good (d := 67) rfl rfl rfl ?_
                  refine AL.sk good (d := 68) rfl rfl rfl ?_
                  refine AL.sk good (d := 69) rfl rfl rfl ?_
                  refine AL.sk good (d := 70) rfl rfl rfl ?_
                  refine AL.v good (d := 71) (v := .bool false) rfl rfl rfl rfl ?_
                  refine AW.if rfl (fun h => by cases h) (fun h => ?_)
                  refine AW.exit ?_
                  refine AW.seq ?_
                  refine AW.region (M := fun _ => true) ?_
                  refine AL.v good (d := 83) (v := .agg [.int .i64 (IntKind.i64.wrap (q1.2)), .int .i64 0, .bool false, .str ⟨#[]⟩, .sl .nil 0 []]) rfl rfl rfl rfl ?_
                  refine AL.st2 good (c2 := [.int .i64 (IntKind.i64.wrap (q1.2)), .int .i64 0, .bool false, .str ⟨#[]⟩, .sl .nil 0 []]) rfl rfl rfl rfl rfl rfl rfl rfl rfl rfl rfl rfl ?_
                  refine AW.ret ?_
                  obtain rfl := Option.some.inj hr
                  exact RetH.w good (.inr rfl) rfl rfl ⟨Wv.refl _, Wv.refl _, Wv.refl _, Wv.refl _, ⟨.inr rfl, trivial, .inr rfl⟩, trivial⟩ (List.forall_mem_cons.2 ⟨rfl, (fun _ h => by cases h)⟩)
          · replace hr := cnd_f h15 hr
            refine AW.skip ?_
            refine AW.seq ?_
            refine AW.region (M := fun _ => true) ?_
            refine AL.v good (d := 84) (v := .ptr 1 0) rfl rfl rfl rfl ?_
            obtain ⟨q35, h36, hr⟩ := bnd1 hr
            refine AL.clW good (d := 85) (xs := [.ptr 1 0, .int .i64 5]) (rd := [(1, .box 160 [.sl .ro 1 (r_int_u8 q1.1.f0), .int .i64 q1.1.f1, .int .i64 q1.1.f2])]) (up := [(1, .box 160 [.sl .ro 1 (r_int_u8 q35.f0), .int .i64 q35.f1, .int .i64 q35.f2])]) (res := .tup []) rfl rfl rfl rfl rfl rfl rfl (w_f116_1 _ _ _ _ h36) ⟨(Wv.refl _), (Wv.refl _), trivial⟩ (List.forall_mem_cons.2 ⟨rfl, (fun _ h => by cases h)⟩) (List.forall_mem_cons.2 ⟨⟨_, .head _⟩, (fun _ h => by cases h)⟩) rfl rfl ?_
            refine AW.seq ?_
            refine AW.region (M := fun _ => true) ?_
            refine AL.bld good (d := 86) (l := [.int .i64 0, .int .i64 0, .bool false, .str ⟨#[]⟩, .sl .nil 0 []]) rfl rfl rfl rfl rfl rfl rfl ?_
            refine AL.st2 good (c2 := [.int .i64 0, .int .i64 0, .bool false, .str ⟨#[]⟩, .sl .nil 0 []]) rfl rfl rfl rfl rfl rfl rfl rfl rfl rfl rfl rfl ?_
            refine AW.ret ?_
            obtain rfl := Option.some.inj hr
            exact RetH.w good (.inr rfl) rfl rfl ⟨Wv.refl _, Wv.refl _, Wv.refl _, Wv.refl _, ⟨.inr rfl, trivial, .inr rfl⟩, trivial⟩ (List.forall_mem_cons.2 ⟨rfl, (fun _ h => by cases h)⟩)
theorem w_f83_1 (n : Nat) : ∀ (a0 : GReader) (a1 : Int) (r : GReader × Val) (hr : s_f83 n a0 a1 = some r), ACallH Try.prog 83 [.ptr 1 0, .int .i64 a1] [(1, .box 160 [.sl .ro 1 (r_int_u8 a0.f0), .int .i64 a0.f1, .int .i64 a0.f2])] [(1, .box 160 [.sl .ro 1 (r_int_u8 r.1.f0), .int .i64 r.1.f1, .int .i64 r.1.f2])] (.agg (valC r.2)) := by
  induction n using Nat.strongRecOn with
  | _ n ih =>
    intro a0 a1 r hr
    exact w_f83_1_a n (fun m a0 a1 r h hm => ih m hm a0 a1 r h) a0 a1 r hr

def s_f48 (n : Nat) (a0 : List Int) : Option (Val × Int × Int) :=
  ((s_f83 n (GReader.mk a0 0 0) 0).bind fun q1 => (bif (q1.1.f2 != 0) then some ((Val.mk 0 0 false ⟨#[]⟩ []), 0, q1.1.f2) else some (q1.2, q1.1.f1, 0)))

theorem w_f48 (n : Nat) (a0 : List Int) (r : Val × Int × Int) (hr : s_f48 n a0 = some r) : ACall Try.prog 48 [.sl .ro 1 (r_int_u8 a0)] (.tup [.agg (valC r.1), .int .i64 r.2.1, .int .i64 r.2.2]) := by
  refine ACall.go [(0, .sl .ro 1 (r_int_u8 a0))] Try.func48 rfl Try.ntmps48 rfl rfl (by simp [pureA, pureL, pureR, inA, inL, inR, inO, idsIn, encs_pure, enxs_pure, enys_pure, valC_pure, exC_pure, tyC_pure, r_int_u8_pure]) ?_
  rw [s_f48] at hr
  refine AW.seq ?_
  refine AW.region (M := fun _ => true) ?_
  refine AL.alc good (d := 2) rfl rfl rfl rfl rfl 0 rfl ?_
  refine AL.v good (d := 3) (v := .int .i64 0) rfl rfl rfl rfl ?_
  refine AL.v good (d := 4) (v := .int .i64 0) rfl rfl rfl rfl ?_
  refine AW.seq ?_
  refine AW.region (M := fun _ => true) ?_
  refine AL.v good (d := 7) (v := .sl .ro 1 (r_int_u8 a0)) rfl rfl rfl rfl ?_
  refine AL.bld good (d := 8) (l := [.sl .ro 1 (r_int_u8 a0), .int .i64 0, .int .i64 0]) rfl rfl rfl rfl rfl rfl rfl ?_
  refine AL.bx good (d := 9) (l := [.sl .ro 1 (r_int_u8 a0), .int .i64 0, .int .i64 0]) rfl rfl rfl rfl rfl rfl 1 rfl ?_
  refine AL.v good (d := 5) (v := .ptr 1 0) rfl rfl rfl rfl ?_
  refine AW.seq ?_
  refine AW.region (M := fun _ => true) ?_
  refine AL.v good (d := 10) (v := .ptr 1 0) rfl rfl rfl rfl ?_
  obtain ⟨q1, h2, hr⟩ := bnd1 hr
  refine AL.clW good (d := 11) (xs := [.ptr 1 0, .int .i64 0]) (rd := [(1, .box 160 [.sl .ro 1 (r_int_u8 (((GReader.mk a0 0 0)).f0)), .int .i64 (((GReader.mk a0 0 0)).f1), .int .i64 (((GReader.mk a0 0 0)).f2)])]) (up := [(1, .box 160 [.sl .ro 1 (r_int_u8 q1.1.f0), .int .i64 q1.1.f1, .int .i64 q1.1.f2])]) (res := .agg [.int .i64 q1.2.kind, .int .i64 q1.2.i, .bool q1.2.b, .str q1.2.s, .sl .ro 5 (encs q1.2.t)]) rfl rfl rfl rfl rfl rfl rfl (w_f83_1 _ _ _ _ h2) ⟨(Wv.refl _), (Wv.refl _), trivial⟩ (List.forall_mem_cons.2 ⟨rfl, (fun _ h => by cases h)⟩) (List.forall_mem_cons.2 ⟨⟨_, .head _⟩, (fun _ h => by cases h)⟩) rfl rfl ?_
  refine AL.alc good (d := 6) rfl rfl rfl rfl rfl 2 rfl ?_
  refine AL.st2 good (c2 := [.int .i64 q1.2.kind, .int .i64 q1.2.i, .bool q1.2.b, .str q1.2.s, .sl .ro 5 (encs q1.2.t)]) rfl rfl rfl rfl rfl rfl rfl rfl rfl rfl rfl rfl ?_
  refine AW.seq ?_
  refine AW.seq ?_
  refine AW.region (M := fun _ => true) ?_
  refine AL.v good (d := 12) (v := .ptr 1 0) rfl rfl rfl rfl ?_
  refine AL.v good (d := 13) (v := .ptr 1 0) rfl rfl rfl rfl ?_
  refine AL.v good (d := 14) (v := .ptr 1 2) rfl rfl rfl rfl ?_
  refine AL.v good (d := 15) (v := .int .i64 q1.1.f2) rfl rfl rfl rfl ?_
  refine AL.v good (d := 16) (v := .bool (q1.1.f2 != 0)) rfl rfl rfl rfl ?_
  refine AW.if rfl (fun h3 => ?_) (fun h3 => ?_)
  · replace hr := cnd_t h3 hr
    refine AW.seq ?_
    refine AW.drawc (M := fun i => ⟨Nat.beq i 5, bif Nat.beq i 4 then some [1] else bif Nat.beq i 5 then some [0] else none⟩) good.wide (by kernel_rfl) ?_
    refine AL.bld (nc := ⟨rfl⟩) good (d := 17) (l := [.int .i64 0, .int .i64 0, .bool false, .str ⟨#[]⟩, .sl .nil 0 []]) rfl rfl rfl rfl rfl rfl rfl ?_
    refine AL.v (nc := ⟨rfl⟩) good (d := 18) (v := .ptr 1 0) rfl rfl rfl rfl ?_
    refine AL.v (nc := ⟨rfl⟩) good (d := 19) (v := .ptr 1 0) rfl rfl rfl rfl ?_
    refine AL.v (nc := ⟨rfl⟩) good (d := 20) (v := .ptr 1 2) rfl rfl rfl rfl ?_
    refine AL.vc good (d := 21) (v := .int .i64 q1.1.f2) rfl rfl rfl rfl rfl (List.forall_mem_cons.2 ⟨.head _, (fun _ h => by cases h)⟩) ?_
    refine AL.st2c good (c2 := [.int .i64 0, .int .i64 0, .bool false, .str ⟨#[]⟩, .sl .nil 0 []]) rfl rfl rfl rfl rfl rfl rfl rfl rfl rfl rfl rfl rfl ?_
    refine AL.v (nc := ⟨rfl⟩) good (d := 3) (v := .int .i64 0) rfl rfl rfl rfl ?_
    refine AL.v (nc := ⟨rfl⟩) good (d := 4) (v := .int .i64 q1.1.f2) rfl rfl rfl rfl ?_
    refine AW.ret ?_
    obtain rfl := Option.some.inj hr
    exact RetQ.w good (.inr rfl) rfl rfl ⟨⟨Wv.refl _, Wv.refl _, Wv.refl _, Wv.refl _, ⟨.inr rfl, trivial, .inr rfl⟩, trivial⟩, Wv.refl _, Wv.refl _, trivial⟩ (by simp [pureA, pureL, pureR, inA, inL, inR, inO, idsIn, encs_pure, enxs_pure, enys_pure, valC_pure, exC_pure, tyC_pure, r_int_u8_pure])
  · replace hr := cnd_f h3 hr
    refine AW.skip ?_
    refine AW.seq ?_
    refine AW.drawc (M := fun i => ⟨Nat.beq i 5, bif Nat.beq i 0 then some [2] else bif Nat.beq i 4 then some [1] else bif Nat.beq i 5 then some [0] else none⟩) good.wide (by kernel_rfl) ?_
    refine AL.vc good (d := 22) (v := .agg [.int .i64 q1.2.kind, .int .i64 q1.2.i, .bool q1.2.b, .str q1.2.s, .sl .ro 5 (encs q1.2.t)]) rfl rfl rfl rfl rfl (List.forall_mem_cons.2 ⟨.head _, (fun _ h => by cases h)⟩) ?_
    refine AL.v (nc := ⟨rfl⟩) good (d := 23) (v := .ptr 1 0) rfl rfl rfl rfl ?_
    refine AL.v (nc := ⟨rfl⟩) good (d := 24) (v := .ptr 1 0) rfl rfl rfl rfl ?_
    refine AL.v (nc := ⟨rfl⟩) good (d := 25) (v := .ptr 1 1) rfl rfl rfl rfl ?_
    refine AL.vc good (d := 26) (v := .int .i64 q1.1.f1) rfl rfl rfl rfl rfl (List.forall_mem_cons.2 ⟨.head _, (fun _ h => by cases h)⟩) ?_
    refine AL.st2c good (c2 := [.int .i64 q1.2.kind, .int .i64 q1.2.i, .bool q1.2.b, .str q1.2.s, .sl .ro 5 (encs q1.2.t)]) rfl rfl rfl rfl rfl rfl rfl rfl rfl rfl rfl rfl rfl ?_
    refine AL.v (nc := ⟨rfl⟩) good (d := 3) (v := .int .i64 q1.1.f1) rfl rfl rfl rfl ?_
    refine AL.v (nc := ⟨rfl⟩) good (d := 4) (v := .int .i64 0) rfl rfl rfl rfl ?_
    refine AW.ret ?_
    obtain rfl := Option.some.inj hr
    exact RetQ.w good (.inr rfl) rfl rfl (Wv.refl _) (by simp [pureA, pureL, pureR, inA, inL, inR, inO, idsIn, encs_pure, enxs_pure, enys_pure, valC_pure, exC_pure, tyC_pure, r_int_u8_pure])

end Go.Proofs.Ytbcjcekoonebiaa.Tl
