/- Definitions and walks: what is known of bytes. Conditions: none. -/
import Derived.Test.YtbcjcekoonebiaaTlYd
import Derived.Test.YtbcjcekoonebiaaTlXt
set_option linter.unusedVariables false
set_option linter.unusedSimpArgs false
namespace Go.Proofs.Ytbcjcekoonebiaa.Tl
open Go Go.RowKit




theorem w_f49_0 (n : Nat) (a0 : List Int) (a1 : Int) (r : List Int) (hr : s_f49 n a0 a1 = some r) : ACallH Try.prog 49 [.sl (.own 0) 1 (r_int_u8 a0), .int .u64 a1] [(0, .row 5 1 (r_int_u8 a0).length)] [(0, .row 5 1 (r_int_u8 r).length)] (.sl (.own 0) 1 (r_int_u8 r)) := by
  refine ACallH.go [(0, .sl (.own 0) 1 (r_int_u8 a0)), (1, .int .u64 a1)] [(0, .row 5 1 (r_int_u8 a0).length)] Try.func49 rfl Try.ntmps49 rfl rfl rfl (by simp [pureA, pureL, pureR, inA, inL, inR, inO, idsIn, encs_pure, enxs_pure, enys_pure, valC_pure, exC_pure, tyC_pure, r_int_u8_pure]) (List.forall_mem_cons.2 ⟨(by simp [pureA, pureL, pureR, inA, inL, inR, inO, idsIn, encs_pure, enxs_pure, enys_pure, valC_pure, exC_pure, tyC_pure, r_int_u8_pure]), (fun _ h => by cases h)⟩) (List.forall_mem_cons.2 ⟨⟨rfl, (by simp [pureA, pureL, pureR, inA, inL, inR, inO, idsIn, encs_pure, enxs_pure, enys_pure, valC_pure, exC_pure, tyC_pure, r_int_u8_pure])⟩, (fun _ h => by cases h)⟩) (by simp [pureA, pureL, pureR, inA, inL, inR, inO, idsIn, encs_pure, enxs_pure, enys_pure, valC_pure, exC_pure, tyC_pure, r_int_u8_pure]) ?_
  rw [s_f49] at hr
  refine AW.seq ?_
  refine AW.region (M := fun _ => true) ?_
  refine AL.v good (d := 4) (v := .sl .nil 0 []) rfl rfl rfl rfl ?_
  refine AW.seq ?_
  refine AW.block ?_
  refine AW.lpw (fun x : Nat × (List Int) × Int => [(0, .sl (.own 0) 1 (r_int_u8 x.2.1)), (1, .int .u64 x.2.2)]) (fun x => [(0, .row 5 1 (r_int_u8 x.2.1).length)]) (fun x => s_f49_l1 x.1 x.2.1 x.2.2 = some r ∧ x.1 ≤ n) (fun x => x.1) (n, a0, a1) ⟨(idsIn_sub rfl), List.forall_mem_cons.2 ⟨⟨⟨_, rfl, Wv.refl _⟩, (by simp [pureA, pureL, pureR, inA, inL, inR, inO, idsIn, encs_pure, enxs_pure, enys_pure, valC_pure, exC_pure, tyC_pure, r_int_u8_pure])⟩, List.forall_mem_cons.2 ⟨⟨⟨_, rfl, Wv.refl _⟩, (by simp [pureA, pureL, pureR, inA, inL, inR, inO, idsIn, encs_pure, enxs_pure, enys_pure, valC_pure, exC_pure, tyC_pure, r_int_u8_pure])⟩, (fun _ h => by cases h)⟩⟩, List.forall_mem_cons.2 ⟨⟨⟨_, rfl, ⟨rfl, rfl, rfl⟩⟩, (by simp [pureA, pureL, pureR, inA, inL, inR, inO, idsIn, encs_pure, enxs_pure, enys_pure, valC_pure, exC_pure, tyC_pure, r_int_u8_pure])⟩, (fun _ h => by cases h)⟩⟩ ⟨hr, Nat.le_refl _⟩ (fun ⟨m, v1_1, v1_2⟩ hx => ?_)
  obtain ⟨hr, hm⟩ := hx
  try dsimp only at hr hm
  cases m with
  | zero => rw [s_f49_l1] at hr; cases hr
  | succ m =>
    rw [s_f49_l1] at hr
    show AW Try.prog _ _ _ (mkS 20 [(0, .sl (.own 0) 1 (r_int_u8 v1_1)), (1, .int .u64 v1_2)] [(0, .row 5 1 (r_int_u8 v1_1).length)])
    refine AW.seq ?_
    refine AW.seq ?_
    refine AW.region (M := fun _ => true) ?_
    refine AL.v good (d := 5) (v := .int .u64 v1_2) rfl rfl rfl rfl ?_
    refine AL.v good (d := 6) (v := .bool (decide (v1_2 ≥ 128))) rfl rfl rfl rfl ?_
    refine AW.if rfl (fun h3 => ?_) (fun h3 => ?_)
    · replace hr := cnd_t h3 hr
      refine AW.skip ?_
      refine AW.seq ?_
      refine AW.block ?_
      refine AW.region (M := fun _ => true) ?_
      refine AL.v good (d := 9) (v := .sl (.own 0) 1 (r_int_u8 v1_1)) rfl rfl rfl rfl ?_
      refine AL.v good (d := 10) (v := .int .u64 v1_2) rfl rfl rfl rfl ?_
      refine AL.v good (d := 11) (v := .int .u8 (IntKind.u8.wrap (v1_2))) rfl rfl rfl rfl ?_
      refine AL.v good (d := 12) (v := .int .u8 (bits .or .u8 (IntKind.u8.wrap (v1_2)) 128)) rfl rfl rfl rfl ?_
      refine AL.lit good (d := 13) (rows := [[.int .u8 (bits .or .u8 (IntKind.u8.wrap (v1_2)) 128)]]) rfl rfl rfl rfl rfl rfl rfl rfl rfl 1 rfl ?_
      obtain ⟨h4, hr⟩ := grd hr
      refine AL.aw2 good (d := 14) (rows := r_int_u8 v1_1) (news := [[.int .u8 (bits .or .u8 (IntKind.u8.wrap (v1_2)) 128)]]) (rows2 := r_int_u8 (v1_1 ++ [(bits .or .u8 (IntKind.u8.wrap (v1_2)) 128)])) rfl rfl rfl rfl rfl rfl rfl rfl rfl (by simp) rfl rfl rfl ⟨⟨Wv.refl _, trivial⟩, trivial⟩ (by simp [r_int_u8, rowF]) (by rw [r_int_u8_length, List.length_append]; exact h4) rfl ?_
      refine AL.v good (d := 0) (v := .sl (.own 0) 1 (r_int_u8 (v1_1 ++ [(bits .or .u8 (IntKind.u8.wrap (v1_2)) 128)]))) rfl rfl rfl rfl ?_
      refine AW.region (M := fun _ => true) ?_
      refine AL.v good (d := 7) (v := .int .u64 v1_2) rfl rfl rfl rfl ?_
      refine AL.v good (d := 8) (v := .int .u64 (v1_2.fdiv (2 ^ 7))) rfl rfl rfl rfl ?_
      refine AL.v good (d := 1) (v := .int .u64 (v1_2.fdiv (2 ^ 7))) rfl rfl rfl rfl ?_
      exact ⟨(m, (v1_1 ++ [(bits .or .u8 (IntKind.u8.wrap (v1_2)) 128)]), (v1_2.fdiv (2 ^ 7))), _, _, rfl, ⟨(idsIn_sub rfl), List.forall_mem_cons.2 ⟨⟨⟨_, rfl, Wv.refl _⟩, (by simp [pureA, pureL, pureR, inA, inL, inR, inO, idsIn, encs_pure, enxs_pure, enys_pure, valC_pure, exC_pure, tyC_pure, r_int_u8_pure])⟩, List.forall_mem_cons.2 ⟨⟨⟨_, rfl, Wv.refl _⟩, (by simp [pureA, pureL, pureR, inA, inL, inR, inO, idsIn, encs_pure, enxs_pure, enys_pure, valC_pure, exC_pure, tyC_pure, r_int_u8_pure])⟩, (fun _ h => by cases h)⟩⟩, List.forall_mem_cons.2 ⟨⟨⟨_, rfl, ⟨rfl, rfl, rfl⟩⟩, (by simp [pureA, pureL, pureR, inA, inL, inR, inO, idsIn, encs_pure, enxs_pure, enys_pure, valC_pure, exC_pure, tyC_pure, r_int_u8_pure])⟩, (fun _ h => by cases h)⟩⟩, ⟨hr, Nat.le_of_succ_le hm⟩, Nat.lt_succ_self _⟩
    · replace hr := cnd_f h3 hr
      refine AW.exit ?_
      refine AW.seq ?_
      refine AW.region (M := fun _ => true) ?_
      refine AL.v good (d := 15) (v := .sl (.own 0) 1 (r_int_u8 v1_1)) rfl rfl rfl rfl ?_
      refine AL.v good (d := 16) (v := .int .u64 v1_2) rfl rfl rfl rfl ?_
      refine AL.v good (d := 17) (v := .int .u8 (IntKind.u8.wrap (v1_2))) rfl rfl rfl rfl ?_
      refine AL.lit good (d := 18) (rows := [[.int .u8 (IntKind.u8.wrap (v1_2))]]) rfl rfl rfl rfl rfl rfl rfl rfl rfl 1 rfl ?_
      obtain ⟨h5, hr⟩ := grd hr
      refine AL.aw2 good (d := 19) (rows := r_int_u8 v1_1) (news := [[.int .u8 (IntKind.u8.wrap (v1_2))]]) (rows2 := r_int_u8 (v1_1 ++ [(IntKind.u8.wrap (v1_2))])) rfl rfl rfl rfl rfl rfl rfl rfl rfl (by simp) rfl rfl rfl ⟨⟨Wv.refl _, trivial⟩, trivial⟩ (by simp [r_int_u8, rowF]) (by rw [r_int_u8_length, List.length_append]; exact h5) rfl ?_
      refine AL.v good (d := 4) (v := .sl (.own 0) 1 (r_int_u8 (v1_1 ++ [(IntKind.u8.wrap (v1_2))]))) rfl rfl rfl rfl ?_
      refine AW.ret ?_
      obtain rfl := Option.some.inj hr
      exact RetH.w good (.inr rfl) rfl rfl (Wv.refl _) (List.forall_mem_cons.2 ⟨rfl, (fun _ h => by cases h)⟩)


theorem w_f49_3 (n : Nat) (a0 : List Int) (a1 : Int) (r : List Int) (hr : s_f49 n a0 a1 = some r) : ACallH Try.prog 49 [.sl (.own 3) 1 (r_int_u8 a0), .int .u64 a1] [(3, .row 5 1 (r_int_u8 a0).length)] [(3, .row 5 1 (r_int_u8 r).length)] (.sl (.own 3) 1 (r_int_u8 r)) := by
  refine ACallH.go [(0, .sl (.own 3) 1 (r_int_u8 a0)), (1, .int .u64 a1)] [(3, .row 5 1 (r_int_u8 a0).length)] Try.func49 rfl Try.ntmps49 rfl rfl rfl (by simp [pureA, pureL, pureR, inA, inL, inR, inO, idsIn, encs_pure, enxs_pure, enys_pure, valC_pure, exC_pure, tyC_pure, r_int_u8_pure]) (List.forall_mem_cons.2 ⟨(by simp [pureA, pureL, pureR, inA, inL, inR, inO, idsIn, encs_pure, enxs_pure, enys_pure, valC_pure, exC_pure, tyC_pure, r_int_u8_pure]), (fun _ h => by cases h)⟩) (List.forall_mem_cons.2 ⟨⟨rfl, (by simp [pureA, pureL, pureR, inA, inL, inR, inO, idsIn, encs_pure, enxs_pure, enys_pure, valC_pure, exC_pure, tyC_pure, r_int_u8_pure])⟩, (fun _ h => by cases h)⟩) (by simp [pureA, pureL, pureR, inA, inL, inR, inO, idsIn, encs_pure, enxs_pure, enys_pure, valC_pure, exC_pure, tyC_pure, r_int_u8_pure]) ?_
  rw [s_f49] at hr
  refine AW.seq ?_
  refine AW.region (M := fun _ => true) ?_
  refine AL.v good (d := 4) (v := .sl .nil 0 []) rfl rfl rfl rfl ?_
  refine AW.seq ?_
  refine AW.block ?_
  refine AW.lpw (fun x : Nat × (List Int) × Int => [(0, .sl (.own 3) 1 (r_int_u8 x.2.1)), (1, .int .u64 x.2.2)]) (fun x => [(3, .row 5 1 (r_int_u8 x.2.1).length)]) (fun x => s_f49_l1 x.1 x.2.1 x.2.2 = some r ∧ x.1 ≤ n) (fun x => x.1) (n, a0, a1) ⟨(idsIn_sub rfl), List.forall_mem_cons.2 ⟨⟨⟨_, rfl, Wv.refl _⟩, (by simp [pureA, pureL, pureR, inA, inL, inR, inO, idsIn, encs_pure, enxs_pure, enys_pure, valC_pure, exC_pure, tyC_pure, r_int_u8_pure])⟩, List.forall_mem_cons.2 ⟨⟨⟨_, rfl, Wv.refl _⟩, (by simp [pureA, pureL, pureR, inA, inL, inR, inO, idsIn, encs_pure, enxs_pure, enys_pure, valC_pure, exC_pure, tyC_pure, r_int_u8_pure])⟩, (fun _ h => by cases h)⟩⟩, List.forall_mem_cons.2 ⟨⟨⟨_, rfl, ⟨rfl, rfl, rfl⟩⟩, (by simp [pureA, pureL, pureR, inA, inL, inR, inO, idsIn, encs_pure, enxs_pure, enys_pure, valC_pure, exC_pure, tyC_pure, r_int_u8_pure])⟩, (fun _ h => by cases h)⟩⟩ ⟨hr, Nat.le_refl _⟩ (fun ⟨m, v1_1, v1_2⟩ hx => ?_)
  obtain ⟨hr, hm⟩ := hx
  try dsimp only at hr hm
  cases m with
  | zero => rw [s_f49_l1] at hr; cases hr
  | succ m =>
    rw [s_f49_l1] at hr
    show AW Try.prog _ _ _ (mkS 20 [(0, .sl (.own 3) 1 (r_int_u8 v1_1)), (1, .int .u64 v1_2)] [(3, .row 5 1 (r_int_u8 v1_1).length)])
    refine AW.seq ?_
    refine AW.seq ?_
    refine AW.region (M := fun _ => true) ?_
    refine AL.v good (d := 5) (v := .int .u64 v1_2) rfl rfl rfl rfl ?_
    refine AL.v good (d := 6) (v := .bool (decide (v1_2 ≥ 128))) rfl rfl rfl rfl ?_
    refine AW.if rfl (fun h3 => ?_) (fun h3 => ?_)
    · replace hr := cnd_t h3 hr
      refine AW.skip ?_
      refine AW.seq ?_
      refine AW.block ?_
      refine AW.region (M := fun _ => true) ?_
      refine AL.v good (d := 9) (v := .sl (.own 3) 1 (r_int_u8 v1_1)) rfl rfl rfl rfl ?_
      refine AL.v good (d := 10) (v := .int .u64 v1_2) rfl rfl rfl rfl ?_
      refine AL.v good (d := 11) (v := .int .u8 (IntKind.u8.wrap (v1_2))) rfl rfl rfl rfl ?_
      refine AL.v good (d := 12) (v := .int .u8 (bits .or .u8 (IntKind.u8.wrap (v1_2)) 128)) rfl rfl rfl rfl ?_
      refine AL.lit good (d := 13) (rows := [[.int .u8 (bits .or .u8 (IntKind.u8.wrap (v1_2)) 128)]]) rfl rfl rfl rfl rfl rfl rfl rfl rfl 4 rfl ?_
      obtain ⟨h4, hr⟩ := grd hr
      refine AL.aw2 good (d := 14) (rows := r_int_u8 v1_1) (news := [[.int .u8 (bits .or .u8 (IntKind.u8.wrap (v1_2)) 128)]]) (rows2 := r_int_u8 (v1_1 ++ [(bits .or .u8 (IntKind.u8.wrap (v1_2)) 128)])) rfl rfl rfl rfl rfl rfl rfl rfl rfl (by simp) rfl rfl rfl ⟨⟨Wv.refl _, trivial⟩, trivial⟩ (by simp [r_int_u8, rowF]) (by rw [r_int_u8_length, List.length_append]; exact h4) rfl ?_
      refine AL.v good (d := 0) (v := .sl (.own 3) 1 (r_int_u8 (v1_1 ++ [(bits .or .u8 (IntKind.u8.wrap (v1_2)) 128)]))) rfl rfl rfl rfl ?_
      refine AW.region (M := fun _ => true) ?_
      refine AL.v good (d := 7) (v := .int .u64 v1_2) rfl rfl rfl rfl ?_
      refine AL.v good (d := 8) (v := .int .u64 (v1_2.fdiv (2 ^ 7))) rfl rfl rfl rfl ?_
      refine AL.v good (d := 1) (v := .int .u64 (v1_2.fdiv (2 ^ 7))) rfl rfl rfl rfl ?_
      exact ⟨(m, (v1_1 ++ [(bits .or .u8 (IntKind.u8.wrap (v1_2)) 128)]), (v1_2.fdiv (2 ^ 7))), _, _, rfl, ⟨(idsIn_sub rfl), List.forall_mem_cons.2 ⟨⟨⟨_, rfl, Wv.refl _⟩, (by simp [pureA, pureL, pureR, inA, inL, inR, inO, idsIn, encs_pure, enxs_pure, enys_pure, valC_pure, exC_pure, tyC_pure, r_int_u8_pure])⟩, List.forall_mem_cons.2 ⟨⟨⟨_, rfl, Wv.refl _⟩, (by simp [pureA, pureL, pureR, inA, inL, inR, inO, idsIn, encs_pure, enxs_pure, enys_pure, valC_pure, exC_pure, tyC_pure, r_int_u8_pure])⟩, (fun _ h => by cases h)⟩⟩, List.forall_mem_cons.2 ⟨⟨⟨_, rfl, ⟨rfl, rfl, rfl⟩⟩, (by simp [pureA, pureL, pureR, inA, inL, inR, inO, idsIn, encs_pure, enxs_pure, enys_pure, valC_pure, exC_pure, tyC_pure, r_int_u8_pure])⟩, (fun _ h => by cases h)⟩⟩, ⟨hr, Nat.le_of_succ_le hm⟩, Nat.lt_succ_self _⟩
    · replace hr := cnd_f h3 hr
      refine AW.exit ?_
      refine AW.seq ?_
      refine AW.region (M := fun _ => true) ?_
      refine AL.v good (d := 15) (v := .sl (.own 3) 1 (r_int_u8 v1_1)) rfl rfl rfl rfl ?_
      refine AL.v good (d := 16) (v := .int .u64 v1_2) rfl rfl rfl rfl ?_
      refine AL.v good (d := 17) (v := .int .u8 (IntKind.u8.wrap (v1_2))) rfl rfl rfl rfl ?_
      refine AL.lit good (d := 18) (rows := [[.int .u8 (IntKind.u8.wrap (v1_2))]]) rfl rfl rfl rfl rfl rfl rfl rfl rfl 4 rfl ?_
      obtain ⟨h5, hr⟩ := grd hr
      refine AL.aw2 good (d := 19) (rows := r_int_u8 v1_1) (news := [[.int .u8 (IntKind.u8.wrap (v1_2))]]) (rows2 := r_int_u8 (v1_1 ++ [(IntKind.u8.wrap (v1_2))])) rfl rfl rfl rfl rfl rfl rfl rfl rfl (by simp) rfl rfl rfl ⟨⟨Wv.refl _, trivial⟩, trivial⟩ (by simp [r_int_u8, rowF]) (by rw [r_int_u8_length, List.length_append]; exact h5) rfl ?_
      refine AL.v good (d := 4) (v := .sl (.own 3) 1 (r_int_u8 (v1_1 ++ [(IntKind.u8.wrap (v1_2))]))) rfl rfl rfl rfl ?_
      refine AW.ret ?_
      obtain rfl := Option.some.inj hr
      exact RetH.w good (.inr rfl) rfl rfl (Wv.refl _) (List.forall_mem_cons.2 ⟨rfl, (fun _ h => by cases h)⟩)


theorem w_f80_3 (n : Nat) (a0 : List Int) (a1 : ByteArray) (r : List Int) (hr : s_f80 n a0 a1 = some r) : ACallH Try.prog 80 [.sl (.own 3) 1 (r_int_u8 a0), .str a1] [(3, .row 5 1 (r_int_u8 a0).length)] [(3, .row 5 1 (r_int_u8 r).length)] (.sl (.own 3) 1 (r_int_u8 r)) := by
  refine ACallH.go [(0, .sl (.own 3) 1 (r_int_u8 a0)), (1, .str a1)] [(3, .row 5 1 (r_int_u8 a0).length)] Try.func80 rfl Try.ntmps80 rfl rfl rfl (by simp [pureA, pureL, pureR, inA, inL, inR, inO, idsIn, encs_pure, enxs_pure, enys_pure, valC_pure, exC_pure, tyC_pure, r_int_u8_pure]) (List.forall_mem_cons.2 ⟨(by simp [pureA, pureL, pureR, inA, inL, inR, inO, idsIn, encs_pure, enxs_pure, enys_pure, valC_pure, exC_pure, tyC_pure, r_int_u8_pure]), (fun _ h => by cases h)⟩) (List.forall_mem_cons.2 ⟨⟨rfl, (by simp [pureA, pureL, pureR, inA, inL, inR, inO, idsIn, encs_pure, enxs_pure, enys_pure, valC_pure, exC_pure, tyC_pure, r_int_u8_pure])⟩, (fun _ h => by cases h)⟩) (by simp [pureA, pureL, pureR, inA, inL, inR, inO, idsIn, encs_pure, enxs_pure, enys_pure, valC_pure, exC_pure, tyC_pure, r_int_u8_pure]) ?_
  rw [s_f80] at hr
  refine AW.seq ?_
  refine AW.region (M := fun _ => true) ?_
  refine AL.v good (d := 4) (v := .sl .nil 0 []) rfl rfl rfl rfl ?_
  refine AW.seq ?_
  refine AW.region (M := fun _ => true) ?_
  refine AL.v good (d := 5) (v := .sl (.own 3) 1 (r_int_u8 a0)) rfl rfl rfl rfl ?_
  refine AL.v good (d := 6) (v := .str a1) rfl rfl rfl rfl ?_
  refine AL.v good (d := 7) (v := .int .i64 (a1.size : Int)) rfl rfl rfl rfl ?_
  refine AL.v good (d := 8) (v := .int .u64 (IntKind.u64.wrap ((a1.size : Int)))) rfl rfl rfl rfl ?_
  obtain ⟨q1, h2, hr⟩ := bnd1 hr
  refine AL.clW good (d := 9) (xs := [.sl (.own 3) 1 (r_int_u8 a0), .int .u64 (IntKind.u64.wrap ((a1.size : Int)))]) (rd := [(3, .row 5 1 (r_int_u8 a0).length)]) (up := [(3, .row 5 1 (r_int_u8 q1).length)]) (res := .sl (.own 3) 1 (r_int_u8 q1)) rfl rfl rfl rfl rfl rfl rfl (w_f49_3 _ _ _ _ h2) ⟨(Wv.refl _), (Wv.refl _), trivial⟩ (List.forall_mem_cons.2 ⟨rfl, (fun _ h => by cases h)⟩) (List.forall_mem_cons.2 ⟨⟨_, .head _⟩, (fun _ h => by cases h)⟩) rfl rfl ?_
  refine AL.v good (d := 10) (v := .str a1) rfl rfl rfl rfl ?_
  obtain ⟨h3, hr⟩ := grd hr
  refine AL.apS good (d := 11) (rows := r_int_u8 q1) (rows2 := r_int_u8 (q1 ++ (bI8 a1))) rfl rfl rfl rfl rfl (by kernel_rfl) rfl rfl rfl rfl rfl (bR8_eq _ _) (by rw [r_int_u8_length, List.length_append, bI8_length]; exact h3) ?_
  refine AL.v good (d := 4) (v := .sl (.own 3) 1 (r_int_u8 (q1 ++ (bI8 a1)))) rfl rfl rfl rfl ?_
  refine AW.ret ?_
  obtain rfl := Option.some.inj hr
  exact RetH.w good (.inr rfl) rfl rfl (Wv.refl _) (List.forall_mem_cons.2 ⟨rfl, (fun _ h => by cases h)⟩)


theorem w_f46_3_a (n : Nat) (ih : ∀ (m : Nat) (a0 : List Int) (a1 : Val) (r : List Int), s_f46 m a0 a1 = some r → m < n → ACallH Try.prog 46 [.sl (.own 3) 1 (r_int_u8 a0), .agg (valC a1)] [(3, .row 5 1 (r_int_u8 a0).length)] [(3, .row 5 1 (r_int_u8 r).length)] (.sl (.own 3) 1 (r_int_u8 r))) (a0 : List Int) (a1 : Val) (r : List Int) (hr : s_f46 n a0 a1 = some r) : ACallH Try.prog 46 [.sl (.own 3) 1 (r_int_u8 a0), .agg (valC a1)] [(3, .row 5 1 (r_int_u8 a0).length)] [(3, .row 5 1 (r_int_u8 r).length)] (.sl (.own 3) 1 (r_int_u8 r)) := by
  refine ACallH.go [(0, .sl (.own 3) 1 (r_int_u8 a0)), (1, .agg (valC a1))] [(3, .row 5 1 (r_int_u8 a0).length)] Try.func46 rfl Try.ntmps46 rfl rfl rfl (by simp [pureA, pureL, pureR, inA, inL, inR, inO, idsIn, encs_pure, enxs_pure, enys_pure, valC_pure, exC_pure, tyC_pure, r_int_u8_pure]) (List.forall_mem_cons.2 ⟨(by simp [pureA, pureL, pureR, inA, inL, inR, inO, idsIn, encs_pure, enxs_pure, enys_pure, valC_pure, exC_pure, tyC_pure, r_int_u8_pure]), (fun _ h => by cases h)⟩) (List.forall_mem_cons.2 ⟨⟨rfl, (by simp [pureA, pureL, pureR, inA, inL, inR, inO, idsIn, encs_pure, enxs_pure, enys_pure, valC_pure, exC_pure, tyC_pure, r_int_u8_pure])⟩, (fun _ h => by cases h)⟩) (by simp [pureA, pureL, pureR, inA, inL, inR, inO, idsIn, encs_pure, enxs_pure, enys_pure, valC_pure, exC_pure, tyC_pure, r_int_u8_pure]) ?_
  cases n with
  | zero => rw [s_f46] at hr; cases hr
  | succ n =>
    rw [s_f46] at hr
    refine AW.seq ?_
    refine AW.region (M := fun _ => true) ?_
    refine AL.bx good (d := 3) (l := [.int .i64 a1.kind, .int .i64 a1.i, .bool a1.b, .str a1.s, .sl .ro 5 (encs a1.t)]) rfl rfl rfl rfl rfl rfl 4 rfl ?_
    refine AL.v good (d := 4) (v := .sl .nil 0 []) rfl rfl rfl rfl ?_
    refine AW.seq ?_
    refine AW.region (M := fun _ => true) ?_
    refine AL.v good (d := 7) (v := .sl (.own 3) 1 (r_int_u8 a0)) rfl rfl rfl rfl ?_
    refine AL.v good (d := 8) (v := .ptr 4 0) rfl rfl rfl rfl ?_
    refine AL.v good (d := 9) (v := .int .i64 a1.kind) rfl rfl rfl rfl ?_
    refine AL.v good (d := 10) (v := .int .u8 (IntKind.u8.wrap (a1.kind))) rfl rfl rfl rfl ?_
    refine AL.lit good (d := 11) (rows := [[.int .u8 (IntKind.u8.wrap (a1.kind))]]) rfl rfl rfl rfl rfl rfl rfl rfl rfl 5 rfl ?_
    obtain ⟨h1, hr⟩ := grd hr
    refine AL.aw2 good (d := 12) (rows := r_int_u8 a0) (news := [[.int .u8 (IntKind.u8.wrap (a1.kind))]]) (rows2 := r_int_u8 (a0 ++ [(IntKind.u8.wrap (a1.kind))])) rfl rfl rfl rfl rfl rfl rfl rfl rfl (by simp) rfl rfl rfl ⟨⟨Wv.refl _, trivial⟩, trivial⟩ (by simp [r_int_u8, rowF]) (by rw [r_int_u8_length, List.length_append]; exact h1) rfl ?_
    refine AL.v good (d := 0) (v := .sl (.own 3) 1 (r_int_u8 (a0 ++ [(IntKind.u8.wrap (a1.kind))]))) rfl rfl rfl rfl ?_
    refine AW.seq ?_
    refine AW.seq ?_
    refine AW.region (M := fun _ => true) ?_
    refine AL.v good (d := 13) (v := .ptr 4 0) rfl rfl rfl rfl ?_
    refine AL.v good (d := 14) (v := .int .i64 a1.kind) rfl rfl rfl rfl ?_
    refine AW.block ?_
    refine AW.seq ?_
    refine AW.region (M := fun _ => true) ?_
    refine AL.v good (d := 16) (v := .bool (a1.kind == 1)) rfl rfl rfl rfl ?_
    refine AL.v good (d := 15) (v := .bool (a1.kind == 1)) rfl rfl rfl rfl ?_
    refine AW.if rfl (fun h2 => ?_) (fun h2 => ?_)
    · replace hr := cnd_t h2 hr
      refine AW.seq ?_
      refine AW.region (M := fun _ => true) ?_
      refine AL.v good (d := 17) (v := .sl (.own 3) 1 (r_int_u8 (a0 ++ [(IntKind.u8.wrap (a1.kind))]))) rfl rfl rfl rfl ?_
      refine AL.v good (d := 18) (v := .ptr 4 1) rfl rfl rfl rfl ?_
      refine AL.v good (d := 19) (v := .int .i64 a1.i) rfl rfl rfl rfl ?_
      refine AL.v good (d := 20) (v := .int .u64 (IntKind.u64.wrap (a1.i))) rfl rfl rfl rfl ?_
      refine AL.v good (d := 21) (v := .int .u64 (IntKind.u64.wrap ((IntKind.u64.wrap (a1.i)) * 2 ^ 1))) rfl rfl rfl rfl ?_
      refine AL.v good (d := 22) (v := .ptr 4 1) rfl rfl rfl rfl ?_
      refine AL.v good (d := 23) (v := .int .i64 a1.i) rfl rfl rfl rfl ?_
      refine AL.v good (d := 24) (v := .int .i64 (a1.i.fdiv (2 ^ 63))) rfl rfl rfl rfl ?_
      refine AL.v good (d := 25) (v := .int .u64 (IntKind.u64.wrap ((a1.i.fdiv (2 ^ 63))))) rfl rfl rfl rfl ?_
      refine AL.v good (d := 26) (v := .int .u64 (bits .xor .u64 (IntKind.u64.wrap ((IntKind.u64.wrap (a1.i)) * 2 ^ 1)) (IntKind.u64.wrap ((a1.i.fdiv (2 ^ 63)))))) rfl rfl rfl rfl ?_
      obtain ⟨q3, h4, hr⟩ := bnd1 hr
      refine AL.clW good (d := 27) (xs := [.sl (.own 3) 1 (r_int_u8 (a0 ++ [(IntKind.u8.wrap (a1.kind))])), .int .u64 (bits .xor .u64 (IntKind.u64.wrap ((IntKind.u64.wrap (a1.i)) * 2 ^ 1)) (IntKind.u64.wrap ((a1.i.fdiv (2 ^ 63)))))]) (rd := [(3, .row 5 1 (r_int_u8 (a0 ++ [(IntKind.u8.wrap (a1.kind))])).length)]) (up := [(3, .row 5 1 (r_int_u8 q3).length)]) (res := .sl (.own 3) 1 (r_int_u8 q3)) rfl rfl rfl rfl rfl rfl rfl (w_f49_3 _ _ _ _ h4) ⟨(Wv.refl _), (Wv.refl _), trivial⟩ (List.forall_mem_cons.2 ⟨rfl, (fun _ h => by cases h)⟩) (List.forall_mem_cons.2 ⟨⟨_, .head _⟩, (fun _ h => by cases h)⟩) rfl rfl ?_
      refine AL.v good (d := 4) (v := .sl (.own 3) 1 (r_int_u8 q3)) rfl rfl rfl rfl ?_
      refine AW.ret ?_
      obtain rfl := Option.some.inj hr
      exact RetH.w good (.inr rfl) rfl rfl (Wv.refl _) (List.forall_mem_cons.2 ⟨rfl, (fun _ h => by cases h)⟩)
    · replace hr := cnd_f h2 hr
      refine AW.seq ?_
      refine AW.region (M := fun _ => true) ?_
      refine AL.v good (d := 29) (v := .bool (a1.kind == 2)) rfl rfl rfl rfl ?_
      refine AL.v good (d := 28) (v := .bool (a1.kind == 2)) rfl rfl rfl rfl ?_
      refine AW.if rfl (fun h5 => ?_) (fun h5 => ?_)
      · replace hr := cnd_t h5 hr
        refine AW.seq ?_
        refine AW.seq ?_
        refine AW.region (M := fun _ => true) ?_
        refine AL.v good (d := 30) (v := .ptr 4 2) rfl rfl rfl rfl ?_
        refine AL.v good (d := 31) (v := .bool a1.b) rfl rfl rfl rfl ?_
        refine AW.if rfl (fun h6 => ?_) (fun h6 => ?_)
        · replace hr := cnd_t h6 hr
          refine AW.seq ?_
          refine AW.region (M := fun _ => true) ?_
          refine AL.v good (d := 32) (v := .sl (.own 3) 1 (r_int_u8 (a0 ++ [(IntKind.u8.wrap (a1.kind))]))) rfl rfl rfl rfl ?_
          refine AL.lit good (d := 33) (rows := [[.int .u8 1]]) rfl rfl rfl rfl rfl rfl rfl rfl rfl 6 rfl ?_
          obtain ⟨h7, hr⟩ := grd hr
          refine AL.aw2 good (d := 34) (rows := r_int_u8 (a0 ++ [(IntKind.u8.wrap (a1.kind))])) (news := [[.int .u8 1]]) (rows2 := r_int_u8 ((a0 ++ [(IntKind.u8.wrap (a1.kind))]) ++ [1])) rfl rfl rfl rfl rfl rfl rfl rfl rfl (by simp) rfl rfl rfl ⟨⟨Wv.refl _, trivial⟩, trivial⟩ (by simp [r_int_u8, rowF]) (by rw [r_int_u8_length, List.length_append]; exact h7) rfl ?_
          refine AL.v good (d := 4) (v := .sl (.own 3) 1 (r_int_u8 ((a0 ++ [(IntKind.u8.wrap (a1.kind))]) ++ [1]))) rfl rfl rfl rfl ?_
          refine AW.ret ?_
          obtain rfl := Option.some.inj hr
          exact RetH.w good (.inr rfl) rfl rfl (Wv.refl _) (List.forall_mem_cons.2 ⟨rfl, (fun _ h => by cases h)⟩)
        · replace hr := cnd_f h6 hr
          refine AW.skip ?_
          refine AW.seq ?_
          refine AW.region (M := fun _ => true) ?_
          refine AL.v good (d := 35) (v := .sl (.own 3) 1 (r_int_u8 (a0 ++ [(IntKind.u8.wrap (a1.kind))]))) rfl rfl rfl rfl ?_
          refine AL.lit good (d := 36) (rows := [[.int .u8 0]]) rfl rfl rfl rfl rfl rfl rfl rfl rfl 6 rfl ?_
          obtain ⟨h8, hr⟩ := grd hr
          refine AL.aw2 good (d := 37) (rows := r_int_u8 (a0 ++ [(IntKind.u8.wrap (a1.kind))])) (news := [[.int .u8 0]]) (rows2 := r_int_u8 ((a0 ++ [(IntKind.u8.wrap (a1.kind))]) ++ [0])) rfl rfl rfl rfl rfl rfl rfl rfl rfl (by simp) rfl rfl rfl ⟨⟨Wv.refl _, trivial⟩, trivial⟩ (by simp [r_int_u8, rowF]) (by rw [r_int_u8_length, List.length_append]; exact h8) rfl ?_
          refine AL.v good (d := 4) (v := .sl (.own 3) 1 (r_int_u8 ((a0 ++ [(IntKind.u8.wrap (a1.kind))]) ++ [0]))) rfl rfl rfl rfl ?_
          refine AW.ret ?_
          obtain rfl := Option.some.inj hr
          exact RetH.w good (.inr rfl) rfl rfl (Wv.refl _) (List.forall_mem_cons.2 ⟨rfl, (fun _ h => by cases h)⟩)
      · replace hr := cnd_f h5 hr
        refine AW.seq ?_
        refine AW.region (M := fun _ => true) ?_
        refine AL.v good (d := 39) (v := .bool (a1.kind == 3)) rfl rfl rfl rfl ?_
        refine AL.v good (d := 38) (v := .bool (a1.kind == 3)) rfl rfl rfl rfl ?_
        refine AW.if rfl (fun h9 => ?_) (fun h9 => ?_)
        · replace hr := cnd_t h9 hr
          refine AW.seq ?_
          refine AW.region (M := fun _ => true) ?_
          refine AL.v good (d := 40) (v := .sl (.own 3) 1 (r_int_u8 (a0 ++ [(IntKind.u8.wrap (a1.kind))]))) rfl rfl rfl rfl ?_
          refine AL.v good (d := 41) (v := .ptr 4 3) rfl rfl rfl rfl ?_
          refine AL.v good (d := 42) (v := .str a1.s) rfl rfl rfl rfl ?_
          obtain ⟨q10, h11, hr⟩ := bnd1 hr
          refine AL.clW good (d := 43) (xs := [.sl (.own 3) 1 (r_int_u8 (a0 ++ [(IntKind.u8.wrap (a1.kind))])), .str a1.s]) (rd := [(3, .row 5 1 (r_int_u8 (a0 ++ [(IntKind.u8.wrap (a1.kind))])).length)]) (up := [(3, .row 5 1 (r_int_u8 q10).length)]) (res := .sl (.own 3) 1 (r_int_u8 q10)) rfl rfl rfl rfl rfl rfl rfl (w_f80_3 _ _ _ _ h11) ⟨(Wv.refl _), (Wv.refl _), trivial⟩ (List.forall_mem_cons.2 ⟨rfl, (fun _ h => by cases h)⟩) (List.forall_mem_cons.2 ⟨⟨_, .head _⟩, (fun _ h => by cases h)⟩) rfl rfl ?_
          refine AL.v good (d := 4) (v := .sl (.own 3) 1 (r_int_u8 q10)) rfl rfl rfl rfl ?_
          refine AW.ret ?_
          obtain rfl := Option.some.inj hr
          exact RetH.w good (.inr rfl) rfl rfl (Wv.refl _) (List.forall_mem_cons.2 ⟨rfl, (fun _ h => by cases h)⟩)
        · replace hr := cnd_f h9 hr
          refine AW.skip ?_
          refine AW.seq ?_
          refine AW.region (M := fun _ => true) ?_
          refine AL.v good (d := 44) (v := .sl (.own 3) 1 (r_int_u8 (a0 ++ [(IntKind.u8.wrap (a1.kind))]))) rfl rfl rfl rfl ?_
          refine AL.v good (d := 45) (v := .ptr 4 4) rfl rfl rfl rfl ?_
          refine AL.v good (d := 46) (v := .sl .ro 5 (encs a1.t)) rfl rfl rfl rfl ?_
          refine AL.ln good (d := 47) (m := a1.t.length) rfl rfl rfl rfl rfl rfl (encs_length _) ?_
          refine AL.v good (d := 48) (v := .int .u8 (IntKind.u8.wrap ((a1.t.length : Int)))) rfl rfl rfl rfl ?_
          refine AL.lit good (d := 49) (rows := [[.int .u8 (IntKind.u8.wrap ((a1.t.length : Int)))]]) rfl rfl rfl rfl rfl rfl rfl rfl rfl 6 rfl ?_
          obtain ⟨h12, hr⟩ := grd hr
          refine AL.aw2 good (d := 50) (rows := r_int_u8 (a0 ++ [(IntKind.u8.wrap (a1.kind))])) (news := [[.int .u8 (IntKind.u8.wrap ((a1.t.length : Int)))]]) (rows2 := r_int_u8 ((a0 ++ [(IntKind.u8.wrap (a1.kind))]) ++ [(IntKind.u8.wrap ((a1.t.length : Int)))])) rfl rfl rfl rfl rfl rfl rfl rfl rfl (by simp) rfl rfl rfl ⟨⟨Wv.refl _, trivial⟩, trivial⟩ (by simp [r_int_u8, rowF]) (by rw [r_int_u8_length, List.length_append]; exact h12) rfl ?_
          refine AL.v good (d := 0) (v := .sl (.own 3) 1 (r_int_u8 ((a0 ++ [(IntKind.u8.wrap (a1.kind))]) ++ [(IntKind.u8.wrap ((a1.t.length : Int)))]))) rfl rfl rfl rfl ?_
          refine AW.seq ?_
          refine AW.seq ?_
          refine AW.region (M := fun _ => true) ?_
          refine AL.v good (d := 51) (v := .ptr 4 4) rfl rfl rfl rfl ?_
          refine AL.v good (d := 52) (v := .sl .ro 5 (encs a1.t)) rfl rfl rfl rfl ?_
          refine AL.ln good (d := 53) (m := a1.t.length) rfl rfl rfl rfl rfl rfl (encs_length _) ?_
          refine AL.v good (d := 54) (v := .int .i64 0) rfl rfl rfl rfl ?_
          refine AW.block ?_
          refine AW.lens 52 rfl (fun hl19 => ?_)
          replace hl19 : a1.t.length ≤ 9223372036854775807 := by rw [← encs_length a1.t]; exact hl19
          refine AW.lpw (fun x : Nat × (List Int) × Nat => [(0, .sl (.own 3) 1 (r_int_u8 x.2.1)), (52, .sl .ro 5 (encs a1.t)), (53, .int .i64 (a1.t.length : Int)), (54, .int .i64 (x.2.2 : Int))]) (fun x => [(3, .row 5 1 (r_int_u8 x.2.1).length)]) (fun x => s_f46_l1 x.1 a1 x.2.1 x.2.2 = some r ∧ x.1 ≤ n) (fun x => x.1) (n, ((a0 ++ [(IntKind.u8.wrap (a1.kind))]) ++ [(IntKind.u8.wrap ((a1.t.length : Int)))]), 0) ⟨(idsIn_sub rfl), List.forall_mem_cons.2 ⟨⟨⟨_, rfl, Wv.refl _⟩, (by simp [pureA, pureL, pureR, inA, inL, inR, inO, idsIn, encs_pure, enxs_pure, enys_pure, valC_pure, exC_pure, tyC_pure, r_int_u8_pure])⟩, List.forall_mem_cons.2 ⟨⟨⟨_, rfl, Wv.refl _⟩, (by simp [pureA, pureL, pureR, inA, inL, inR, inO, idsIn, encs_pure, enxs_pure, enys_pure, valC_pure, exC_pure, tyC_pure, r_int_u8_pure])⟩, List.forall_mem_cons.2 ⟨⟨⟨_, rfl, Wv.refl _⟩, (by simp [pureA, pureL, pureR, inA, inL, inR, inO, idsIn, encs_pure, enxs_pure, enys_pure, valC_pure, exC_pure, tyC_pure, r_int_u8_pure])⟩, List.forall_mem_cons.2 ⟨⟨⟨_, rfl, Wv.refl _⟩, (by simp [pureA, pureL, pureR, inA, inL, inR, inO, idsIn, encs_pure, enxs_pure, enys_pure, valC_pure, exC_pure, tyC_pure, r_int_u8_pure])⟩, (fun _ h => by cases h)⟩⟩⟩⟩, List.forall_mem_cons.2 ⟨⟨⟨_, rfl, ⟨rfl, rfl, rfl⟩⟩, (by simp [pureA, pureL, pureR, inA, inL, inR, inO, idsIn, encs_pure, enxs_pure, enys_pure, valC_pure, exC_pure, tyC_pure, r_int_u8_pure])⟩, (fun _ h => by cases h)⟩⟩ ⟨hr, Nat.le_refl _⟩ (fun ⟨m, v1_1, v1_2⟩ hx => ?_)
          obtain ⟨hr, hm⟩ := hx
          try dsimp only at hr hm
          cases m with
          | zero => rw [s_f46_l1] at hr; cases hr
          | succ m =>
            rw [s_f46_l1] at hr
            show AW Try.prog _ _ _ (mkS 63 [(0, .sl (.own 3) 1 (r_int_u8 v1_1)), (52, .sl .ro 5 (encs a1.t)), (53, .int .i64 (a1.t.length : Int)), (54, .int .i64 (v1_2 : Int))] [(3, .row 5 1 (r_int_u8 v1_1).length)])
            refine AW.seq ?_
            refine AW.region (M := fun _ => true) ?_
            refine AL.v good (d := 55) (v := .bool (decide ((v1_2 : Int) < (a1.t.length : Int)))) rfl rfl rfl rfl ?_
            refine AW.seq ?_
            refine AW.if rfl (fun h20 => ?_) (fun h20 => ?_)
            · replace hr := cnd_t h20 hr
              refine AW.skip ?_
              refine AW.seq ?_
              refine AW.block ?_
              refine AW.seq ?_
              refine AW.region (M := fun _ => true) ?_
              obtain ⟨x21, h22, hr⟩ := bnd1 hr
              refine AL.ix good (d := 56) (r := [.int .i64 x21.kind, .int .i64 x21.i, .bool x21.b, .str x21.s, .sl .ro 5 (encs x21.t)]) rfl rfl rfl rfl rfl rfl rfl (Int.natCast_nonneg _) (encs_get h22) ?_
              refine AL.v good (d := 57) (v := .agg [.int .i64 x21.kind, .int .i64 x21.i, .bool x21.b, .str x21.s, .sl .ro 5 (encs x21.t)]) rfl rfl rfl rfl ?_
              refine AL.alc good (d := 6) rfl rfl rfl rfl rfl 7 rfl ?_
              refine AL.st2 good (c2 := [.int .i64 x21.kind, .int .i64 x21.i, .bool x21.b, .str x21.s, .sl .ro 5 (encs x21.t)]) rfl rfl rfl rfl rfl rfl rfl rfl rfl rfl rfl rfl ?_
              refine AW.region (M := fun _ => true) ?_
              refine AL.v good (d := 58) (v := .sl (.own 3) 1 (r_int_u8 v1_1)) rfl rfl rfl rfl ?_
              refine AL.v good (d := 59) (v := .agg [.int .i64 x21.kind, .int .i64 x21.i, .bool x21.b, .str x21.s, .sl .ro 5 (encs x21.t)]) rfl rfl rfl rfl ?_
              obtain ⟨q23, h24, hr⟩ := bnd1 hr
              refine AL.clW good (d := 60) (xs := [.sl (.own 3) 1 (r_int_u8 v1_1), .agg (valC x21)]) (rd := [(3, .row 5 1 (r_int_u8 v1_1).length)]) (up := [(3, .row 5 1 (r_int_u8 q23).length)]) (res := .sl (.own 3) 1 (r_int_u8 q23)) rfl rfl rfl rfl rfl rfl rfl (ih _ _ _ _ h24 (by omega)) ⟨(Wv.refl _), (Wv.refl _), trivial⟩ (List.forall_mem_cons.2 ⟨rfl, (fun _ h => by cases h)⟩) (List.forall_mem_cons.2 ⟨⟨_, .head _⟩, (fun _ h => by cases h)⟩) rfl rfl ?_
              refine AL.v good (d := 0) (v := .sl (.own 3) 1 (r_int_u8 q23)) rfl rfl rfl rfl ?_
              refine AW.region (M := fun _ => true) ?_
              refine AL.v good (d := 61) (v := .int .i64 (IntKind.i64.wrap ((v1_2 : Int) + 1))) rfl rfl rfl rfl ?_
              refine AL.v good (d := 54) (v := .int .i64 (IntKind.i64.wrap ((v1_2 : Int) + 1))) rfl rfl rfl rfl ?_
              exact ⟨(m, q23, (v1_2 + 1)), _, _, rfl, ⟨(idsIn_sub rfl), List.forall_mem_cons.2 ⟨⟨⟨_, rfl, Wv.refl _⟩, (by simp [pureA, pureL, pureR, inA, inL, inR, inO, idsIn, encs_pure, enxs_pure, enys_pure, valC_pure, exC_pure, tyC_pure, r_int_u8_pure])⟩, List.forall_mem_cons.2 ⟨⟨⟨_, rfl, Wv.refl _⟩, (by simp [pureA, pureL, pureR, inA, inL, inR, inO, idsIn, encs_pure, enxs_pure, enys_pure, valC_pure, exC_pure, tyC_pure, r_int_u8_pure])⟩, List.forall_mem_cons.2 ⟨⟨⟨_, rfl, Wv.refl _⟩, (by simp [pureA, pureL, pureR, inA, inL, inR, inO, idsIn, encs_pure, enxs_pure, enys_pure, valC_pure, exC_pure, tyC_pure, r_int_u8_pure])⟩, List.forall_mem_cons.2 ⟨⟨⟨_, rfl, (wnx h20 hl19)⟩, (by simp [pureA, pureL, pureR, inA, inL, inR, inO, idsIn, encs_pure, enxs_pure, enys_pure, valC_pure, exC_pure, tyC_pure, r_int_u8_pure])⟩, (fun _ h => by cases h)⟩⟩⟩⟩, List.forall_mem_cons.2 ⟨⟨⟨_, rfl, ⟨rfl, rfl, rfl⟩⟩, (by simp [pureA, pureL, pureR, inA, inL, inR, inO, idsIn, encs_pure, enxs_pure, enys_pure, valC_pure, exC_pure, tyC_pure, r_int_u8_pure])⟩, (fun _ h => by cases h)⟩⟩, ⟨hr, Nat.le_of_succ_le hm⟩, Nat.lt_succ_self _⟩
            · replace hr := cnd_f h20 hr
              refine AW.exit ?_
              refine AW.seq ?_
              refine AW.region (M := fun _ => true) ?_
              refine AL.v good (d := 62) (v := .sl (.own 3) 1 (r_int_u8 v1_1)) rfl rfl rfl rfl ?_
              refine AL.v good (d := 4) (v := .sl (.own 3) 1 (r_int_u8 v1_1)) rfl rfl rfl rfl ?_
              refine AW.ret ?_
              obtain rfl := Option.some.inj hr
              exact RetH.w good (.inr rfl) rfl rfl (Wv.refl _) (List.forall_mem_cons.2 ⟨rfl, (fun _ h => by cases h)⟩)
theorem w_f46_3 (n : Nat) : ∀ (a0 : List Int) (a1 : Val) (r : List Int) (hr : s_f46 n a0 a1 = some r), ACallH Try.prog 46 [.sl (.own 3) 1 (r_int_u8 a0), .agg (valC a1)] [(3, .row 5 1 (r_int_u8 a0).length)] [(3, .row 5 1 (r_int_u8 r).length)] (.sl (.own 3) 1 (r_int_u8 r)) := by
  induction n using Nat.strongRecOn with
  | _ n ih =>
    intro a0 a1 r hr
    exact w_f46_3_a n (fun m a0 a1 r h hm => ih m hm a0 a1 r h) a0 a1 r hr


theorem w_f49_7 (n : Nat) (a0 : List Int) (a1 : Int) (r : List Int) (hr : s_f49 n a0 a1 = some r) : ACallH Try.prog 49 [.sl (.own 7) 1 (r_int_u8 a0), .int .u64 a1] [(7, .row 5 1 (r_int_u8 a0).length)] [(7, .row 5 1 (r_int_u8 r).length)] (.sl (.own 7) 1 (r_int_u8 r)) := by
  refine ACallH.go [(0, .sl (.own 7) 1 (r_int_u8 a0)), (1, .int .u64 a1)] [(7, .row 5 1 (r_int_u8 a0).length)] Try.func49 rfl Try.ntmps49 rfl rfl rfl (by simp [pureA, pureL, pureR, inA, inL, inR, inO, idsIn, encs_pure, enxs_pure, enys_pure, valC_pure, exC_pure, tyC_pure, r_int_u8_pure]) (List.forall_mem_cons.2 ⟨(by simp [pureA, pureL, pureR, inA, inL, inR, inO, idsIn, encs_pure, enxs_pure, enys_pure, valC_pure, exC_pure, tyC_pure, r_int_u8_pure]), (fun _ h => by cases h)⟩) (List.forall_mem_cons.2 ⟨⟨rfl, (by simp [pureA, pureL, pureR, inA, inL, inR, inO, idsIn, encs_pure, enxs_pure, enys_pure, valC_pure, exC_pure, tyC_pure, r_int_u8_pure])⟩, (fun _ h => by cases h)⟩) (by simp [pureA, pureL, pureR, inA, inL, inR, inO, idsIn, encs_pure, enxs_pure, enys_pure, valC_pure, exC_pure, tyC_pure, r_int_u8_pure]) ?_
  rw [s_f49] at hr
  refine AW.seq ?_
  refine AW.region (M := fun _ => true) ?_
  refine AL.v good (d := 4) (v := .sl .nil 0 []) rfl rfl rfl rfl ?_
  refine AW.seq ?_
  refine AW.block ?_
  refine AW.lpw (fun x : Nat × (List Int) × Int => [(0, .sl (.own 7) 1 (r_int_u8 x.2.1)), (1, .int .u64 x.2.2)]) (fun x => [(7, .row 5 1 (r_int_u8 x.2.1).length)]) (fun x => s_f49_l1 x.1 x.2.1 x.2.2 = some r ∧ x.1 ≤ n) (fun x => x.1) (n, a0, a1) ⟨(idsIn_sub rfl), List.forall_mem_cons.2 ⟨⟨⟨_, rfl, Wv.refl _⟩, (by simp [pureA, pureL, pureR, inA, inL, inR, inO, idsIn, encs_pure, enxs_pure, enys_pure, valC_pure, exC_pure, tyC_pure, r_int_u8_pure])⟩, List.forall_mem_cons.2 ⟨⟨⟨_, rfl, Wv.refl _⟩, (by simp [pureA, pureL, pureR, inA, inL, inR, inO, idsIn, encs_pure, enxs_pure, enys_pure, valC_pure, exC_pure, tyC_pure, r_int_u8_pure])⟩, (fun _ h => by cases h)⟩⟩, List.forall_mem_cons.2 ⟨⟨⟨_, rfl, ⟨rfl, rfl, rfl⟩⟩, (by simp [pureA, pureL, pureR, inA, inL, inR, inO, idsIn, encs_pure, enxs_pure, enys_pure, valC_pure, exC_pure, tyC_pure, r_int_u8_pure])⟩, (fun _ h => by cases h)⟩⟩ ⟨hr, Nat.le_refl _⟩ (fun ⟨m, v1_1, v1_2⟩ hx => ?_)
  obtain ⟨hr, hm⟩ := hx
  try dsimp only at hr hm
  cases m with
  | zero => rw [s_f49_l1] at hr; cases hr
  | succ m =>
    rw [s_f49_l1] at hr
    show AW Try.prog _ _ _ (mkS 20 [(0, .sl (.own 7) 1 (r_int_u8 v1_1)), (1, .int .u64 v1_2)] [(7, .row 5 1 (r_int_u8 v1_1).length)])
    refine AW.seq ?_
    refine AW.seq ?_
    refine AW.region (M := fun _ => true) ?_
    refine AL.v good (d := 5) (v := .int .u64 v1_2) rfl rfl rfl rfl ?_
    refine AL.v good (d := 6) (v := .bool (decide (v1_2 ≥ 128))) rfl rfl rfl rfl ?_
    refine AW.if rfl (fun h3 => ?_) (fun h3 => ?_)
    · replace hr := cnd_t h3 hr
      refine AW.skip ?_
      refine AW.seq ?_
      refine AW.block ?_
      refine AW.region (M := fun _ => true) ?_
      refine AL.v good (d := 9) (v := .sl (.own 7) 1 (r_int_u8 v1_1)) rfl rfl rfl rfl ?_
      refine AL.v good (d := 10) (v := .int .u64 v1_2) rfl rfl rfl rfl ?_
      refine AL.v good (d := 11) (v := .int .u8 (IntKind.u8.wrap (v1_2))) rfl rfl rfl rfl ?_
      refine AL.v good (d := 12) (v := .int .u8 (bits .or .u8 (IntKind.u8.wrap (v1_2)) 128)) rfl rfl rfl rfl ?_
      refine AL.lit good (d := 13) (rows := [[.int .u8 (bits .or .u8 (IntKind.u8.wrap (v1_2)) 128)]]) rfl rfl rfl rfl rfl rfl rfl rfl rfl 8 rfl ?_
      obtain ⟨h4, hr⟩ := grd hr
      refine AL.aw2 good (d := 14) (rows := r_int_u8 v1_1) (news := [[.int .u8 (bits .or .u8 (IntKind.u8.wrap (v1_2)) 128)]]) (rows2 := r_int_u8 (v1_1 ++ [(bits .or .u8 (IntKind.u8.wrap (v1_2)) 128)])) rfl rfl rfl rfl rfl rfl rfl rfl rfl (by simp) rfl rfl rfl ⟨⟨Wv.refl _, trivial⟩, trivial⟩ (by simp [r_int_u8, rowF]) (by rw [r_int_u8_length, List.length_append]; exact h4) rfl ?_
      refine AL.v good (d := 0) (v := .sl (.own 7) 1 (r_int_u8 (v1_1 ++ [(bits .or .u8 (IntKind.u8.wrap (v1_2)) 128)]))) rfl rfl rfl rfl ?_
      refine AW.region (M := fun _ => true) ?_
      refine AL.v good (d := 7) (v := .int .u64 v1_2) rfl rfl rfl rfl ?_
      refine AL.v good (d := 8) (v := .int .u64 (v1_2.fdiv (2 ^ 7))) rfl rfl rfl rfl ?_
      refine AL.v good (d := 1) (v := .int .u64 (v1_2.fdiv (2 ^ 7))) rfl rfl rfl rfl ?_
      exact ⟨(m, (v1_1 ++ [(bits .or .u8 (IntKind.u8.wrap (v1_2)) 128)]), (v1_2.fdiv (2 ^ 7))), _, _, rfl, ⟨(idsIn_sub rfl), List.forall_mem_cons.2 ⟨⟨⟨_, rfl, Wv.refl _⟩, (by simp [pureA, pureL, pureR, inA, inL, inR, inO, idsIn, encs_pure, enxs_pure, enys_pure, valC_pure, exC_pure, tyC_pure, r_int_u8_pure])⟩, List.forall_mem_cons.2 ⟨⟨⟨_, rfl, Wv.refl _⟩, (by simp [pureA, pureL, pureR, inA, inL, inR, inO, idsIn, encs_pure, enxs_pure, enys_pure, valC_pure, exC_pure, tyC_pure, r_int_u8_pure])⟩, (fun _ h => by cases h)⟩⟩, List.forall_mem_cons.2 ⟨⟨⟨_, rfl, ⟨rfl, rfl, rfl⟩⟩, (by simp [pureA, pureL, pureR, inA, inL, inR, inO, idsIn, encs_pure, enxs_pure, enys_pure, valC_pure, exC_pure, tyC_pure, r_int_u8_pure])⟩, (fun _ h => by cases h)⟩⟩, ⟨hr, Nat.le_of_succ_le hm⟩, Nat.lt_succ_self _⟩
    · replace hr := cnd_f h3 hr
      refine AW.exit ?_
      refine AW.seq ?_
      refine AW.region (M := fun _ => true) ?_
      refine AL.v good (d := 15) (v := .sl (.own 7) 1 (r_int_u8 v1_1)) rfl rfl rfl rfl ?_
      refine AL.v good (d := 16) (v := .int .u64 v1_2) rfl rfl rfl rfl ?_
      refine AL.v good (d := 17) (v := .int .u8 (IntKind.u8.wrap (v1_2))) rfl rfl rfl rfl ?_
      refine AL.lit good (d := 18) (rows := [[.int .u8 (IntKind.u8.wrap (v1_2))]]) rfl rfl rfl rfl rfl rfl rfl rfl rfl 8 rfl ?_
      obtain ⟨h5, hr⟩ := grd hr
      refine AL.aw2 good (d := 19) (rows := r_int_u8 v1_1) (news := [[.int .u8 (IntKind.u8.wrap (v1_2))]]) (rows2 := r_int_u8 (v1_1 ++ [(IntKind.u8.wrap (v1_2))])) rfl rfl rfl rfl rfl rfl rfl rfl rfl (by simp) rfl rfl rfl ⟨⟨Wv.refl _, trivial⟩, trivial⟩ (by simp [r_int_u8, rowF]) (by rw [r_int_u8_length, List.length_append]; exact h5) rfl ?_
      refine AL.v good (d := 4) (v := .sl (.own 7) 1 (r_int_u8 (v1_1 ++ [(IntKind.u8.wrap (v1_2))]))) rfl rfl rfl rfl ?_
      refine AW.ret ?_
      obtain rfl := Option.some.inj hr
      exact RetH.w good (.inr rfl) rfl rfl (Wv.refl _) (List.forall_mem_cons.2 ⟨rfl, (fun _ h => by cases h)⟩)


theorem w_f80_7 (n : Nat) (a0 : List Int) (a1 : ByteArray) (r : List Int) (hr : s_f80 n a0 a1 = some r) : ACallH Try.prog 80 [.sl (.own 7) 1 (r_int_u8 a0), .str a1] [(7, .row 5 1 (r_int_u8 a0).length)] [(7, .row 5 1 (r_int_u8 r).length)] (.sl (.own 7) 1 (r_int_u8 r)) := by
  refine ACallH.go [(0, .sl (.own 7) 1 (r_int_u8 a0)), (1, .str a1)] [(7, .row 5 1 (r_int_u8 a0).length)] Try.func80 rfl Try.ntmps80 rfl rfl rfl (by simp [pureA, pureL, pureR, inA, inL, inR, inO, idsIn, encs_pure, enxs_pure, enys_pure, valC_pure, exC_pure, tyC_pure, r_int_u8_pure]) (List.forall_mem_cons.2 ⟨(by simp [pureA, pureL, pureR, inA, inL, inR, inO, idsIn, encs_pure, enxs_pure, enys_pure, valC_pure, exC_pure, tyC_pure, r_int_u8_pure]), (fun _ h => by cases h)⟩) (List.forall_mem_cons.2 ⟨⟨rfl, (by simp [pureA, pureL, pureR, inA, inL, inR, inO, idsIn, encs_pure, enxs_pure, enys_pure, valC_pure, exC_pure, tyC_pure, r_int_u8_pure])⟩, (fun _ h => by cases h)⟩) (by simp [pureA, pureL, pureR, inA, inL, inR, inO, idsIn, encs_pure, enxs_pure, enys_pure, valC_pure, exC_pure, tyC_pure, r_int_u8_pure]) ?_
  rw [s_f80] at hr
  refine AW.seq ?_
  refine AW.region (M := fun _ => true) ?_
  refine AL.v good (d := 4) (v := .sl .nil 0 []) rfl rfl rfl rfl ?_
  refine AW.seq ?_
  refine AW.region (M := fun _ => true) ?_
  refine AL.v good (d := 5) (v := .sl (.own 7) 1 (r_int_u8 a0)) rfl rfl rfl rfl ?_
  refine AL.v good (d := 6) (v := .str a1) rfl rfl rfl rfl ?_
  refine AL.v good (d := 7) (v := .int .i64 (a1.size : Int)) rfl rfl rfl rfl ?_
  refine AL.v good (d := 8) (v := .int .u64 (IntKind.u64.wrap ((a1.size : Int)))) rfl rfl rfl rfl ?_
  obtain ⟨q1, h2, hr⟩ := bnd1 hr
  refine AL.clW good (d := 9) (xs := [.sl (.own 7) 1 (r_int_u8 a0), .int .u64 (IntKind.u64.wrap ((a1.size : Int)))]) (rd := [(7, .row 5 1 (r_int_u8 a0).length)]) (up := [(7, .row 5 1 (r_int_u8 q1).length)]) (res := .sl (.own 7) 1 (r_int_u8 q1)) rfl rfl rfl rfl rfl rfl rfl (w_f49_7 _ _ _ _ h2) ⟨(Wv.refl _), (Wv.refl _), trivial⟩ (List.forall_mem_cons.2 ⟨rfl, (fun _ h => by cases h)⟩) (List.forall_mem_cons.2 ⟨⟨_, .head _⟩, (fun _ h => by cases h)⟩) rfl rfl ?_
  refine AL.v good (d := 10) (v := .str a1) rfl rfl rfl rfl ?_
  obtain ⟨h3, hr⟩ := grd hr
  refine AL.apS good (d := 11) (rows := r_int_u8 q1) (rows2 := r_int_u8 (q1 ++ (bI8 a1))) rfl rfl rfl rfl rfl (by kernel_rfl) rfl rfl rfl rfl rfl (bR8_eq _ _) (by rw [r_int_u8_length, List.length_append, bI8_length]; exact h3) ?_
  refine AL.v good (d := 4) (v := .sl (.own 7) 1 (r_int_u8 (q1 ++ (bI8 a1)))) rfl rfl rfl rfl ?_
  refine AW.ret ?_
  obtain rfl := Option.some.inj hr
  exact RetH.w good (.inr rfl) rfl rfl (Wv.refl _) (List.forall_mem_cons.2 ⟨rfl, (fun _ h => by cases h)⟩)

def s_f45 (n : Nat)  : Option Bool :=
  ((s_f49 n [] 300).bind fun q1 => ((s_f78 n q1).bind fun q3 => ((tupS [(Val.mk 1 (-3) false ⟨#[]⟩ []), (Val.mk 3 0 false ⟨#[97, 98]⟩ [])]).bind fun q5 => ((s_f46 n [] q5).bind fun q7 => ((s_f48 n q7).bind fun q9 => ((s_f48 n []).bind fun q11 => ((s_f78 n [128, 0]).bind fun q13 => ((s_f80 n [] ⟨#[120, 121]⟩).bind fun q15 => ((s_f79 n q15).bind fun q17 => some (((((((((((IntKind.i64.wrap ((IntKind.i64.wrap (q3.2.2 + q9.2.2)) + q17.2.2)) == 0) && (q3.1 == 300)) && (q3.2.1 == 2)) && (cmpV q5 q9.1 == 0)) && (q9.2.1 == (q7.length : Int))) && (q9.2.1 == 8)) && (q11.2.2 == 3)) && (q13.2.2 == 2)) && (q17.1.data.toList == [120, 121])) && (q17.2.1 == 3)))))))))))

theorem w_f45 (n : Nat)  (r : Bool) (hr : s_f45 n  = some r) : ACall Try.prog 45 [] (.bool r) := by
  refine ACall.go [] Try.func45 rfl Try.ntmps45 rfl rfl (by simp [pureA, pureL, pureR, inA, inL, inR, inO, idsIn, encs_pure, enxs_pure, enys_pure, valC_pure, exC_pure, tyC_pure, r_int_u8_pure]) ?_
  rw [s_f45] at hr
  refine AW.seq ?_
  refine AW.region (M := fun _ => true) ?_
  refine AL.v good (d := 0) (v := .bool false) rfl rfl rfl rfl ?_
  refine AW.seq ?_
  refine AW.region (M := fun _ => true) ?_
  obtain ⟨q1, h2, hr⟩ := bnd1 hr
  refine AL.clN good (d := 19) (xs := [.sl (.own 0) 1 (r_int_u8 []), .int .u64 300]) (res := .sl (.own 0) 1 (r_int_u8 q1)) rfl rfl rfl rfl rfl rfl rfl 0 1 5 rfl rfl (w_f49_0 _ _ _ _ h2) ⟨.inr ⟨⟨_, rfl⟩, rfl⟩, .inl (Wv.refl _), trivial⟩ rfl ?_
  refine AL.v good (d := 1) (v := .sl (.own 0) 1 (r_int_u8 q1)) rfl rfl rfl rfl ?_
  refine AW.seq ?_
  refine AW.region (M := fun _ => true) ?_
  refine AL.v good (d := 21) (v := .sl (.own 0) 1 (r_int_u8 q1)) rfl rfl rfl rfl ?_
  obtain ⟨q3, h4, hr⟩ := bnd1 hr
  refine AL.cw good (d := 22) (xs := [.sl .ro 1 (r_int_u8 q1)]) (res := .tup [.int .u64 q3.1, .int .i64 q3.2.1, .int .i64 q3.2.2]) rfl rfl rfl rfl rfl rfl rfl (w_f78 _ _ _ h4) ⟨⟨.inr rfl, WvR.refl _, .inl rfl⟩, trivial⟩ (by simp [pureA, pureL, pureR, inA, inL, inR, inO, idsIn, encs_pure, enxs_pure, enys_pure, valC_pure, exC_pure, tyC_pure, r_int_u8_pure]) ?_
  refine AL.v good (d := 20) (v := .tup [.int .u64 q3.1, .int .i64 q3.2.1, .int .i64 q3.2.2]) rfl rfl rfl rfl ?_
  refine AL.v good (d := 23) (v := .int .u64 q3.1) rfl rfl rfl rfl ?_
  refine AL.v good (d := 24) (v := .int .i64 q3.2.1) rfl rfl rfl rfl ?_
  refine AL.v good (d := 25) (v := .int .i64 q3.2.2) rfl rfl rfl rfl ?_
  refine AL.v good (d := 2) (v := .int .u64 q3.1) rfl rfl rfl rfl ?_
  refine AL.v good (d := 3) (v := .int .i64 q3.2.1) rfl rfl rfl rfl ?_
  refine AL.v good (d := 4) (v := .int .i64 q3.2.2) rfl rfl rfl rfl ?_
  refine AW.seq ?_
  refine AW.region (M := fun _ => true) ?_
  refine AL.cw good (d := 26) (xs := [.int .i64 (-3)]) (res := .agg [.int .i64 1, .int .i64 (-3), .bool false, .str ⟨#[]⟩, .sl .ro 5 (encs [])]) rfl rfl rfl rfl rfl rfl rfl (w_f28 (-3)) ⟨(Wv.refl _), trivial⟩ (by simp [pureA, pureL, pureR, inA, inL, inR, inO, idsIn, encs_pure, enxs_pure, enys_pure, valC_pure, exC_pure, tyC_pure, r_int_u8_pure]) ?_
  refine AL.cw good (d := 27) (xs := [.str ⟨#[97, 98]⟩]) (res := .agg [.int .i64 3, .int .i64 0, .bool false, .str ⟨#[97, 98]⟩, .sl .ro 5 (encs [])]) rfl rfl rfl rfl rfl rfl rfl (w_f33 ⟨#[97, 98]⟩) ⟨(Wv.refl _), trivial⟩ (by simp [pureA, pureL, pureR, inA, inL, inR, inO, idsIn, encs_pure, enxs_pure, enys_pure, valC_pure, exC_pure, tyC_pure, r_int_u8_pure]) ?_
  refine AL.lit good (d := 28) (rows := [[.int .i64 1, .int .i64 (-3), .bool false, .str ⟨#[]⟩, .sl .ro 5 (encs [])], [.int .i64 3, .int .i64 0, .bool false, .str ⟨#[97, 98]⟩, .sl .ro 5 (encs [])]]) rfl rfl rfl rfl rfl rfl rfl rfl rfl 1 rfl ?_
  obtain ⟨q5, h6, hr⟩ := bnd1 hr
  refine AL.cw good (d := 29) (xs := [.sl .ro 5 (encs [(Val.mk 1 (-3) false ⟨#[]⟩ []), (Val.mk 3 0 false ⟨#[97, 98]⟩ [])])]) (res := .agg [.int .i64 q5.kind, .int .i64 q5.i, .bool q5.b, .str q5.s, .sl .ro 5 (encs q5.t)]) rfl rfl rfl rfl rfl rfl rfl (w_tup h6) ⟨⟨.inr rfl, (WvR_encs ⟨⟨Wv.refl _, Wv.refl _, Wv.refl _, Wv.refl _, Wv.refl _, trivial⟩, ⟨Wv.refl _, Wv.refl _, Wv.refl _, Wv.refl _, Wv.refl _, trivial⟩, trivial⟩), .inl rfl⟩, trivial⟩ (by simp [pureA, pureL, pureR, inA, inL, inR, inO, idsIn, encs_pure, enxs_pure, enys_pure, valC_pure, exC_pure, tyC_pure, r_int_u8_pure]) ?_
  refine AL.alc good (d := 5) rfl rfl rfl rfl rfl 2 rfl ?_
  refine AL.st2 good (c2 := [.int .i64 q5.kind, .int .i64 q5.i, .bool q5.b, .str q5.s, .sl .ro 5 (encs q5.t)]) rfl rfl rfl rfl rfl rfl rfl rfl rfl rfl rfl rfl ?_
  refine AW.seq ?_
  refine AW.region (M := fun _ => true) ?_
  refine AL.v good (d := 30) (v := .agg [.int .i64 q5.kind, .int .i64 q5.i, .bool q5.b, .str q5.s, .sl .ro 5 (encs q5.t)]) rfl rfl rfl rfl ?_
  obtain ⟨q7, h8, hr⟩ := bnd1 hr
  refine AL.clN good (d := 31) (xs := [.sl (.own 3) 1 (r_int_u8 []), .agg (valC q5)]) (res := .sl (.own 3) 1 (r_int_u8 q7)) rfl rfl rfl rfl rfl rfl rfl 3 1 5 rfl rfl (w_f46_3 _ _ _ _ h8) ⟨.inr ⟨⟨_, rfl⟩, rfl⟩, .inl (Wv.refl _), trivial⟩ rfl ?_
  refine AL.v good (d := 6) (v := .sl (.own 3) 1 (r_int_u8 q7)) rfl rfl rfl rfl ?_
  refine AW.seq ?_
  refine AW.region (M := fun _ => true) ?_
  refine AL.v good (d := 33) (v := .sl (.own 3) 1 (r_int_u8 q7)) rfl rfl rfl rfl ?_
  obtain ⟨q9, h10, hr⟩ := bnd1 hr
  refine AL.cw good (d := 34) (xs := [.sl .ro 1 (r_int_u8 q7)]) (res := .tup [.agg [.int .i64 q9.1.kind, .int .i64 q9.1.i, .bool q9.1.b, .str q9.1.s, .sl .ro 5 (encs q9.1.t)], .int .i64 q9.2.1, .int .i64 q9.2.2]) rfl rfl rfl rfl rfl rfl rfl (w_f48 _ _ _ h10) ⟨⟨.inr rfl, WvR.refl _, .inl rfl⟩, trivial⟩ (by simp [pureA, pureL, pureR, inA, inL, inR, inO, idsIn, encs_pure, enxs_pure, enys_pure, valC_pure, exC_pure, tyC_pure, r_int_u8_pure]) ?_
  refine AL.v good (d := 32) (v := .tup [.agg [.int .i64 q9.1.kind, .int .i64 q9.1.i, .bool q9.1.b, .str q9.1.s, .sl .ro 5 (encs q9.1.t)], .int .i64 q9.2.1, .int .i64 q9.2.2]) rfl rfl rfl rfl ?_
  refine AL.v good (d := 35) (v := .agg [.int .i64 q9.1.kind, .int .i64 q9.1.i, .bool q9.1.b, .str q9.1.s, .sl .ro 5 (encs q9.1.t)]) rfl rfl rfl rfl ?_
  refine AL.v good (d := 36) (v := .int .i64 q9.2.1) rfl rfl rfl rfl ?_
  refine AL.v good (d := 37) (v := .int .i64 q9.2.2) rfl rfl rfl rfl ?_
  refine AL.alc good (d := 7) rfl rfl rfl rfl rfl 4 rfl ?_
  refine AL.st2 good (c2 := [.int .i64 q9.1.kind, .int .i64 q9.1.i, .bool q9.1.b, .str q9.1.s, .sl .ro 5 (encs q9.1.t)]) rfl rfl rfl rfl rfl rfl rfl rfl rfl rfl rfl rfl ?_
  refine AL.v good (d := 8) (v := .int .i64 q9.2.1) rfl rfl rfl rfl ?_
  refine AL.v good (d := 9) (v := .int .i64 q9.2.2) rfl rfl rfl rfl ?_
  refine AW.seq ?_
  refine AW.region (M := fun _ => true) ?_
  obtain ⟨q11, h12, hr⟩ := bnd1 hr
  refine AL.cw good (d := 39) (xs := [.sl .ro 1 (r_int_u8 [])]) (res := .tup [.agg [.int .i64 q11.1.kind, .int .i64 q11.1.i, .bool q11.1.b, .str q11.1.s, .sl .ro 5 (encs q11.1.t)], .int .i64 q11.2.1, .int .i64 q11.2.2]) rfl rfl rfl rfl rfl rfl rfl (w_f48 _ _ _ h12) ⟨⟨.inr rfl, trivial, .inr rfl⟩, trivial⟩ (by simp [pureA, pureL, pureR, inA, inL, inR, inO, idsIn, encs_pure, enxs_pure, enys_pure, valC_pure, exC_pure, tyC_pure, r_int_u8_pure]) ?_
  refine AL.v good (d := 38) (v := .tup [.agg [.int .i64 q11.1.kind, .int .i64 q11.1.i, .bool q11.1.b, .str q11.1.s, .sl .ro 5 (encs q11.1.t)], .int .i64 q11.2.1, .int .i64 q11.2.2]) rfl rfl rfl rfl ?_
  refine AL.v good (d := 40) (v := .agg [.int .i64 q11.1.kind, .int .i64 q11.1.i, .bool q11.1.b, .str q11.1.s, .sl .ro 5 (encs q11.1.t)]) rfl rfl rfl rfl ?_
  refine AL.v good (d := 41) (v := .int .i64 q11.2.1) rfl rfl rfl rfl ?_
  refine AL.v good (d := 42) (v := .int .i64 q11.2.2) rfl rfl rfl rfl ?_
  refine AL.alc good (d := 10) rfl rfl rfl rfl rfl 5 rfl ?_
  refine AL.st2 good (c2 := [.int .i64 q11.1.kind, .int .i64 q11.1.i, .bool q11.1.b, .str q11.1.s, .sl .ro 5 (encs q11.1.t)]) rfl rfl rfl rfl rfl rfl rfl rfl rfl rfl rfl rfl ?_
  refine AL.v good (d := 11) (v := .int .i64 q11.2.1) rfl rfl rfl rfl ?_
  refine AL.v good (d := 12) (v := .int .i64 q11.2.2) rfl rfl rfl rfl ?_
  refine AW.seq ?_
  refine AW.region (M := fun _ => true) ?_
  refine AL.lit good (d := 44) (rows := [[.int .u8 128], [.int .u8 0]]) rfl rfl rfl rfl rfl rfl rfl rfl rfl 6 rfl ?_
  obtain ⟨q13, h14, hr⟩ := bnd1 hr
  refine AL.cw good (d := 45) (xs := [.sl .ro 1 (r_int_u8 [128, 0])]) (res := .tup [.int .u64 q13.1, .int .i64 q13.2.1, .int .i64 q13.2.2]) rfl rfl rfl rfl rfl rfl rfl (w_f78 _ _ _ h14) ⟨⟨.inr rfl, ⟨⟨Wv.refl _, trivial⟩, ⟨Wv.refl _, trivial⟩, trivial⟩, .inl rfl⟩, trivial⟩ (by simp [pureA, pureL, pureR, inA, inL, inR, inO, idsIn, encs_pure, enxs_pure, enys_pure, valC_pure, exC_pure, tyC_pure, r_int_u8_pure]) ?_
  refine AL.v good (d := 43) (v := .tup [.int .u64 q13.1, .int .i64 q13.2.1, .int .i64 q13.2.2]) rfl rfl rfl rfl ?_
  refine AL.v good (d := 46) (v := .int .u64 q13.1) rfl rfl rfl rfl ?_
  refine AL.v good (d := 47) (v := .int .i64 q13.2.1) rfl rfl rfl rfl ?_
  refine AL.v good (d := 48) (v := .int .i64 q13.2.2) rfl rfl rfl rfl ?_
  refine AL.v good (d := 13) (v := .int .u64 q13.1) rfl rfl rfl rfl ?_
  refine AL.v good (d := 14) (v := .int .i64 q13.2.1) rfl rfl rfl rfl ?_
  refine AL.v good (d := 15) (v := .int .i64 q13.2.2) rfl rfl rfl rfl ?_
  refine AW.seq ?_
  refine AW.region (M := fun _ => true) ?_
  obtain ⟨q15, h16, hr⟩ := bnd1 hr
  refine AL.clN good (d := 50) (xs := [.sl (.own 7) 1 (r_int_u8 []), .str ⟨#[120, 121]⟩]) (res := .sl (.own 7) 1 (r_int_u8 q15)) rfl rfl rfl rfl rfl rfl rfl 7 1 5 rfl rfl (w_f80_7 _ _ _ _ h16) ⟨.inr ⟨⟨_, rfl⟩, rfl⟩, .inl (Wv.refl _), trivial⟩ rfl ?_
  obtain ⟨q17, h18, hr⟩ := bnd1 hr
  refine AL.cw good (d := 51) (xs := [.sl .ro 1 (r_int_u8 q15)]) (res := .tup [.str q17.1, .int .i64 q17.2.1, .int .i64 q17.2.2]) rfl rfl rfl rfl rfl rfl rfl (w_f79 _ _ _ h18) ⟨⟨.inr rfl, WvR.refl _, .inl rfl⟩, trivial⟩ (by simp [pureA, pureL, pureR, inA, inL, inR, inO, idsIn, encs_pure, enxs_pure, enys_pure, valC_pure, exC_pure, tyC_pure, r_int_u8_pure]) ?_
  refine AL.v good (d := 49) (v := .tup [.str q17.1, .int .i64 q17.2.1, .int .i64 q17.2.2]) rfl rfl rfl rfl ?_
  refine AL.v good (d := 52) (v := .str q17.1) rfl rfl rfl rfl ?_
  refine AL.v good (d := 53) (v := .int .i64 q17.2.1) rfl rfl rfl rfl ?_
  refine AL.v good (d := 54) (v := .int .i64 q17.2.2) rfl rfl rfl rfl ?_
  refine AL.v good (d := 16) (v := .str q17.1) rfl rfl rfl rfl ?_
  refine AL.v good (d := 17) (v := .int .i64 q17.2.1) rfl rfl rfl rfl ?_
  refine AL.v good (d := 18) (v := .int .i64 q17.2.2) rfl rfl rfl rfl ?_
  refine AW.seq ?_
  refine AW.region (M := fun _ => true) ?_
  refine AL.v good (d := 55) (v := .int .i64 q3.2.2) rfl rfl rfl rfl ?_
  refine AL.v good (d := 56) (v := .int .i64 q9.2.2) rfl rfl rfl rfl ?_
  refine AL.v good (d := 57) (v := .int .i64 (IntKind.i64.wrap (q3.2.2 + q9.2.2))) rfl rfl rfl rfl ?_
  refine AL.v good (d := 58) (v := .int .i64 q17.2.2) rfl rfl rfl rfl ?_
  refine AL.v good (d := 59) (v := .int .i64 (IntKind.i64.wrap ((IntKind.i64.wrap (q3.2.2 + q9.2.2)) + q17.2.2))) rfl rfl rfl rfl ?_
  refine AL.v good (d := 60) (v := .bool ((IntKind.i64.wrap ((IntKind.i64.wrap (q3.2.2 + q9.2.2)) + q17.2.2)) == 0)) rfl rfl rfl rfl ?_
  refine AL.vb good (d := 61) (b := ((IntKind.i64.wrap ((IntKind.i64.wrap (q3.2.2 + q9.2.2)) + q17.2.2)) == 0)) rfl rfl rfl rfl (fun g19 h20 => ?_)
  refine AL.gv good (d := 62) (c := g19) (v := .int .u64 q3.1) (rd := []) rfl rfl (by cases g19 <;> rfl) (fun h => by cases g19 <;> first | rfl | exact absurd h (by decide)) ?_
  refine AL.gv good (d := 63) (c := g19) (v := .bool (q3.1 == 300)) (rd := []) rfl rfl (by cases g19 <;> rfl) (fun h => by cases g19 <;> first | rfl | exact absurd h (by decide)) ?_
  refine AL.v good (d := 64) (v := .bool (g19 && (q3.1 == 300))) (rd := []) rfl rfl rfl (by cases g19 <;> rfl) ?_
  refine AL.vb good (d := 65) (b := (g19 && (q3.1 == 300))) rfl rfl rfl rfl (fun g21 h22 => ?_)
  refine AL.gv good (d := 66) (c := g21) (v := .int .i64 q3.2.1) (rd := []) rfl rfl (by cases g21 <;> rfl) (fun h => by cases g21 <;> first | rfl | exact absurd h (by decide)) ?_
  refine AL.gv good (d := 67) (c := g21) (v := .bool (q3.2.1 == 2)) (rd := []) rfl rfl (by cases g21 <;> rfl) (fun h => by cases g21 <;> first | rfl | exact absurd h (by decide)) ?_
  refine AL.v good (d := 68) (v := .bool (g21 && (q3.2.1 == 2))) (rd := []) rfl rfl rfl (by cases g21 <;> rfl) ?_
  refine AL.vb good (d := 69) (b := (g21 && (q3.2.1 == 2))) rfl rfl rfl rfl (fun g23 h24 => ?_)
  refine AL.gv good (d := 70) (c := g23) (v := .agg [.int .i64 q5.kind, .int .i64 q5.i, .bool q5.b, .str q5.s, .sl .ro 5 (encs q5.t)]) (rd := [(2, .box 24 [.int .i64 q5.kind, .int .i64 q5.i, .bool q5.b, .str q5.s, .sl .ro 5 (encs q5.t)])]) rfl rfl (by cases g23 <;> rfl) (fun h => by cases g23 <;> first | rfl | exact absurd h (by decide)) ?_
  refine AL.gv good (d := 71) (c := g23) (v := .agg [.int .i64 q9.1.kind, .int .i64 q9.1.i, .bool q9.1.b, .str q9.1.s, .sl .ro 5 (encs q9.1.t)]) (rd := [(4, .box 24 [.int .i64 q9.1.kind, .int .i64 q9.1.i, .bool q9.1.b, .str q9.1.s, .sl .ro 5 (encs q9.1.t)])]) rfl rfl (by cases g23 <;> rfl) (fun h => by cases g23 <;> first | rfl | exact absurd h (by decide)) ?_
  refine AL.gcw good (d := 72) (c := g23) (aw := [.agg [.int .i64 q5.kind, .int .i64 q5.i, .bool q5.b, .str q5.s, .sl .ro 5 (encs q5.t)], .agg [.int .i64 q9.1.kind, .int .i64 q9.1.i, .bool q9.1.b, .str q9.1.s, .sl .ro 5 (encs q9.1.t)]]) (xs := [.agg (valC q5), .agg (valC q9.1)]) (res := .bool (cmpV q5 q9.1 == 0)) rfl rfl (by cases g23 <;> rfl) rfl rfl rfl (fun h => by cases g23 <;> first | rfl | exact absurd h (by decide)) (w35 q5 q9.1) ⟨(Wv.refl _), (Wv.refl _), trivial⟩ (by simp [pureA, pureL, pureR, inA, inL, inR, inO, idsIn, encs_pure, enxs_pure, enys_pure, valC_pure, exC_pure, tyC_pure, r_int_u8_pure]) ?_
  refine AL.v good (d := 73) (v := .bool (g23 && (cmpV q5 q9.1 == 0))) (rd := []) rfl rfl rfl (by cases g23 <;> rfl) ?_
  refine AL.vb good (d := 74) (b := (g23 && (cmpV q5 q9.1 == 0))) rfl rfl rfl rfl (fun g25 h26 => ?_)
  refine AL.gv good (d := 75) (c := g25) (v := .int .i64 q9.2.1) (rd := []) rfl rfl (by cases g25 <;> rfl) (fun h => by cases g25 <;> first | rfl | exact absurd h (by decide)) ?_
  refine AL.gv good (d := 76) (c := g25) (v := .sl (.own 3) 1 (r_int_u8 q7)) (rd := []) rfl rfl (by cases g25 <;> rfl) (fun h => by cases g25 <;> first | rfl | exact absurd h (by decide)) ?_
  refine AL.gln good (d := 77) (c := g25) (m := q7.length) rfl rfl (by cases g25 <;> rfl) rfl rfl (fun h => by cases g25 <;> first | rfl | exact absurd h (by decide)) (r_int_u8_length _) ?_
  refine AL.gv good (d := 78) (c := g25) (v := .bool (q9.2.1 == (q7.length : Int))) (rd := []) rfl rfl (by cases g25 <;> rfl) (fun h => by cases g25 <;> first | rfl | exact absurd h (by decide)) ?_
  refine AL.v good (d := 79) (v := .bool (g25 && (q9.2.1 == (q7.length : Int)))) (rd := []) rfl rfl rfl (by cases g25 <;> rfl) ?_
  refine AL.vb good (d := 80) (b := (g25 && (q9.2.1 == (q7.length : Int)))) rfl rfl rfl rfl (fun g27 h28 => ?_)
  refine AL.gv good (d := 81) (c := g27) (v := .int .i64 q9.2.1) (rd := []) rfl rfl (by cases g27 <;> rfl) (fun h => by cases g27 <;> first | rfl | exact absurd h (by decide)) ?_
  refine AL.gv good (d := 82) (c := g27) (v := .bool (q9.2.1 == 8)) (rd := []) rfl rfl (by cases g27 <;> rfl) (fun h => by cases g27 <;> first | rfl | exact absurd h (by decide)) ?_
  refine AL.v good (d := 83) (v := .bool (g27 && (q9.2.1 == 8))) (rd := []) rfl rfl rfl (by cases g27 <;> rfl) ?_
  refine AL.vb good (d := 84) (b := (g27 && (q9.2.1 == 8))) rfl rfl rfl rfl (fun g29 h30 => ?_)
  refine AL.gv good (d := 85) (c := g29) (v := .int .i64 q11.2.2) (rd := []) rfl rfl (by cases g29 <;> rfl) (fun h => by cases g29 <;> first | rfl | exact absurd h (by decide)) ?_
  refine AL.gv good (d := 86) (c := g29) (v := .bool (q11.2.2 == 3)) (rd := []) rfl rfl (by cases g29 <;> rfl) (fun h => by cases g29 <;> first | rfl | exact absurd h (by decide)) ?_
  refine AL.v good (d := 87) (v := .bool (g29 && (q11.2.2 == 3))) (rd := []) rfl rfl rfl (by cases g29 <;> rfl) ?_
  refine AL.vb good (d := 88) (b := (g29 && (q11.2.2 == 3))) rfl rfl rfl rfl (fun g31 h32 => ?_)
  refine AL.gv good (d := 89) (c := g31) (v := .int .i64 q13.2.2) (rd := []) rfl rfl (by cases g31 <;> rfl) (fun h => by cases g31 <;> first | rfl | exact absurd h (by decide)) ?_
  refine AL.gv good (d := 90) (c := g31) (v := .bool (q13.2.2 == 2)) (rd := []) rfl rfl (by cases g31 <;> rfl) (fun h => by cases g31 <;> first | rfl | exact absurd h (by decide)) ?_
  refine AL.v good (d := 91) (v := .bool (g31 && (q13.2.2 == 2))) (rd := []) rfl rfl rfl (by cases g31 <;> rfl) ?_
  refine AL.vb good (d := 92) (b := (g31 && (q13.2.2 == 2))) rfl rfl rfl rfl (fun g33 h34 => ?_)
  refine AL.gv good (d := 93) (c := g33) (v := .str q17.1) (rd := []) rfl rfl (by cases g33 <;> rfl) (fun h => by cases g33 <;> first | rfl | exact absurd h (by decide)) ?_
  refine AL.gsb good (d := 94) (c := g33) (b := (q17.1.data.toList == [120, 121])) rfl rfl (by cases g33 <;> rfl) rfl (fun h => by cases g33 <;> first | rfl | exact absurd h (by decide)) (fun h => by cases g33 <;> first | rfl | exact absurd h (by decide)) rfl ?_
  refine AL.v good (d := 95) (v := .bool (g33 && (q17.1.data.toList == [120, 121]))) (rd := []) rfl rfl rfl (by cases g33 <;> rfl) ?_
  refine AL.vb good (d := 96) (b := (g33 && (q17.1.data.toList == [120, 121]))) rfl rfl rfl rfl (fun g35 h36 => ?_)
  refine AL.gv good (d := 97) (c := g35) (v := .int .i64 q17.2.1) (rd := []) rfl rfl (by cases g35 <;> rfl) (fun h => by cases g35 <;> first | rfl | exact absurd h (by decide)) ?_
  refine AL.gv good (d := 98) (c := g35) (v := .bool (q17.2.1 == 3)) (rd := []) rfl rfl (by cases g35 <;> rfl) (fun h => by cases g35 <;> first | rfl | exact absurd h (by decide)) ?_
  refine AL.v good (d := 99) (v := .bool (g35 && (q17.2.1 == 3))) (rd := []) rfl rfl rfl (by cases g35 <;> rfl) ?_
  refine AL.v good (d := 0) (v := .bool (g35 && (q17.2.1 == 3))) rfl rfl rfl rfl ?_
  subst h20 h22 h24 h26 h28 h30 h32 h34 h36
  refine AW.ret ?_
  obtain rfl := Option.some.inj hr
  exact RetQ.w good (.inr rfl) rfl rfl (Wv.refl _) (by simp [pureA, pureL, pureR, inA, inL, inR, inO, idsIn, encs_pure, enxs_pure, enys_pure, valC_pure, exC_pure, tyC_pure, r_int_u8_pure])

end Go.Proofs.Ytbcjcekoonebiaa.Tl
