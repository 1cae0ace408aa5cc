/- Definitions and walks: laws of bytes. Conditions: none. -/
import Derived.Test.YtbcjcekoonebiaaTlYf
set_option linter.unusedVariables false
set_option linter.unusedSimpArgs false
namespace Go.Proofs.Ytbcjcekoonebiaa.Tl
open Go Go.RowKit




theorem w_f49_2 (n : Nat) (a0 : List Int) (a1 : Int) (r : List Int) (hr : s_f49 n a0 a1 = some r) : ACallH Try.prog 49 [.sl (.own 2) 1 (r_int_u8 a0), .int .u64 a1] [(2, .row 5 1 (r_int_u8 a0).length)] [(2, .row 5 1 (r_int_u8 r).length)] (.sl (.own 2) 1 (r_int_u8 r)) := by
  refine ACallH.go [(0, .sl (.own 2) 1 (r_int_u8 a0)), (1, .int .u64 a1)] [(2, .row 5 1 (r_int_u8 a0).length)] Try.func49 rfl Try.ntmps49 rfl rfl rfl (by simp [pureA, pureL, pureR, inA, inL, inR, inO, idsIn, encs_pure, enxs_pure, enys_pure, valC_pure, exC_pure, tyC_pure, r_int_u8_pure]) (List.forall_mem_cons.2 ⟨(by simp [pureA, pureL, pureR, inA, inL, inR, inO, idsIn, encs_pure, enxs_pure, enys_pure, valC_pure, exC_pure, tyC_pure, r_int_u8_pure]), (fun _ h => by cases h)⟩) (List.forall_mem_cons.2 ⟨⟨rfl, (by simp [pureA, pureL, pureR, inA, inL, inR, inO, idsIn, encs_pure, enxs_pure, enys_pure, valC_pure, exC_pure, tyC_pure, r_int_u8_pure])⟩, (fun _ h => by cases h)⟩) (by simp [pureA, pureL, pureR, inA, inL, inR, inO, idsIn, encs_pure, enxs_pure, enys_pure, valC_pure, exC_pure, tyC_pure, r_int_u8_pure]) ?_
  rw [s_f49] at hr
  refine AW.seq ?_
  refine AW.region (M := fun _ => true) ?_
  refine AL.v good (d := 4) (v := .sl .nil 0 []) rfl rfl rfl rfl ?_
  refine AW.seq ?_
  refine AW.block ?_
  refine AW.lpw (fun x : Nat × (List Int) × Int => [(0, .sl (.own 2) 1 (r_int_u8 x.2.1)), (1, .int .u64 x.2.2)]) (fun x => [(2, .row 5 1 (r_int_u8 x.2.1).length)]) (fun x => s_f49_l1 x.1 x.2.1 x.2.2 = some r ∧ x.1 ≤ n) (fun x => x.1) (n, a0, a1) ⟨(idsIn_sub rfl), List.forall_mem_cons.2 ⟨⟨⟨_, rfl, Wv.refl _⟩, (by simp [pureA, pureL, pureR, inA, inL, inR, inO, idsIn, encs_pure, enxs_pure, enys_pure, valC_pure, exC_pure, tyC_pure, r_int_u8_pure])⟩, List.forall_mem_cons.2 ⟨⟨⟨_, rfl, Wv.refl _⟩, (by simp [pureA, pureL, pureR, inA, inL, inR, inO, idsIn, encs_pure, enxs_pure, enys_pure, valC_pure, exC_pure, tyC_pure, r_int_u8_pure])⟩, (fun _ h => by cases h)⟩⟩, List.forall_mem_cons.2 ⟨⟨⟨_, rfl, ⟨rfl, rfl, rfl⟩⟩, (by simp [pureA, pureL, pureR, inA, inL, inR, inO, idsIn, encs_pure, enxs_pure, enys_pure, valC_pure, exC_pure, tyC_pure, r_int_u8_pure])⟩, (fun _ h => by cases h)⟩⟩ ⟨hr, Nat.le_refl _⟩ (fun ⟨m, v1_1, v1_2⟩ hx => ?_)
  obtain ⟨hr, hm⟩ := hx
  try dsimp only at hr hm
  cases m with
  | zero => rw [s_f49_l1] at hr; cases hr
  | succ m =>
    rw [s_f49_l1] at hr
    show AW Try.prog _ _ _ (mkS 20 [(0, .sl (.own 2) 1 (r_int_u8 v1_1)), (1, .int .u64 v1_2)] [(2, .row 5 1 (r_int_u8 v1_1).length)])
    refine AW.seq ?_
    refine AW.seq ?_
    refine AW.region (M := fun _ => true) ?_
    refine AL.v good (d := 5) (v := .int .u64 v1_2) rfl rfl rfl rfl ?_
    refine AL.v good (d := 6) (v := .bool (decide (v1_2 ≥ 128))) rfl rfl rfl rfl ?_
    refine AW.if rfl (fun h3 => ?_) (fun h3 => ?_)
    · replace hr := cnd_t h3 hr
      refine AW.skip ?_
      refine AW.seq ?_
      refine AW.block ?_
      refine AW.region (M := fun _ => true) ?_
      refine AL.v good (d := 9) (v := .sl (.own 2) 1 (r_int_u8 v1_1)) rfl rfl rfl rfl ?_
      refine AL.v good (d := 10) (v := .int .u64 v1_2) rfl rfl rfl rfl ?_
      refine AL.v good (d := 11) (v := .int .u8 (IntKind.u8.wrap (v1_2))) rfl rfl rfl rfl ?_
      refine AL.v good (d := 12) (v := .int .u8 (bits .or .u8 (IntKind.u8.wrap (v1_2)) 128)) rfl rfl rfl rfl ?_
      refine AL.lit good (d := 13) (rows := [[.int .u8 (bits .or .u8 (IntKind.u8.wrap (v1_2)) 128)]]) rfl rfl rfl rfl rfl rfl rfl rfl rfl 3 rfl ?_
      obtain ⟨h4, hr⟩ := grd hr
      refine AL.aw2 good (d := 14) (rows := r_int_u8 v1_1) (news := [[.int .u8 (bits .or .u8 (IntKind.u8.wrap (v1_2)) 128)]]) (rows2 := r_int_u8 (v1_1 ++ [(bits .or .u8 (IntKind.u8.wrap (v1_2)) 128)])) rfl rfl rfl rfl rfl rfl rfl rfl rfl (by simp) rfl rfl rfl ⟨⟨Wv.refl _, trivial⟩, trivial⟩ (by simp [r_int_u8, rowF]) (by rw [r_int_u8_length, List.length_append]; exact h4) rfl ?_
      refine AL.v good (d := 0) (v := .sl (.own 2) 1 (r_int_u8 (v1_1 ++ [(bits .or .u8 (IntKind.u8.wrap (v1_2)) 128)]))) rfl rfl rfl rfl ?_
      refine AW.region (M := fun _ => true) ?_
      refine AL.v good (d := 7) (v := .int .u64 v1_2) rfl rfl rfl rfl ?_
      refine AL.v good (d := 8) (v := .int .u64 (v1_2.fdiv (2 ^ 7))) rfl rfl rfl rfl ?_
      refine AL.v good (d := 1) (v := .int .u64 (v1_2.fdiv (2 ^ 7))) rfl rfl rfl rfl ?_
      exact ⟨(m, (v1_1 ++ [(bits .or .u8 (IntKind.u8.wrap (v1_2)) 128)]), (v1_2.fdiv (2 ^ 7))), _, _, rfl, ⟨(idsIn_sub rfl), List.forall_mem_cons.2 ⟨⟨⟨_, rfl, Wv.refl _⟩, (by simp [pureA, pureL, pureR, inA, inL, inR, inO, idsIn, encs_pure, enxs_pure, enys_pure, valC_pure, exC_pure, tyC_pure, r_int_u8_pure])⟩, List.forall_mem_cons.2 ⟨⟨⟨_, rfl, Wv.refl _⟩, (by simp [pureA, pureL, pureR, inA, inL, inR, inO, idsIn, encs_pure, enxs_pure, enys_pure, valC_pure, exC_pure, tyC_pure, r_int_u8_pure])⟩, (fun _ h => by cases h)⟩⟩, List.forall_mem_cons.2 ⟨⟨⟨_, rfl, ⟨rfl, rfl, rfl⟩⟩, (by simp [pureA, pureL, pureR, inA, inL, inR, inO, idsIn, encs_pure, enxs_pure, enys_pure, valC_pure, exC_pure, tyC_pure, r_int_u8_pure])⟩, (fun _ h => by cases h)⟩⟩, ⟨hr, Nat.le_of_succ_le hm⟩, Nat.lt_succ_self _⟩
    · replace hr := cnd_f h3 hr
      refine AW.exit ?_
      refine AW.seq ?_
      refine AW.region (M := fun _ => true) ?_
      refine AL.v good (d := 15) (v := .sl (.own 2) 1 (r_int_u8 v1_1)) rfl rfl rfl rfl ?_
      refine AL.v good (d := 16) (v := .int .u64 v1_2) rfl rfl rfl rfl ?_
      refine AL.v good (d := 17) (v := .int .u8 (IntKind.u8.wrap (v1_2))) rfl rfl rfl rfl ?_
      refine AL.lit good (d := 18) (rows := [[.int .u8 (IntKind.u8.wrap (v1_2))]]) rfl rfl rfl rfl rfl rfl rfl rfl rfl 3 rfl ?_
      obtain ⟨h5, hr⟩ := grd hr
      refine AL.aw2 good (d := 19) (rows := r_int_u8 v1_1) (news := [[.int .u8 (IntKind.u8.wrap (v1_2))]]) (rows2 := r_int_u8 (v1_1 ++ [(IntKind.u8.wrap (v1_2))])) rfl rfl rfl rfl rfl rfl rfl rfl rfl (by simp) rfl rfl rfl ⟨⟨Wv.refl _, trivial⟩, trivial⟩ (by simp [r_int_u8, rowF]) (by rw [r_int_u8_length, List.length_append]; exact h5) rfl ?_
      refine AL.v good (d := 4) (v := .sl (.own 2) 1 (r_int_u8 (v1_1 ++ [(IntKind.u8.wrap (v1_2))]))) rfl rfl rfl rfl ?_
      refine AW.ret ?_
      obtain rfl := Option.some.inj hr
      exact RetH.w good (.inr rfl) rfl rfl (Wv.refl _) (List.forall_mem_cons.2 ⟨rfl, (fun _ h => by cases h)⟩)


theorem w_f80_2 (n : Nat) (a0 : List Int) (a1 : ByteArray) (r : List Int) (hr : s_f80 n a0 a1 = some r) : ACallH Try.prog 80 [.sl (.own 2) 1 (r_int_u8 a0), .str a1] [(2, .row 5 1 (r_int_u8 a0).length)] [(2, .row 5 1 (r_int_u8 r).length)] (.sl (.own 2) 1 (r_int_u8 r)) := by
  refine ACallH.go [(0, .sl (.own 2) 1 (r_int_u8 a0)), (1, .str a1)] [(2, .row 5 1 (r_int_u8 a0).length)] Try.func80 rfl Try.ntmps80 rfl rfl rfl (by simp [pureA, pureL, pureR, inA, inL, inR, inO, idsIn, encs_pure, enxs_pure, enys_pure, valC_pure, exC_pure, tyC_pure, r_int_u8_pure]) (List.forall_mem_cons.2 ⟨(by simp [pureA, pureL, pureR, inA, inL, inR, inO, idsIn, encs_pure, enxs_pure, enys_pure, valC_pure, exC_pure, tyC_pure, r_int_u8_pure]), (fun _ h => by cases h)⟩) (List.forall_mem_cons.2 ⟨⟨rfl, (by simp [pureA, pureL, pureR, inA, inL, inR, inO, idsIn, encs_pure, enxs_pure, enys_pure, valC_pure, exC_pure, tyC_pure, r_int_u8_pure])⟩, (fun _ h => by cases h)⟩) (by simp [pureA, pureL, pureR, inA, inL, inR, inO, idsIn, encs_pure, enxs_pure, enys_pure, valC_pure, exC_pure, tyC_pure, r_int_u8_pure]) ?_
  rw [s_f80] at hr
  refine AW.seq ?_
  refine AW.region (M := fun _ => true) ?_
  refine AL.v good (d := 4) (v := .sl .nil 0 []) rfl rfl rfl rfl ?_
  refine AW.seq ?_
  refine AW.region (M := fun _ => true) ?_
  refine AL.v good (d := 5) (v := .sl (.own 2) 1 (r_int_u8 a0)) rfl rfl rfl rfl ?_
  refine AL.v good (d := 6) (v := .str a1) rfl rfl rfl rfl ?_
  refine AL.v good (d := 7) (v := .int .i64 (a1.size : Int)) rfl rfl rfl rfl ?_
  refine AL.v good (d := 8) (v := .int .u64 (IntKind.u64.wrap ((a1.size : Int)))) rfl rfl rfl rfl ?_
  obtain ⟨q1, h2, hr⟩ := bnd1 hr
  refine AL.clW good (d := 9) (xs := [.sl (.own 2) 1 (r_int_u8 a0), .int .u64 (IntKind.u64.wrap ((a1.size : Int)))]) (rd := [(2, .row 5 1 (r_int_u8 a0).length)]) (up := [(2, .row 5 1 (r_int_u8 q1).length)]) (res := .sl (.own 2) 1 (r_int_u8 q1)) rfl rfl rfl rfl rfl rfl rfl (w_f49_2 _ _ _ _ h2) ⟨(Wv.refl _), (Wv.refl _), trivial⟩ (List.forall_mem_cons.2 ⟨rfl, (fun _ h => by cases h)⟩) (List.forall_mem_cons.2 ⟨⟨_, .head _⟩, (fun _ h => by cases h)⟩) rfl rfl ?_
  refine AL.v good (d := 10) (v := .str a1) rfl rfl rfl rfl ?_
  obtain ⟨h3, hr⟩ := grd hr
  refine AL.apS good (d := 11) (rows := r_int_u8 q1) (rows2 := r_int_u8 (q1 ++ (bI8 a1))) rfl rfl rfl rfl rfl (by kernel_rfl) rfl rfl rfl rfl rfl (bR8_eq _ _) (by rw [r_int_u8_length, List.length_append, bI8_length]; exact h3) ?_
  refine AL.v good (d := 4) (v := .sl (.own 2) 1 (r_int_u8 (q1 ++ (bI8 a1)))) rfl rfl rfl rfl ?_
  refine AW.ret ?_
  obtain rfl := Option.some.inj hr
  exact RetH.w good (.inr rfl) rfl rfl (Wv.refl _) (List.forall_mem_cons.2 ⟨rfl, (fun _ h => by cases h)⟩)


theorem w_f46_2_a (n : Nat) (ih : ∀ (m : Nat) (a0 : List Int) (a1 : Val) (r : List Int), s_f46 m a0 a1 = some r → m < n → ACallH Try.prog 46 [.sl (.own 2) 1 (r_int_u8 a0), .agg (valC a1)] [(2, .row 5 1 (r_int_u8 a0).length)] [(2, .row 5 1 (r_int_u8 r).length)] (.sl (.own 2) 1 (r_int_u8 r))) (a0 : List Int) (a1 : Val) (r : List Int) (hr : s_f46 n a0 a1 = some r) : ACallH Try.prog 46 [.sl (.own 2) 1 (r_int_u8 a0), .agg (valC a1)] [(2, .row 5 1 (r_int_u8 a0).length)] [(2, .row 5 1 (r_int_u8 r).length)] (.sl (.own 2) 1 (r_int_u8 r)) := by
  refine ACallH.go [(0, .sl (.own 2) 1 (r_int_u8 a0)), (1, .agg (valC a1))] [(2, .row 5 1 (r_int_u8 a0).length)] Try.func46 rfl Try.ntmps46 rfl rfl rfl (by simp [pureA, pureL, pureR, inA, inL, inR, inO, idsIn, encs_pure, enxs_pure, enys_pure, valC_pure, exC_pure, tyC_pure, r_int_u8_pure]) (List.forall_mem_cons.2 ⟨(by simp [pureA, pureL, pureR, inA, inL, inR, inO, idsIn, encs_pure, enxs_pure, enys_pure, valC_pure, exC_pure, tyC_pure, r_int_u8_pure]), (fun _ h => by cases h)⟩) (List.forall_mem_cons.2 ⟨⟨rfl, (by simp [pureA, pureL, pureR, inA, inL, inR, inO, idsIn, encs_pure, enxs_pure, enys_pure, valC_pure, exC_pure, tyC_pure, r_int_u8_pure])⟩, (fun _ h => by cases h)⟩) (by simp [pureA, pureL, pureR, inA, inL, inR, inO, idsIn, encs_pure, enxs_pure, enys_pure, valC_pure, exC_pure, tyC_pure, r_int_u8_pure]) ?_
  cases n with
  | zero => rw [s_f46] at hr; cases hr
  | succ n =>
    rw [s_f46] at hr
    refine AW.seq ?_
    refine AW.region (M := fun _ => true) ?_
    refine AL.bx good (d := 3) (l := [.int .i64 a1.kind, .int .i64 a1.i, .bool a1.b, .str a1.s, .sl .ro 5 (encs a1.t)]) rfl rfl rfl rfl rfl rfl 3 rfl ?_
    refine AL.v good (d := 4) (v := .sl .nil 0 []) rfl rfl rfl rfl ?_
    refine AW.seq ?_
    refine AW.region (M := fun _ => true) ?_
    refine AL.v good (d := 7) (v := .sl (.own 2) 1 (r_int_u8 a0)) rfl rfl rfl rfl ?_
    refine AL.v good (d := 8) (v := .ptr 3 0) rfl rfl rfl rfl ?_
    refine AL.v good (d := 9) (v := .int .i64 a1.kind) rfl rfl rfl rfl ?_
    refine AL.v good (d := 10) (v := .int .u8 (IntKind.u8.wrap (a1.kind))) rfl rfl rfl rfl ?_
    refine AL.lit good (d := 11) (rows := [[.int .u8 (IntKind.u8.wrap (a1.kind))]]) rfl rfl rfl rfl rfl rfl rfl rfl rfl 4 rfl ?_
    obtain ⟨h1, hr⟩ := grd hr
    refine AL.aw2 good (d := 12) (rows := r_int_u8 a0) (news := [[.int .u8 (IntKind.u8.wrap (a1.kind))]]) (rows2 := r_int_u8 (a0 ++ [(IntKind.u8.wrap (a1.kind))])) rfl rfl rfl rfl rfl rfl rfl rfl rfl (by simp) rfl rfl rfl ⟨⟨Wv.refl _, trivial⟩, trivial⟩ (by simp [r_int_u8, rowF]) (by rw [r_int_u8_length, List.length_append]; exact h1) rfl ?_
    refine AL.v good (d := 0) (v := .sl (.own 2) 1 (r_int_u8 (a0 ++ [(IntKind.u8.wrap (a1.kind))]))) rfl rfl rfl rfl ?_
    refine AW.seq ?_
    refine AW.seq ?_
    refine AW.region (M := fun _ => true) ?_
    refine AL.v good (d := 13) (v := .ptr 3 0) rfl rfl rfl rfl ?_
    refine AL.v good (d := 14) (v := .int .i64 a1.kind) rfl rfl rfl rfl ?_
    refine AW.block ?_
    refine AW.seq ?_
    refine AW.region (M := fun _ => true) ?_
    refine AL.v good (d := 16) (v := .bool (a1.kind == 1)) rfl rfl rfl rfl ?_
    refine AL.v good (d := 15) (v := .bool (a1.kind == 1)) rfl rfl rfl rfl ?_
    refine AW.if rfl (fun h2 => ?_) (fun h2 => ?_)
    · replace hr := cnd_t h2 hr
      refine AW.seq ?_
      refine AW.region (M := fun _ => true) ?_
      refine AL.v good (d := 17) (v := .sl (.own 2) 1 (r_int_u8 (a0 ++ [(IntKind.u8.wrap (a1.kind))]))) rfl rfl rfl rfl ?_
      refine AL.v good (d := 18) (v := .ptr 3 1) rfl rfl rfl rfl ?_
      refine AL.v good (d := 19) (v := .int .i64 a1.i) rfl rfl rfl rfl ?_
      refine AL.v good (d := 20) (v := .int .u64 (IntKind.u64.wrap (a1.i))) rfl rfl rfl rfl ?_
      refine AL.v good (d := 21) (v := .int .u64 (IntKind.u64.wrap ((IntKind.u64.wrap (a1.i)) * 2 ^ 1))) rfl rfl rfl rfl ?_
      refine AL.v good (d := 22) (v := .ptr 3 1) rfl rfl rfl rfl ?_
      refine AL.v good (d := 23) (v := .int .i64 a1.i) rfl rfl rfl rfl ?_
      refine AL.v good (d := 24) (v := .int .i64 (a1.i.fdiv (2 ^ 63))) rfl rfl rfl rfl ?_
      refine AL.v good (d := 25) (v := .int .u64 (IntKind.u64.wrap ((a1.i.fdiv (2 ^ 63))))) rfl rfl rfl rfl ?_
      refine AL.v good (d := 26) (v := .int .u64 (bits .xor .u64 (IntKind.u64.wrap ((IntKind.u64.wrap (a1.i)) * 2 ^ 1)) (IntKind.u64.wrap ((a1.i.fdiv (2 ^ 63)))))) rfl rfl rfl rfl ?_
      obtain ⟨q3, h4, hr⟩ := bnd1 hr
      refine AL.clW good (d := 27) (xs := [.sl (.own 2) 1 (r_int_u8 (a0 ++ [(IntKind.u8.wrap (a1.kind))])), .int .u64 (bits .xor .u64 (IntKind.u64.wrap ((IntKind.u64.wrap (a1.i)) * 2 ^ 1)) (IntKind.u64.wrap ((a1.i.fdiv (2 ^ 63)))))]) (rd := [(2, .row 5 1 (r_int_u8 (a0 ++ [(IntKind.u8.wrap (a1.kind))])).length)]) (up := [(2, .row 5 1 (r_int_u8 q3).length)]) (res := .sl (.own 2) 1 (r_int_u8 q3)) rfl rfl rfl rfl rfl rfl rfl (w_f49_2 _ _ _ _ h4) ⟨(Wv.refl _), (Wv.refl _), trivial⟩ (List.forall_mem_cons.2 ⟨rfl, (fun _ h => by cases h)⟩) (List.forall_mem_cons.2 ⟨⟨_, .head _⟩, (fun _ h => by cases h)⟩) rfl rfl ?_
      refine AL.v good (d := 4) (v := .sl (.own 2) 1 (r_int_u8 q3)) rfl rfl rfl rfl ?_
      refine AW.ret ?_
      obtain rfl := Option.some.inj hr
      exact RetH.w good (.inr rfl) rfl rfl (Wv.refl _) (List.forall_mem_cons.2 ⟨rfl, (fun _ h => by cases h)⟩)
    · replace hr := cnd_f h2 hr
      refine AW.seq ?_
      refine AW.region (M := fun _ => true) ?_
      refine AL.v good (d := 29) (v := .bool (a1.kind == 2)) rfl rfl rfl rfl ?_
      refine AL.v good (d := 28) (v := .bool (a1.kind == 2)) rfl rfl rfl rfl ?_
      refine AW.if rfl (fun h5 => ?_) (fun h5 => ?_)
      · replace hr := cnd_t h5 hr
        refine AW.seq ?_
        refine AW.seq ?_
        refine AW.region (M := fun _ => true) ?_
        refine AL.v good (d := 30) (v := .ptr 3 2) rfl rfl rfl rfl ?_
        refine AL.v good (d := 31) (v := .bool a1.b) rfl rfl rfl rfl ?_
        refine AW.if rfl (fun h6 => ?_) (fun h6 => ?_)
        · replace hr := cnd_t h6 hr
          refine AW.seq ?_
          refine AW.region (M := fun _ => true) ?_
          refine AL.v good (d := 32) (v := .sl (.own 2) 1 (r_int_u8 (a0 ++ [(IntKind.u8.wrap (a1.kind))]))) rfl rfl rfl rfl ?_
          refine AL.lit good (d := 33) (rows := [[.int .u8 1]]) rfl rfl rfl rfl rfl rfl rfl rfl rfl 5 rfl ?_
          obtain ⟨h7, hr⟩ := grd hr
          refine AL.aw2 good (d := 34) (rows := r_int_u8 (a0 ++ [(IntKind.u8.wrap (a1.kind))])) (news := [[.int .u8 1]]) (rows2 := r_int_u8 ((a0 ++ [(IntKind.u8.wrap (a1.kind))]) ++ [1])) rfl rfl rfl rfl rfl rfl rfl rfl rfl (by simp) rfl rfl rfl ⟨⟨Wv.refl _, trivial⟩, trivial⟩ (by simp [r_int_u8, rowF]) (by rw [r_int_u8_length, List.length_append]; exact h7) rfl ?_
          refine AL.v good (d := 4) (v := .sl (.own 2) 1 (r_int_u8 ((a0 ++ [(IntKind.u8.wrap (a1.kind))]) ++ [1]))) rfl rfl rfl rfl ?_
          refine AW.ret ?_
          obtain rfl := Option.some.inj hr
          exact RetH.w good (.inr rfl) rfl rfl (Wv.refl _) (List.forall_mem_cons.2 ⟨rfl, (fun _ h => by cases h)⟩)
        · replace hr := cnd_f h6 hr
          refine AW.skip ?_
          refine AW.seq ?_
          refine AW.region (M := fun _ => true) ?_
          refine AL.v good (d := 35) (v := .sl (.own 2) 1 (r_int_u8 (a0 ++ [(IntKind.u8.wrap (a1.kind))]))) rfl rfl rfl rfl ?_
          refine AL.lit good (d := 36) (rows := [[.int .u8 0]]) rfl rfl rfl rfl rfl rfl rfl rfl rfl 5 rfl ?_
          obtain ⟨h8, hr⟩ := grd hr
          refine AL.aw2 good (d := 37) (rows := r_int_u8 (a0 ++ [(IntKind.u8.wrap (a1.kind))])) (news := [[.int .u8 0]]) (rows2 := r_int_u8 ((a0 ++ [(IntKind.u8.wrap (a1.kind))]) ++ [0])) rfl rfl rfl rfl rfl rfl rfl rfl rfl (by simp) rfl rfl rfl ⟨⟨Wv.refl _, trivial⟩, trivial⟩ (by simp [r_int_u8, rowF]) (by rw [r_int_u8_length, List.length_append]; exact h8) rfl ?_
          refine AL.v good (d := 4) (v := .sl (.own 2) 1 (r_int_u8 ((a0 ++ [(IntKind.u8.wrap (a1.kind))]) ++ [0]))) rfl rfl rfl rfl ?_
          refine AW.ret ?_
          obtain rfl := Option.some.inj hr
          exact RetH.w good (.inr rfl) rfl rfl (Wv.refl _) (List.forall_mem_cons.2 ⟨rfl, (fun _ h => by cases h)⟩)
      · replace hr := cnd_f h5 hr
        refine AW.seq ?_
        refine AW.region (M := fun _ => true) ?_
        refine AL.v good (d := 39) (v := .bool (a1.kind == 3)) rfl rfl rfl rfl ?_
        refine AL.v good (d := 38) (v := .bool (a1.kind == 3)) rfl rfl rfl rfl ?_
        refine AW.if rfl (fun h9 => ?_) (fun h9 => ?_)
        · replace hr := cnd_t h9 hr
          refine AW.seq ?_
          refine AW.region (M := fun _ => true) ?_
          refine AL.v good (d := 40) (v := .sl (.own 2) 1 (r_int_u8 (a0 ++ [(IntKind.u8.wrap (a1.kind))]))) rfl rfl rfl rfl ?_
          refine AL.v good (d := 41) (v := .ptr 3 3) rfl rfl rfl rfl ?_
          refine AL.v good (d := 42) (v := .str a1.s) rfl rfl rfl rfl ?_
          obtain ⟨q10, h11, hr⟩ := bnd1 hr
          refine AL.clW good (d := 43) (xs := [.sl (.own 2) 1 (r_int_u8 (a0 ++ [(IntKind.u8.wrap (a1.kind))])), .str a1.s]) (rd := [(2, .row 5 1 (r_int_u8 (a0 ++ [(IntKind.u8.wrap (a1.kind))])).length)]) (up := [(2, .row 5 1 (r_int_u8 q10).length)]) (res := .sl (.own 2) 1 (r_int_u8 q10)) rfl rfl rfl rfl rfl rfl rfl (w_f80_2 _ _ _ _ h11) ⟨(Wv.refl _), (Wv.refl _), trivial⟩ (List.forall_mem_cons.2 ⟨rfl, (fun _ h => by cases h)⟩) (List.forall_mem_cons.2 ⟨⟨_, .head _⟩, (fun _ h => by cases h)⟩) rfl rfl ?_
          refine AL.v good (d := 4) (v := .sl (.own 2) 1 (r_int_u8 q10)) rfl rfl rfl rfl ?_
          refine AW.ret ?_
          obtain rfl := Option.some.inj hr
          exact RetH.w good (.inr rfl) rfl rfl (Wv.refl _) (List.forall_mem_cons.2 ⟨rfl, (fun _ h => by cases h)⟩)
        · replace hr := cnd_f h9 hr
          refine AW.skip ?_
          refine AW.seq ?_
          refine AW.region (M := fun _ => true) ?_
          refine AL.v good (d := 44) (v := .sl (.own 2) 1 (r_int_u8 (a0 ++ [(IntKind.u8.wrap (a1.kind))]))) rfl rfl rfl rfl ?_
          refine AL.v good (d := 45) (v := .ptr 3 4) rfl rfl rfl rfl ?_
          refine AL.v good (d := 46) (v := .sl .ro 5 (encs a1.t)) rfl rfl rfl rfl ?_
          refine AL.ln good (d := 47) (m := a1.t.length) rfl rfl rfl rfl rfl rfl (encs_length _) ?_
          refine AL.v good (d := 48) (v := .int .u8 (IntKind.u8.wrap ((a1.t.length : Int)))) rfl rfl rfl rfl ?_
          refine AL.lit good (d := 49) (rows := [[.int .u8 (IntKind.u8.wrap ((a1.t.length : Int)))]]) rfl rfl rfl rfl rfl rfl rfl rfl rfl 5 rfl ?_
          obtain ⟨h12, hr⟩ := grd hr
          refine AL.aw2 good (d := 50) (rows := r_int_u8 (a0 ++ [(IntKind.u8.wrap (a1.kind))])) (news := [[.int .u8 (IntKind.u8.wrap ((a1.t.length : Int)))]]) (rows2 := r_int_u8 ((a0 ++ [(IntKind.u8.wrap (a1.kind))]) ++ [(IntKind.u8.wrap ((a1.t.length : Int)))])) rfl rfl rfl rfl rfl rfl rfl rfl rfl (by simp) rfl rfl rfl ⟨⟨Wv.refl _, trivial⟩, trivial⟩ (by simp [r_int_u8, rowF]) (by rw [r_int_u8_length, List.length_append]; exact h12) rfl ?_
          refine AL.v good (d := 0) (v := .sl (.own 2) 1 (r_int_u8 ((a0 ++ [(IntKind.u8.wrap (a1.kind))]) ++ [(IntKind.u8.wrap ((a1.t.length : Int)))]))) rfl rfl rfl rfl ?_
          refine AW.seq ?_
          refine AW.seq ?_
          refine AW.region (M := fun _ => true) ?_
          refine AL.v good (d := 51) (v := .ptr 3 4) rfl rfl rfl rfl ?_
          refine AL.v good (d := 52) (v := .sl .ro 5 (encs a1.t)) rfl rfl rfl rfl ?_
          refine AL.ln good (d := 53) (m := a1.t.length) rfl rfl rfl rfl rfl rfl (encs_length _) ?_
          refine AL.v good (d := 54) (v := .int .i64 0) rfl rfl rfl rfl ?_
          refine AW.block ?_
          refine AW.lens 52 rfl (fun hl19 => ?_)
          replace hl19 : a1.t.length ≤ 9223372036854775807 := by rw [← encs_length a1.t]; exact hl19
          refine AW.lpw (fun x : Nat × (List Int) × Nat => [(0, .sl (.own 2) 1 (r_int_u8 x.2.1)), (52, .sl .ro 5 (encs a1.t)), (53, .int .i64 (a1.t.length : Int)), (54, .int .i64 (x.2.2 : Int))]) (fun x => [(2, .row 5 1 (r_int_u8 x.2.1).length)]) (fun x => s_f46_l1 x.1 a1 x.2.1 x.2.2 = some r ∧ x.1 ≤ n) (fun x => x.1) (n, ((a0 ++ [(IntKind.u8.wrap (a1.kind))]) ++ [(IntKind.u8.wrap ((a1.t.length : Int)))]), 0) ⟨(idsIn_sub rfl), List.forall_mem_cons.2 ⟨⟨⟨_, rfl, Wv.refl _⟩, (by simp [pureA, pureL, pureR, inA, inL, inR, inO, idsIn, encs_pure, enxs_pure, enys_pure, valC_pure, exC_pure, tyC_pure, r_int_u8_pure])⟩, List.forall_mem_cons.2 ⟨⟨⟨_, rfl, Wv.refl _⟩, (by simp [pureA, pureL, pureR, inA, inL, inR, inO, idsIn, encs_pure, enxs_pure, enys_pure, valC_pure, exC_pure, tyC_pure, r_int_u8_pure])⟩, List.forall_mem_cons.2 ⟨⟨⟨_, rfl, Wv.refl _⟩, (by simp [pureA, pureL, pureR, inA, inL, inR, inO, idsIn, encs_pure, enxs_pure, enys_pure, valC_pure, exC_pure, tyC_pure, r_int_u8_pure])⟩, List.forall_mem_cons.2 ⟨⟨⟨_, rfl, Wv.refl _⟩, (by simp [pureA, pureL, pureR, inA, inL, inR, inO, idsIn, encs_pure, enxs_pure, enys_pure, valC_pure, exC_pure, tyC_pure, r_int_u8_pure])⟩, (fun _ h => by cases h)⟩⟩⟩⟩, List.forall_mem_cons.2 ⟨⟨⟨_, rfl, ⟨rfl, rfl, rfl⟩⟩, (by simp [pureA, pureL, pureR, inA, inL, inR, inO, idsIn, encs_pure, enxs_pure, enys_pure, valC_pure, exC_pure, tyC_pure, r_int_u8_pure])⟩, (fun _ h => by cases h)⟩⟩ ⟨hr, Nat.le_refl _⟩ (fun ⟨m, v1_1, v1_2⟩ hx => ?_)
          obtain ⟨hr, hm⟩ := hx
          try dsimp only at hr hm
          cases m with
          | zero => rw [s_f46_l1] at hr; cases hr
          | succ m =>
            rw [s_f46_l1] at hr
            show AW Try.prog _ _ _ (mkS 63 [(0, .sl (.own 2) 1 (r_int_u8 v1_1)), (52, .sl .ro 5 (encs a1.t)), (53, .int .i64 (a1.t.length : Int)), (54, .int .i64 (v1_2 : Int))] [(2, .row 5 1 (r_int_u8 v1_1).length)])
            refine AW.seq ?_
            refine AW.region (M := fun _ => true) ?_
            refine AL.v good (d := 55) (v := .bool (decide ((v1_2 : Int) < (a1.t.length : Int)))) rfl rfl rfl rfl ?_
            refine AW.seq ?_
            refine AW.if rfl (fun h20 => ?_) (fun h20 => ?_)
            · replace hr := cnd_t h20 hr
              refine AW.skip ?_
              refine AW.seq ?_
              refine AW.block ?_
              refine AW.seq ?_
              refine AW.region (M := fun _ => true) ?_
              obtain ⟨x21, h22, hr⟩ := bnd1 hr
              refine AL.ix good (d := 56) (r := [.int .i64 x21.kind, .int .i64 x21.i, .bool x21.b, .str x21.s, .sl .ro 5 (encs x21.t)]) rfl rfl rfl rfl rfl rfl rfl (Int.natCast_nonneg _) (encs_get h22) ?_
              refine AL.v good (d := 57) (v := .agg [.int .i64 x21.kind, .int .i64 x21.i, .bool x21.b, .str x21.s, .sl .ro 5 (encs x21.t)]) rfl rfl rfl rfl ?_
              refine AL.alc good (d := 6) rfl rfl rfl rfl rfl 6 rfl ?_
              refine AL.st2 good (c2 := [.int .i64 x21.kind, .int .i64 x21.i, .bool x21.b, .str x21.s, .sl .ro 5 (encs x21.t)]) rfl rfl rfl rfl rfl rfl rfl rfl rfl rfl rfl rfl ?_
              refine AW.region (M := fun _ => true) ?_
              refine AL.v good (d := 58) (v := .sl (.own 2) 1 (r_int_u8 v1_1)) rfl rfl rfl rfl ?_
              refine AL.v good (d := 59) (v := .agg [.int .i64 x21.kind, .int .i64 x21.i, .bool x21.b, .str x21.s, .sl .ro 5 (encs x21.t)]) rfl rfl rfl rfl ?_
              obtain ⟨q23, h24, hr⟩ := bnd1 hr
              refine AL.clW good (d := 60) (xs := [.sl (.own 2) 1 (r_int_u8 v1_1), .agg (valC x21)]) (rd := [(2, .row 5 1 (r_int_u8 v1_1).length)]) (up := [(2, .row 5 1 (r_int_u8 q23).length)]) (res := .sl (.own 2) 1 (r_int_u8 q23)) rfl rfl rfl rfl rfl rfl rfl (ih _ _ _ _ h24 (by omega)) ⟨(Wv.refl _), (Wv.refl _), trivial⟩ (List.forall_mem_cons.2 ⟨rfl, (fun _ h => by cases h)⟩) (List.forall_mem_cons.2 ⟨⟨_, .head _⟩, (fun _ h => by cases h)⟩) rfl rfl ?_
              refine AL.v good (d := 0) (v := .sl (.own 2) 1 (r_int_u8 q23)) rfl rfl rfl rfl ?_
              refine AW.region (M := fun _ => true) ?_
              refine AL.v good (d := 61) (v := .int .i64 (IntKind.i64.wrap ((v1_2 : Int) + 1))) rfl rfl rfl rfl ?_
              refine AL.v good (d := 54) (v := .int .i64 (IntKind.i64.wrap ((v1_2 : Int) + 1))) rfl rfl rfl rfl ?_
              exact ⟨(m, q23, (v1_2 + 1)), _, _, rfl, ⟨(idsIn_sub rfl), List.forall_mem_cons.2 ⟨⟨⟨_, rfl, Wv.refl _⟩, (by simp [pureA, pureL, pureR, inA, inL, inR, inO, idsIn, encs_pure, enxs_pure, enys_pure, valC_pure, exC_pure, tyC_pure, r_int_u8_pure])⟩, List.forall_mem_cons.2 ⟨⟨⟨_, rfl, Wv.refl _⟩, (by simp [pureA, pureL, pureR, inA, inL, inR, inO, idsIn, encs_pure, enxs_pure, enys_pure, valC_pure, exC_pure, tyC_pure, r_int_u8_pure])⟩, List.forall_mem_cons.2 ⟨⟨⟨_, rfl, Wv.refl _⟩, (by simp [pureA, pureL, pureR, inA, inL, inR, inO, idsIn, encs_pure, enxs_pure, enys_pure, valC_pure, exC_pure, tyC_pure, r_int_u8_pure])⟩, List.forall_mem_cons.2 ⟨⟨⟨_, rfl, (wnx h20 hl19)⟩, (by simp [pureA, pureL, pureR, inA, inL, inR, inO, idsIn, encs_pure, enxs_pure, enys_pure, valC_pure, exC_pure, tyC_pure, r_int_u8_pure])⟩, (fun _ h => by cases h)⟩⟩⟩⟩, List.forall_mem_cons.2 ⟨⟨⟨_, rfl, ⟨rfl, rfl, rfl⟩⟩, (by simp [pureA, pureL, pureR, inA, inL, inR, inO, idsIn, encs_pure, enxs_pure, enys_pure, valC_pure, exC_pure, tyC_pure, r_int_u8_pure])⟩, (fun _ h => by cases h)⟩⟩, ⟨hr, Nat.le_of_succ_le hm⟩, Nat.lt_succ_self _⟩
            · replace hr := cnd_f h20 hr
              refine AW.exit ?_
              refine AW.seq ?_
              refine AW.region (M := fun _ => true) ?_
              refine AL.v good (d := 62) (v := .sl (.own 2) 1 (r_int_u8 v1_1)) rfl rfl rfl rfl ?_
              refine AL.v good (d := 4) (v := .sl (.own 2) 1 (r_int_u8 v1_1)) rfl rfl rfl rfl ?_
              refine AW.ret ?_
              obtain rfl := Option.some.inj hr
              exact RetH.w good (.inr rfl) rfl rfl (Wv.refl _) (List.forall_mem_cons.2 ⟨rfl, (fun _ h => by cases h)⟩)
theorem w_f46_2 (n : Nat) : ∀ (a0 : List Int) (a1 : Val) (r : List Int) (hr : s_f46 n a0 a1 = some r), ACallH Try.prog 46 [.sl (.own 2) 1 (r_int_u8 a0), .agg (valC a1)] [(2, .row 5 1 (r_int_u8 a0).length)] [(2, .row 5 1 (r_int_u8 r).length)] (.sl (.own 2) 1 (r_int_u8 r)) := by
  induction n using Nat.strongRecOn with
  | _ n ih =>
    intro a0 a1 r hr
    exact w_f46_2_a n (fun m a0 a1 r h hm => ih m hm a0 a1 r h) a0 a1 r hr

def s_f11 (n : Nat) (a0 : Val) (a1 : Val) : Option Bool :=
  ((s_f45 n).bind fun q1 => (bif (!q1) then some false else ((s_f18 n a0).bind fun q4 => (bif (!q4) then some true else ((s_f18 n a1).bind fun q7 => (bif (!q7) then some true else ((s_f46 n [] a0).bind fun q10 => ((s_f46 n [] a1).bind fun q12 => ((s_f22 n a0).bind fun q14 => ((s_f22 n a1).bind fun q16 => ((s_f25 n q14 q16).bind fun q18 => (bif (((q10.length : Int) == 0) || ((q12.length : Int) == 0)) then some false else (bif (decide ((q10.length : Int) ≤ (q12.length : Int))) then (if q10.length ≤ q12.length then (bif (((strOfNums (q12.take q10.length)).data.toList == (strOfNums q10).data.toList) == q18) then some (((strOfNums q10).data.toList == (strOfNums q12).data.toList) == q18) else some false) else none) else (bif (false == q18) then some (((strOfNums q10).data.toList == (strOfNums q12).data.toList) == q18) else some false))))))))))))))

theorem w_f11 (n : Nat) (a0 : Val) (a1 : Val) (r : Bool) (hr : s_f11 n a0 a1 = some r) : ACall Try.prog 11 [.agg (valC a0), .agg (valC a1)] (.bool r) := by
  refine ACall.go [(0, .agg (valC a0)), (1, .agg (valC a1))] Try.func11 rfl Try.ntmps11 rfl rfl (by simp [pureA, pureL, pureR, inA, inL, inR, inO, idsIn, encs_pure, enxs_pure, enys_pure, valC_pure, exC_pure, tyC_pure, r_int_u8_pure]) ?_
  rw [s_f11] at hr
  refine AW.seq ?_
  refine AW.region (M := fun _ => true) ?_
  refine AL.bx good (d := 2) (l := [.int .i64 a0.kind, .int .i64 a0.i, .bool a0.b, .str a0.s, .sl .ro 5 (encs a0.t)]) rfl rfl rfl rfl rfl rfl 0 rfl ?_
  refine AL.bx good (d := 3) (l := [.int .i64 a1.kind, .int .i64 a1.i, .bool a1.b, .str a1.s, .sl .ro 5 (encs a1.t)]) rfl rfl rfl rfl rfl rfl 1 rfl ?_
  refine AL.v good (d := 4) (v := .bool false) rfl rfl rfl rfl ?_
  refine AW.seq ?_
  refine AW.seq ?_
  refine AW.region (M := fun _ => true) ?_
  obtain ⟨q1, h2, hr⟩ := bnd1 hr
  refine AL.cw good (d := 9) (xs := []) (res := .bool q1) rfl rfl rfl rfl rfl rfl rfl (w_f45 _ _ h2) trivial (by simp [pureA, pureL, pureR, inA, inL, inR, inO, idsIn, encs_pure, enxs_pure, enys_pure, valC_pure, exC_pure, tyC_pure, r_int_u8_pure]) ?_
  refine AL.v good (d := 10) (v := .bool (!q1)) rfl rfl rfl rfl ?_
  refine AW.if rfl (fun h3 => ?_) (fun h3 => ?_)
  · replace hr := cnd_t h3 hr
    refine AW.seq ?_
    refine AW.region (M := fun _ => true) ?_
    refine AL.v good (d := 4) (v := .bool false) rfl rfl rfl rfl ?_
    refine AW.ret ?_
    obtain rfl := Option.some.inj hr
    exact RetQ.w good (.inr rfl) rfl rfl (Wv.refl _) (by simp [pureA, pureL, pureR, inA, inL, inR, inO, idsIn, encs_pure, enxs_pure, enys_pure, valC_pure, exC_pure, tyC_pure, r_int_u8_pure])
  · replace hr := cnd_f h3 hr
    refine AW.skip ?_
    refine AW.seq ?_
    refine AW.seq ?_
    refine AW.region (M := fun _ => true) ?_
    refine AL.v good (d := 11) (v := .agg [.int .i64 a0.kind, .int .i64 a0.i, .bool a0.b, .str a0.s, .sl .ro 5 (encs a0.t)]) rfl rfl rfl rfl ?_
    obtain ⟨q4, h5, hr⟩ := bnd1 hr
    refine AL.cw good (d := 12) (xs := [.agg (valC a0)]) (res := .bool q4) rfl rfl rfl rfl rfl rfl rfl (w_f18 _ _ _ h5) ⟨(Wv.refl _), trivial⟩ (by simp [pureA, pureL, pureR, inA, inL, inR, inO, idsIn, encs_pure, enxs_pure, enys_pure, valC_pure, exC_pure, tyC_pure, r_int_u8_pure]) ?_
    refine AL.v good (d := 13) (v := .bool (!q4)) rfl rfl rfl rfl ?_
    refine AL.v good (d := 14) (v := .bool (!q4)) rfl rfl rfl rfl ?_
    refine AL.cs 14 rfl (fun h6 => ?_) (fun h6 => ?_)
    · replace hr := cnd_t h6 hr
      refine AL.sk good (d := 15) rfl rfl rfl ?_
      refine AL.sk good (d := 16) rfl rfl rfl ?_
      refine AL.sk good (d := 17) rfl rfl rfl ?_
      refine AL.v good (d := 18) (v := .bool true) rfl rfl rfl rfl ?_
      refine AW.if rfl (fun h => ?_) (fun h => by cases h)
      refine AW.seq ?_
      refine AW.region (M := fun _ => true) ?_
      refine AL.v good (d := 4) (v := .bool true) rfl rfl rfl rfl ?_
      refine AW.ret ?_
      obtain rfl := Option.some.inj hr
      exact RetQ.w good (.inr rfl) rfl rfl (Wv.refl _) (by simp [pureA, pureL, pureR, inA, inL, inR, inO, idsIn, encs_pure, enxs_pure, enys_pure, valC_pure, exC_pure, tyC_pure, r_int_u8_pure])
    · replace hr := cnd_f h6 hr
      refine AL.v good (d := 15) (v := .agg [.int .i64 a1.kind, .int .i64 a1.i, .bool a1.b, .str a1.s, .sl .ro 5 (encs a1.t)]) rfl rfl rfl rfl ?_
      obtain ⟨q7, h8, hr⟩ := bnd1 hr
      refine AL.cw good (d := 16) (xs := [.agg (valC a1)]) (res := .bool q7) rfl rfl rfl rfl rfl rfl rfl (w_f18 _ _ _ h8) ⟨(Wv.refl _), trivial⟩ (by simp [pureA, pureL, pureR, inA, inL, inR, inO, idsIn, encs_pure, enxs_pure, enys_pure, valC_pure, exC_pure, tyC_pure, r_int_u8_pure]) ?_
      refine AL.v good (d := 17) (v := .bool (!q7)) rfl rfl rfl rfl ?_
      refine AL.v good (d := 18) (v := .bool (!q7)) rfl rfl rfl rfl ?_
      refine AW.if rfl (fun h9 => ?_) (fun h9 => ?_)
      · replace hr := cnd_t h9 hr
        refine AW.seq ?_
        refine AW.region (M := fun _ => true) ?_
        refine AL.v good (d := 4) (v := .bool true) rfl rfl rfl rfl ?_
        refine AW.ret ?_
        obtain rfl := Option.some.inj hr
        exact RetQ.w good (.inr rfl) rfl rfl (Wv.refl _) (by simp [pureA, pureL, pureR, inA, inL, inR, inO, idsIn, encs_pure, enxs_pure, enys_pure, valC_pure, exC_pure, tyC_pure, r_int_u8_pure])
      · replace hr := cnd_f h9 hr
        refine AW.skip ?_
        refine AW.seq ?_
        refine AW.region (M := fun _ => true) ?_
        refine AL.v good (d := 19) (v := .agg [.int .i64 a0.kind, .int .i64 a0.i, .bool a0.b, .str a0.s, .sl .ro 5 (encs a0.t)]) rfl rfl rfl rfl ?_
        obtain ⟨q10, h11, hr⟩ := bnd1 hr
        refine AL.clN good (d := 20) (xs := [.sl (.own 2) 1 (r_int_u8 []), .agg (valC a0)]) (res := .sl (.own 2) 1 (r_int_u8 q10)) rfl rfl rfl rfl rfl rfl rfl 2 1 5 rfl rfl (w_f46_2 _ _ _ _ h11) ⟨.inr ⟨⟨_, rfl⟩, rfl⟩, .inl (Wv.refl _), trivial⟩ rfl ?_
        refine AL.v good (d := 5) (v := .sl (.own 2) 1 (r_int_u8 q10)) rfl rfl rfl rfl ?_
        refine AW.seq ?_
        refine AW.region (M := fun _ => true) ?_
        refine AL.v good (d := 21) (v := .agg [.int .i64 a1.kind, .int .i64 a1.i, .bool a1.b, .str a1.s, .sl .ro 5 (encs a1.t)]) rfl rfl rfl rfl ?_
        obtain ⟨q12, h13, hr⟩ := bnd1 hr
        refine AL.clN good (d := 22) (xs := [.sl (.own 3) 1 (r_int_u8 []), .agg (valC a1)]) (res := .sl (.own 3) 1 (r_int_u8 q12)) rfl rfl rfl rfl rfl rfl rfl 3 1 5 rfl rfl (w_f46_3 _ _ _ _ h13) ⟨.inr ⟨⟨_, rfl⟩, rfl⟩, .inl (Wv.refl _), trivial⟩ rfl ?_
        refine AL.v good (d := 6) (v := .sl (.own 3) 1 (r_int_u8 q12)) rfl rfl rfl rfl ?_
        refine AW.seq ?_
        refine AW.draw (M := fun i => false) good.wide (by kernel_rfl) ?_
        refine AL.v good (d := 23) (v := .agg [.int .i64 a0.kind, .int .i64 a0.i, .bool a0.b, .str a0.s, .sl .ro 5 (encs a0.t)]) rfl rfl rfl rfl ?_
        obtain ⟨q14, h15, hr⟩ := bnd1 hr
        refine AL.cw good (d := 24) (xs := [.agg (valC a0)]) (res := .agg [.int .i64 q14.kind, .int .i64 q14.i, .bool q14.b, .str q14.s, .sl .ro 5 (encs q14.t)]) rfl rfl rfl rfl rfl rfl rfl (w_f22 _ _ _ h15) ⟨(Wv.refl _), trivial⟩ (by simp [pureA, pureL, pureR, inA, inL, inR, inO, idsIn, encs_pure, enxs_pure, enys_pure, valC_pure, exC_pure, tyC_pure, r_int_u8_pure]) ?_
        refine AL.v good (d := 25) (v := .agg [.int .i64 a1.kind, .int .i64 a1.i, .bool a1.b, .str a1.s, .sl .ro 5 (encs a1.t)]) rfl rfl rfl rfl ?_
        obtain ⟨q16, h17, hr⟩ := bnd1 hr
        refine AL.cw good (d := 26) (xs := [.agg (valC a1)]) (res := .agg [.int .i64 q16.kind, .int .i64 q16.i, .bool q16.b, .str q16.s, .sl .ro 5 (encs q16.t)]) rfl rfl rfl rfl rfl rfl rfl (w_f22 _ _ _ h17) ⟨(Wv.refl _), trivial⟩ (by simp [pureA, pureL, pureR, inA, inL, inR, inO, idsIn, encs_pure, enxs_pure, enys_pure, valC_pure, exC_pure, tyC_pure, r_int_u8_pure]) ?_
        obtain ⟨q18, h19, hr⟩ := bnd1 hr
        refine AL.cw good (d := 27) (xs := [.agg (valC q14), .agg (valC q16)]) (res := .bool q18) rfl rfl rfl rfl rfl rfl rfl (w_f25 _ _ _ _ h19) ⟨(Wv.refl _), (Wv.refl _), trivial⟩ (by simp [pureA, pureL, pureR, inA, inL, inR, inO, idsIn, encs_pure, enxs_pure, enys_pure, valC_pure, exC_pure, tyC_pure, r_int_u8_pure]) ?_
        refine AL.v good (d := 7) (v := .bool q18) rfl rfl rfl rfl ?_
        refine AW.seq ?_
        refine AW.seq ?_
        refine AW.region (M := fun _ => true) ?_
        refine AL.v good (d := 28) (v := .sl (.own 2) 1 (r_int_u8 q10)) rfl rfl rfl rfl ?_
        refine AL.ln good (d := 29) (m := q10.length) rfl rfl rfl rfl rfl rfl (r_int_u8_length _) ?_
        refine AL.v good (d := 30) (v := .bool ((q10.length : Int) == 0)) rfl rfl rfl rfl ?_
        refine AL.vb good (d := 31) (b := ((q10.length : Int) == 0)) rfl rfl rfl rfl (fun g20 h21 => ?_)
        refine AL.gv good (d := 32) (c := (!g20)) (v := .sl (.own 3) 1 (r_int_u8 q12)) (rd := []) rfl rfl (by cases g20 <;> rfl) (fun h => by cases g20 <;> first | rfl | exact absurd h (by decide)) ?_
        refine AL.gln good (d := 33) (c := (!g20)) (m := q12.length) rfl rfl (by cases g20 <;> rfl) rfl rfl (fun h => by cases g20 <;> first | rfl | exact absurd h (by decide)) (r_int_u8_length _) ?_
        refine AL.gv good (d := 34) (c := (!g20)) (v := .bool ((q12.length : Int) == 0)) (rd := []) rfl rfl (by cases g20 <;> rfl) (fun h => by cases g20 <;> first | rfl | exact absurd h (by decide)) ?_
        refine AL.v good (d := 35) (v := .bool (g20 || ((q12.length : Int) == 0))) (rd := []) rfl rfl rfl (by cases g20 <;> rfl) ?_
        subst h21
        refine AW.if rfl (fun h22 => ?_) (fun h22 => ?_)
        · replace hr := cnd_t h22 hr
          refine AW.seq ?_
          refine AW.region (M := fun _ => true) ?_
          refine AL.v good (d := 4) (v := .bool false) rfl rfl rfl rfl ?_
          refine AW.ret ?_
          obtain rfl := Option.some.inj hr
          exact RetQ.w good (.inr rfl) rfl rfl (Wv.refl _) (by simp [pureA, pureL, pureR, inA, inL, inR, inO, idsIn, encs_pure, enxs_pure, enys_pure, valC_pure, exC_pure, tyC_pure, r_int_u8_pure])
        · replace hr := cnd_f h22 hr
          refine AW.skip ?_
          refine AW.seq ?_
          refine AW.draw (M := fun i => false) good.wide (by kernel_rfl) ?_
          refine AL.v good (d := 36) (v := .sl (.own 2) 1 (r_int_u8 q10)) rfl rfl rfl rfl ?_
          refine AL.ln good (d := 37) (m := q10.length) rfl rfl rfl rfl rfl rfl (r_int_u8_length _) ?_
          refine AL.v good (d := 38) (v := .sl (.own 3) 1 (r_int_u8 q12)) rfl rfl rfl rfl ?_
          refine AL.ln good (d := 39) (m := q12.length) rfl rfl rfl rfl rfl rfl (r_int_u8_length _) ?_
          refine AL.v good (d := 40) (v := .bool (decide ((q10.length : Int) ≤ (q12.length : Int)))) rfl rfl rfl rfl ?_
          refine AL.v good (d := 41) (v := .bool (decide ((q10.length : Int) ≤ (q12.length : Int)))) rfl rfl rfl rfl ?_
          refine AL.cs 41 rfl (fun h23 => ?_) (fun h23 => ?_)
          · replace hr := cnd_t h23 hr
            refine AL.v good (d := 42) (v := .sl (.own 3) 1 (r_int_u8 q12)) rfl rfl rfl rfl ?_
            refine AL.v good (d := 43) (v := .sl (.own 2) 1 (r_int_u8 q10)) rfl rfl rfl rfl ?_
            refine AL.ln good (d := 44) (m := q10.length) rfl rfl rfl rfl rfl rfl (r_int_u8_length _) ?_
            obtain ⟨h24, hr⟩ := grd hr
            refine AL.sc good (d := 45) (rows := r_int_u8 q12) (rows2 := r_int_u8 (q12.take q10.length)) (m := q12.length) (l := 0) (h := q10.length) rfl rfl rfl rfl rfl rfl rfl (r_int_u8_length _) (bndT rfl h24) rfl (by exact rowF_take _ _ _) ?_
            refine AL.tos good (d := 46) (l := (q12.take q10.length)) rfl rfl rfl rfl rfl rfl rfl rfl (bytesA_rw _) ?_
            refine AL.v good (d := 47) (v := .sl (.own 2) 1 (r_int_u8 q10)) rfl rfl rfl rfl ?_
            refine AL.tos good (d := 48) (l := q10) rfl rfl rfl rfl rfl rfl rfl rfl (bytesA_rw _) ?_
            refine AL.sb good (d := 49) (b := ((strOfNums (q12.take q10.length)).data.toList == (strOfNums q10).data.toList)) rfl rfl rfl rfl rfl rfl rfl ?_
            refine AL.v good (d := 50) (v := .bool ((strOfNums (q12.take q10.length)).data.toList == (strOfNums q10).data.toList)) rfl rfl rfl rfl ?_
            refine AL.v good (d := 8) (v := .bool ((strOfNums (q12.take q10.length)).data.toList == (strOfNums q10).data.toList)) rfl rfl rfl rfl ?_
            refine AW.seq ?_
            refine AW.region (M := fun _ => true) ?_
            refine AL.v good (d := 51) (v := .bool ((strOfNums (q12.take q10.length)).data.toList == (strOfNums q10).data.toList)) rfl rfl rfl rfl ?_
            refine AL.v good (d := 52) (v := .bool q18) rfl rfl rfl rfl ?_
            refine AL.v good (d := 53) (v := .bool (((strOfNums (q12.take q10.length)).data.toList == (strOfNums q10).data.toList) == q18)) rfl rfl rfl rfl ?_
            refine AL.v good (d := 54) (v := .bool (((strOfNums (q12.take q10.length)).data.toList == (strOfNums q10).data.toList) == q18)) rfl rfl rfl rfl ?_
            refine AL.cs 54 rfl (fun h25 => ?_) (fun h25 => ?_)
            · replace hr := cnd_t h25 hr
              refine AL.v good (d := 55) (v := .sl (.own 2) 1 (r_int_u8 q10)) rfl rfl rfl rfl ?_
              refine AL.tos good (d := 56) (l := q10) rfl rfl rfl rfl rfl rfl rfl rfl (bytesA_rw _) ?_
              refine AL.v good (d := 57) (v := .sl (.own 3) 1 (r_int_u8 q12)) rfl rfl rfl rfl ?_
              refine AL.tos good (d := 58) (l := q12) rfl rfl rfl rfl rfl rfl rfl rfl (bytesA_rw _) ?_
              refine AL.sb good (d := 59) (b := ((strOfNums q10).data.toList == (strOfNums q12).data.toList)) rfl rfl rfl rfl rfl rfl rfl ?_
              refine AL.v good (d := 60) (v := .bool q18) rfl rfl rfl rfl ?_
              refine AL.v good (d := 61) (v := .bool (((strOfNums q10).data.toList == (strOfNums q12).data.toList) == q18)) rfl rfl rfl rfl ?_
              refine AL.v good (d := 62) (v := .bool (((strOfNums q10).data.toList == (strOfNums q12).data.toList) == q18)) rfl rfl rfl rfl ?_
              refine AL.v good (d := 4) (v := .bool (((strOfNums q10).data.toList == (strOfNums q12).data.toList) == q18)) rfl rfl rfl rfl ?_
              refine AW.ret ?_
              obtain rfl := Option.some.inj hr
              exact RetQ.w good (.inr rfl) rfl rfl (Wv.refl _) (by simp [pureA, pureL, pureR, inA, inL, inR, inO, idsIn, encs_pure, enxs_pure, enys_pure, valC_pure, exC_pure, tyC_pure, r_int_u8_pure])
            · replace hr := cnd_f h25 hr
              refine AL.sk good (d := 55) rfl rfl rfl ?_
              refine AL.sk good (d := 56) rfl rfl rfl ?_
              refine AL.sk good (d := 57) rfl rfl rfl ?_
              refine AL.sk good (d := 58) rfl rfl rfl ?_
              refine AL.sk good (d := 59) rfl rfl rfl ?_
              refine AL.sk good (d := 60) rfl rfl rfl ?_
              refine AL.sk good (d := 61) rfl rfl rfl ?_
              refine AL.v good (d := 62) (v := .bool false) rfl rfl rfl rfl ?_
              refine AL.v good (d := 4) (v := .bool false) rfl rfl rfl rfl ?_
              refine AW.ret ?_
              obtain rfl := Option.some.inj hr
              exact RetQ.w good (.inr rfl) rfl rfl (Wv.refl _) (by simp [pureA, pureL, pureR, inA, inL, inR, inO, idsIn, encs_pure, enxs_pure, enys_pure, valC_pure, exC_pure, tyC_pure, r_int_u8_pure])
          · replace hr := cnd_f h23 hr
            refine AL.sk good (d := 42) rfl rfl rfl ?_
            refine AL.sk good (d := 43) rfl rfl rfl ?_
            refine AL.sk good (d := 44) rfl rfl rfl ?_
            refine AL.sk good (d := 45) rfl rfl rfl ?_
            refine AL.sk good (d := 46) rfl rfl rfl ?_
            refine AL.sk good (d := 47) rfl rfl rfl ?_
            refine AL.sk good (d := 48) rfl rfl rfl ?_
            refine AL.sk good (d := 49) rfl rfl rfl ?_
            refine AL.v good (d := 50) (v := .bool false) rfl rfl rfl rfl ?_
            refine AL.v good (d := 8) (v := .bool false) rfl rfl rfl rfl ?_
            refine AW.seq ?_
            refine AW.region (M := fun _ => true) ?_
            refine AL.v good (d := 51) (v := .bool false) rfl rfl rfl rfl ?_
            refine AL.v good (d := 52) (v := .bool q18) rfl rfl rfl rfl ?_
            refine AL.v good (d := 53) (v := .bool (false == q18)) rfl rfl rfl rfl ?_
            refine AL.v good (d := 54) (v := .bool (false == q18)) rfl rfl rfl rfl ?_
            refine AL.cs 54 rfl (fun h26 => ?_) (fun h26 => ?_)
            · replace hr := cnd_t h26 hr
              refine AL.v good (d := 55) (v := .sl (.own 2) 1 (r_int_u8 q10)) rfl rfl rfl rfl ?_
              refine AL.tos good (d := 56) (l := q10) rfl rfl rfl rfl rfl rfl rfl rfl (bytesA_rw _) ?_
              refine AL.v good (d := 57) (v := .sl (.own 3) 1 (r_int_u8 q12)) rfl rfl rfl rfl ?_
              refine AL.tos good (d := 58) (l := q12) rfl rfl rfl rfl rfl rfl rfl rfl (bytesA_rw _) ?_
              refine AL.sb good (d := 59) (b := ((strOfNums q10).data.toList == (strOfNums q12).data.toList)) rfl rfl rfl rfl rfl rfl rfl ?_
              refine AL.v good (d := 60) (v := .bool q18) rfl rfl rfl rfl ?_
              refine AL.v good (d := 61) (v := .bool (((strOfNums q10).data.toList == (strOfNums q12).data.toList) == q18)) rfl rfl rfl rfl ?_
              refine AL.v good (d := 62) (v := .bool (((strOfNums q10).data.toList == (strOfNums q12).data.toList) == q18)) rfl rfl rfl rfl ?_
              refine AL.v good (d := 4) (v := .bool (((strOfNums q10).data.toList == (strOfNums q12).data.toList) == q18)) rfl rfl rfl rfl ?_
              refine AW.ret ?_
              obtain rfl := Option.some.inj hr
              exact RetQ.w good (.inr rfl) rfl rfl (Wv.refl _) (by simp [pureA, pureL, pureR, inA, inL, inR, inO, idsIn, encs_pure, enxs_pure, enys_pure, valC_pure, exC_pure, tyC_pure, r_int_u8_pure])
            · replace hr := cnd_f h26 hr
              refine AL.sk good (d := 55) rfl rfl rfl ?_
              refine AL.sk good (d := 56) rfl rfl rfl ?_
              refine AL.sk good (d := 57) rfl rfl rfl ?_
              refine AL.sk good (d := 58) rfl rfl rfl ?_
              refine AL.sk good (d := 59) rfl rfl rfl ?_
              refine AL.sk good (d := 60) rfl rfl rfl ?_
              refine AL.sk good (d := 61) rfl rfl rfl ?_
              refine AL.v good (d := 62) (v := .bool false) rfl rfl rfl rfl ?_
              refine AL.v good (d := 4) (v := .bool false) rfl rfl rfl rfl ?_
              refine AW.ret ?_
              obtain rfl := Option.some.inj hr
              exact RetQ.w good (.inr rfl) rfl rfl (Wv.refl _) (by simp [pureA, pureL, pureR, inA, inL, inR, inO, idsIn, encs_pure, enxs_pure, enys_pure, valC_pure, exC_pure, tyC_pure, r_int_u8_pure])

end Go.Proofs.Ytbcjcekoonebiaa.Tl
