/- Definitions and walks: laws of bytes. Conditions: none. -/
import Derived.Test.YtbcjcekoonebiaaTlYg
set_option linter.unusedVariables false
set_option linter.unusedSimpArgs false
namespace Go.Proofs.Ytbcjcekoonebiaa.Tl
open Go Go.RowKit




theorem w_f81_2 (n : Nat) (a0 : List Int) (a1 : Int) (r : List Int) (hr : s_f81 n a0 a1 = some r) : ACallH Try.prog 81 [.sl (.own 2) 1 (r_int_u8 a0), .int .u64 a1] [(2, .row 5 1 (r_int_u8 a0).length)] [(2, .row 5 1 (r_int_u8 r).length)] (.sl (.own 2) 1 (r_int_u8 r)) := by
  refine ACallH.go [(0, .sl (.own 2) 1 (r_int_u8 a0)), (1, .int .u64 a1)] [(2, .row 5 1 (r_int_u8 a0).length)] Try.func81 rfl Try.ntmps81 rfl rfl rfl (by simp [pureA, pureL, pureR, inA, inL, inR, inO, idsIn, encs_pure, enxs_pure, enys_pure, valC_pure, exC_pure, tyC_pure, r_int_u8_pure]) (List.forall_mem_cons.2 ⟨(by simp [pureA, pureL, pureR, inA, inL, inR, inO, idsIn, encs_pure, enxs_pure, enys_pure, valC_pure, exC_pure, tyC_pure, r_int_u8_pure]), (fun _ h => by cases h)⟩) (List.forall_mem_cons.2 ⟨⟨rfl, (by simp [pureA, pureL, pureR, inA, inL, inR, inO, idsIn, encs_pure, enxs_pure, enys_pure, valC_pure, exC_pure, tyC_pure, r_int_u8_pure])⟩, (fun _ h => by cases h)⟩) (by simp [pureA, pureL, pureR, inA, inL, inR, inO, idsIn, encs_pure, enxs_pure, enys_pure, valC_pure, exC_pure, tyC_pure, r_int_u8_pure]) ?_
  rw [s_f81] at hr
  refine AW.seq ?_
  refine AW.region (M := fun _ => true) ?_
  refine AL.v good (d := 4) (v := .sl .nil 0 []) rfl rfl rfl rfl ?_
  refine AW.seq ?_
  refine AW.block ?_
  refine AW.lpw (fun x : Nat × (List Int) × Int => [(0, .sl (.own 2) 1 (r_int_u8 x.2.1)), (1, .int .u64 x.2.2)]) (fun x => [(2, .row 5 1 (r_int_u8 x.2.1).length)]) (fun x => s_f81_l1 x.1 x.2.1 x.2.2 = some r ∧ x.1 ≤ n) (fun x => x.1) (n, a0, a1) ⟨(idsIn_sub rfl), List.forall_mem_cons.2 ⟨⟨⟨_, rfl, Wv.refl _⟩, (by simp [pureA, pureL, pureR, inA, inL, inR, inO, idsIn, encs_pure, enxs_pure, enys_pure, valC_pure, exC_pure, tyC_pure, r_int_u8_pure])⟩, List.forall_mem_cons.2 ⟨⟨⟨_, rfl, Wv.refl _⟩, (by simp [pureA, pureL, pureR, inA, inL, inR, inO, idsIn, encs_pure, enxs_pure, enys_pure, valC_pure, exC_pure, tyC_pure, r_int_u8_pure])⟩, (fun _ h => by cases h)⟩⟩, List.forall_mem_cons.2 ⟨⟨⟨_, rfl, ⟨rfl, rfl, rfl⟩⟩, (by simp [pureA, pureL, pureR, inA, inL, inR, inO, idsIn, encs_pure, enxs_pure, enys_pure, valC_pure, exC_pure, tyC_pure, r_int_u8_pure])⟩, (fun _ h => by cases h)⟩⟩ ⟨hr, Nat.le_refl _⟩ (fun ⟨m, v1_1, v1_2⟩ hx => ?_)
  obtain ⟨hr, hm⟩ := hx
  try dsimp only at hr hm
  cases m with
  | zero => rw [s_f81_l1] at hr; cases hr
  | succ m =>
    rw [s_f81_l1] at hr
    show AW Try.prog _ _ _ (mkS 20 [(0, .sl (.own 2) 1 (r_int_u8 v1_1)), (1, .int .u64 v1_2)] [(2, .row 5 1 (r_int_u8 v1_1).length)])
    refine AW.seq ?_
    refine AW.seq ?_
    refine AW.region (M := fun _ => true) ?_
    refine AL.v good (d := 5) (v := .int .u64 v1_2) rfl rfl rfl rfl ?_
    refine AL.v good (d := 6) (v := .bool (decide (v1_2 ≥ 128))) rfl rfl rfl rfl ?_
    refine AW.if rfl (fun h3 => ?_) (fun h3 => ?_)
    · replace hr := cnd_t h3 hr
      refine AW.skip ?_
      refine AW.block ?_
      refine AW.seq ?_
      refine AW.region (M := fun _ => true) ?_
      refine AL.v good (d := 7) (v := .sl (.own 2) 1 (r_int_u8 v1_1)) rfl rfl rfl rfl ?_
      refine AL.v good (d := 8) (v := .int .u64 v1_2) rfl rfl rfl rfl ?_
      refine AL.v good (d := 9) (v := .int .u8 (IntKind.u8.wrap (v1_2))) rfl rfl rfl rfl ?_
      refine AL.v good (d := 10) (v := .int .u8 (bits .or .u8 (IntKind.u8.wrap (v1_2)) 128)) rfl rfl rfl rfl ?_
      refine AL.lit good (d := 11) (rows := [[.int .u8 (bits .or .u8 (IntKind.u8.wrap (v1_2)) 128)]]) rfl rfl rfl rfl rfl rfl rfl rfl rfl 3 rfl ?_
      obtain ⟨h4, hr⟩ := grd hr
      refine AL.aw2 good (d := 12) (rows := r_int_u8 v1_1) (news := [[.int .u8 (bits .or .u8 (IntKind.u8.wrap (v1_2)) 128)]]) (rows2 := r_int_u8 (v1_1 ++ [(bits .or .u8 (IntKind.u8.wrap (v1_2)) 128)])) rfl rfl rfl rfl rfl rfl rfl rfl rfl (by simp) rfl rfl rfl ⟨⟨Wv.refl _, trivial⟩, trivial⟩ (by simp [r_int_u8, rowF]) (by rw [r_int_u8_length, List.length_append]; exact h4) rfl ?_
      refine AL.v good (d := 0) (v := .sl (.own 2) 1 (r_int_u8 (v1_1 ++ [(bits .or .u8 (IntKind.u8.wrap (v1_2)) 128)]))) rfl rfl rfl rfl ?_
      refine AW.region (M := fun _ => true) ?_
      refine AL.v good (d := 13) (v := .int .u64 v1_2) rfl rfl rfl rfl ?_
      refine AL.v good (d := 14) (v := .int .u64 (v1_2.fdiv (2 ^ 7))) rfl rfl rfl rfl ?_
      refine AL.v good (d := 1) (v := .int .u64 (v1_2.fdiv (2 ^ 7))) rfl rfl rfl rfl ?_
      exact ⟨(m, (v1_1 ++ [(bits .or .u8 (IntKind.u8.wrap (v1_2)) 128)]), (v1_2.fdiv (2 ^ 7))), _, _, rfl, ⟨(idsIn_sub rfl), List.forall_mem_cons.2 ⟨⟨⟨_, rfl, Wv.refl _⟩, (by simp [pureA, pureL, pureR, inA, inL, inR, inO, idsIn, encs_pure, enxs_pure, enys_pure, valC_pure, exC_pure, tyC_pure, r_int_u8_pure])⟩, List.forall_mem_cons.2 ⟨⟨⟨_, rfl, Wv.refl _⟩, (by simp [pureA, pureL, pureR, inA, inL, inR, inO, idsIn, encs_pure, enxs_pure, enys_pure, valC_pure, exC_pure, tyC_pure, r_int_u8_pure])⟩, (fun _ h => by cases h)⟩⟩, List.forall_mem_cons.2 ⟨⟨⟨_, rfl, ⟨rfl, rfl, rfl⟩⟩, (by simp [pureA, pureL, pureR, inA, inL, inR, inO, idsIn, encs_pure, enxs_pure, enys_pure, valC_pure, exC_pure, tyC_pure, r_int_u8_pure])⟩, (fun _ h => by cases h)⟩⟩, ⟨hr, Nat.le_of_succ_le hm⟩, Nat.lt_succ_self _⟩
    · replace hr := cnd_f h3 hr
      refine AW.exit ?_
      refine AW.seq ?_
      refine AW.region (M := fun _ => true) ?_
      refine AL.v good (d := 15) (v := .sl (.own 2) 1 (r_int_u8 v1_1)) rfl rfl rfl rfl ?_
      refine AL.v good (d := 16) (v := .int .u64 v1_2) rfl rfl rfl rfl ?_
      refine AL.v good (d := 17) (v := .int .u8 (IntKind.u8.wrap (v1_2))) rfl rfl rfl rfl ?_
      refine AL.lit good (d := 18) (rows := [[.int .u8 (IntKind.u8.wrap (v1_2))]]) rfl rfl rfl rfl rfl rfl rfl rfl rfl 3 rfl ?_
      obtain ⟨h5, hr⟩ := grd hr
      refine AL.aw2 good (d := 19) (rows := r_int_u8 v1_1) (news := [[.int .u8 (IntKind.u8.wrap (v1_2))]]) (rows2 := r_int_u8 (v1_1 ++ [(IntKind.u8.wrap (v1_2))])) rfl rfl rfl rfl rfl rfl rfl rfl rfl (by simp) rfl rfl rfl ⟨⟨Wv.refl _, trivial⟩, trivial⟩ (by simp [r_int_u8, rowF]) (by rw [r_int_u8_length, List.length_append]; exact h5) rfl ?_
      refine AL.v good (d := 4) (v := .sl (.own 2) 1 (r_int_u8 (v1_1 ++ [(IntKind.u8.wrap (v1_2))]))) rfl rfl rfl rfl ?_
      refine AW.ret ?_
      obtain rfl := Option.some.inj hr
      exact RetH.w good (.inr rfl) rfl rfl (Wv.refl _) (List.forall_mem_cons.2 ⟨rfl, (fun _ h => by cases h)⟩)


theorem w_f82_2 (n : Nat) (a0 : List Int) (a1 : ByteArray) (r : List Int) (hr : s_f82 n a0 a1 = some r) : ACallH Try.prog 82 [.sl (.own 2) 1 (r_int_u8 a0), .str a1] [(2, .row 5 1 (r_int_u8 a0).length)] [(2, .row 5 1 (r_int_u8 r).length)] (.sl (.own 2) 1 (r_int_u8 r)) := by
  refine ACallH.go [(0, .sl (.own 2) 1 (r_int_u8 a0)), (1, .str a1)] [(2, .row 5 1 (r_int_u8 a0).length)] Try.func82 rfl Try.ntmps82 rfl rfl rfl (by simp [pureA, pureL, pureR, inA, inL, inR, inO, idsIn, encs_pure, enxs_pure, enys_pure, valC_pure, exC_pure, tyC_pure, r_int_u8_pure]) (List.forall_mem_cons.2 ⟨(by simp [pureA, pureL, pureR, inA, inL, inR, inO, idsIn, encs_pure, enxs_pure, enys_pure, valC_pure, exC_pure, tyC_pure, r_int_u8_pure]), (fun _ h => by cases h)⟩) (List.forall_mem_cons.2 ⟨⟨rfl, (by simp [pureA, pureL, pureR, inA, inL, inR, inO, idsIn, encs_pure, enxs_pure, enys_pure, valC_pure, exC_pure, tyC_pure, r_int_u8_pure])⟩, (fun _ h => by cases h)⟩) (by simp [pureA, pureL, pureR, inA, inL, inR, inO, idsIn, encs_pure, enxs_pure, enys_pure, valC_pure, exC_pure, tyC_pure, r_int_u8_pure]) ?_
  rw [s_f82] at hr
  refine AW.seq ?_
  refine AW.region (M := fun _ => true) ?_
  refine AL.v good (d := 4) (v := .sl .nil 0 []) rfl rfl rfl rfl ?_
  refine AW.seq ?_
  refine AW.region (M := fun _ => true) ?_
  refine AL.v good (d := 5) (v := .sl (.own 2) 1 (r_int_u8 a0)) rfl rfl rfl rfl ?_
  refine AL.v good (d := 6) (v := .str a1) rfl rfl rfl rfl ?_
  refine AL.v good (d := 7) (v := .int .i64 (a1.size : Int)) rfl rfl rfl rfl ?_
  refine AL.v good (d := 8) (v := .int .u64 (IntKind.u64.wrap ((a1.size : Int)))) rfl rfl rfl rfl ?_
  obtain ⟨q1, h2, hr⟩ := bnd1 hr
  refine AL.clW good (d := 9) (xs := [.sl (.own 2) 1 (r_int_u8 a0), .int .u64 (IntKind.u64.wrap ((a1.size : Int)))]) (rd := [(2, .row 5 1 (r_int_u8 a0).length)]) (up := [(2, .row 5 1 (r_int_u8 q1).length)]) (res := .sl (.own 2) 1 (r_int_u8 q1)) rfl rfl rfl rfl rfl rfl rfl (w_f81_2 _ _ _ _ h2) ⟨(Wv.refl _), (Wv.refl _), trivial⟩ (List.forall_mem_cons.2 ⟨rfl, (fun _ h => by cases h)⟩) (List.forall_mem_cons.2 ⟨⟨_, .head _⟩, (fun _ h => by cases h)⟩) rfl rfl ?_
  refine AL.v good (d := 10) (v := .str a1) rfl rfl rfl rfl ?_
  obtain ⟨h3, hr⟩ := grd hr
  refine AL.apS good (d := 11) (rows := r_int_u8 q1) (rows2 := r_int_u8 (q1 ++ (bI8 a1))) rfl rfl rfl rfl rfl (by kernel_rfl) rfl rfl rfl rfl rfl (bR8_eq _ _) (by rw [r_int_u8_length, List.length_append, bI8_length]; exact h3) ?_
  refine AL.v good (d := 4) (v := .sl (.own 2) 1 (r_int_u8 (q1 ++ (bI8 a1)))) rfl rfl rfl rfl ?_
  refine AW.ret ?_
  obtain rfl := Option.some.inj hr
  exact RetH.w good (.inr rfl) rfl rfl (Wv.refl _) (List.forall_mem_cons.2 ⟨rfl, (fun _ h => by cases h)⟩)


theorem w_f47_2_a (n : Nat) (ih : ∀ (m : Nat) (a0 : List Int) (a1 : Val) (r : List Int), s_f47 m a0 a1 = some r → m < n → ACallH Try.prog 47 [.sl (.own 2) 1 (r_int_u8 a0), .agg (valC a1)] [(2, .row 5 1 (r_int_u8 a0).length)] [(2, .row 5 1 (r_int_u8 r).length)] (.sl (.own 2) 1 (r_int_u8 r))) (a0 : List Int) (a1 : Val) (r : List Int) (hr : s_f47 n a0 a1 = some r) : ACallH Try.prog 47 [.sl (.own 2) 1 (r_int_u8 a0), .agg (valC a1)] [(2, .row 5 1 (r_int_u8 a0).length)] [(2, .row 5 1 (r_int_u8 r).length)] (.sl (.own 2) 1 (r_int_u8 r)) := by
  refine ACallH.go [(0, .sl (.own 2) 1 (r_int_u8 a0)), (1, .agg (valC a1))] [(2, .row 5 1 (r_int_u8 a0).length)] Try.func47 rfl Try.ntmps47 rfl rfl rfl (by simp [pureA, pureL, pureR, inA, inL, inR, inO, idsIn, encs_pure, enxs_pure, enys_pure, valC_pure, exC_pure, tyC_pure, r_int_u8_pure]) (List.forall_mem_cons.2 ⟨(by simp [pureA, pureL, pureR, inA, inL, inR, inO, idsIn, encs_pure, enxs_pure, enys_pure, valC_pure, exC_pure, tyC_pure, r_int_u8_pure]), (fun _ h => by cases h)⟩) (List.forall_mem_cons.2 ⟨⟨rfl, (by simp [pureA, pureL, pureR, inA, inL, inR, inO, idsIn, encs_pure, enxs_pure, enys_pure, valC_pure, exC_pure, tyC_pure, r_int_u8_pure])⟩, (fun _ h => by cases h)⟩) (by simp [pureA, pureL, pureR, inA, inL, inR, inO, idsIn, encs_pure, enxs_pure, enys_pure, valC_pure, exC_pure, tyC_pure, r_int_u8_pure]) ?_
  cases n with
  | zero => rw [s_f47] at hr; cases hr
  | succ n =>
    rw [s_f47] at hr
    refine AW.seq ?_
    refine AW.region (M := fun _ => true) ?_
    refine AL.bx good (d := 3) (l := [.int .i64 a1.kind, .int .i64 a1.i, .bool a1.b, .str a1.s, .sl .ro 5 (encs a1.t)]) rfl rfl rfl rfl rfl rfl 3 rfl ?_
    refine AL.v good (d := 4) (v := .sl .nil 0 []) rfl rfl rfl rfl ?_
    refine AW.seq ?_
    refine AW.region (M := fun _ => true) ?_
    refine AL.v good (d := 7) (v := .sl (.own 2) 1 (r_int_u8 a0)) rfl rfl rfl rfl ?_
    refine AL.v good (d := 8) (v := .ptr 3 0) rfl rfl rfl rfl ?_
    refine AL.v good (d := 9) (v := .int .i64 a1.kind) rfl rfl rfl rfl ?_
    refine AL.v good (d := 10) (v := .int .u8 (IntKind.u8.wrap (a1.kind))) rfl rfl rfl rfl ?_
    refine AL.lit good (d := 11) (rows := [[.int .u8 (IntKind.u8.wrap (a1.kind))]]) rfl rfl rfl rfl rfl rfl rfl rfl rfl 4 rfl ?_
    obtain ⟨h1, hr⟩ := grd hr
    refine AL.aw2 good (d := 12) (rows := r_int_u8 a0) (news := [[.int .u8 (IntKind.u8.wrap (a1.kind))]]) (rows2 := r_int_u8 (a0 ++ [(IntKind.u8.wrap (a1.kind))])) rfl rfl rfl rfl rfl rfl rfl rfl rfl (by simp) rfl rfl rfl ⟨⟨Wv.refl _, trivial⟩, trivial⟩ (by simp [r_int_u8, rowF]) (by rw [r_int_u8_length, List.length_append]; exact h1) rfl ?_
    refine AL.v good (d := 0) (v := .sl (.own 2) 1 (r_int_u8 (a0 ++ [(IntKind.u8.wrap (a1.kind))]))) rfl rfl rfl rfl ?_
    refine AW.seq ?_
    refine AW.seq ?_
    refine AW.region (M := fun _ => true) ?_
    refine AL.v good (d := 13) (v := .ptr 3 0) rfl rfl rfl rfl ?_
    refine AL.v good (d := 14) (v := .int .i64 a1.kind) rfl rfl rfl rfl ?_
    refine AW.block ?_
    refine AW.seq ?_
    refine AW.region (M := fun _ => true) ?_
    refine AL.v good (d := 16) (v := .bool (a1.kind == 1)) rfl rfl rfl rfl ?_
    refine AL.v good (d := 15) (v := .bool (a1.kind == 1)) rfl rfl rfl rfl ?_
    refine AW.if rfl (fun h2 => ?_) (fun h2 => ?_)
    · replace hr := cnd_t h2 hr
      refine AW.seq ?_
      refine AW.region (M := fun _ => true) ?_
      refine AL.v good (d := 17) (v := .ptr 3 1) rfl rfl rfl rfl ?_
      refine AL.v good (d := 18) (v := .int .i64 a1.i) rfl rfl rfl rfl ?_
      refine AL.v good (d := 19) (v := .int .u64 (IntKind.u64.wrap (a1.i))) rfl rfl rfl rfl ?_
      refine AL.v good (d := 20) (v := .int .u64 (IntKind.u64.wrap ((IntKind.u64.wrap (a1.i)) * 2 ^ 1))) rfl rfl rfl rfl ?_
      refine AL.v good (d := 5) (v := .int .u64 (IntKind.u64.wrap ((IntKind.u64.wrap (a1.i)) * 2 ^ 1))) rfl rfl rfl rfl ?_
      refine AW.seq ?_
      refine AW.seq ?_
      refine AW.region (M := fun _ => true) ?_
      refine AL.v good (d := 21) (v := .ptr 3 1) rfl rfl rfl rfl ?_
      refine AL.v good (d := 22) (v := .int .i64 a1.i) rfl rfl rfl rfl ?_
      refine AL.v good (d := 23) (v := .bool (decide (a1.i < 0))) rfl rfl rfl rfl ?_
      refine AW.if rfl (fun h3 => ?_) (fun h3 => ?_)
      · replace hr := cnd_t h3 hr
        refine AW.region (M := fun _ => true) ?_
        refine AL.v good (d := 24) (v := .int .u64 (IntKind.u64.wrap ((IntKind.u64.wrap (a1.i)) * 2 ^ 1))) rfl rfl rfl rfl ?_
        refine AL.v good (d := 25) (v := .int .u64 (bits .xor .u64 (if IntKind.u64.signed then -1 else IntKind.u64.max) (IntKind.u64.wrap ((IntKind.u64.wrap (a1.i)) * 2 ^ 1)))) rfl rfl rfl rfl ?_
        refine AL.v good (d := 5) (v := .int .u64 (bits .xor .u64 (if IntKind.u64.signed then -1 else IntKind.u64.max) (IntKind.u64.wrap ((IntKind.u64.wrap (a1.i)) * 2 ^ 1)))) rfl rfl rfl rfl ?_
        refine AW.seq ?_
        refine AW.region (M := fun _ => true) ?_
        refine AL.v good (d := 26) (v := .sl (.own 2) 1 (r_int_u8 (a0 ++ [(IntKind.u8.wrap (a1.kind))]))) rfl rfl rfl rfl ?_
        refine AL.v good (d := 27) (v := .int .u64 (bits .xor .u64 (if IntKind.u64.signed then -1 else IntKind.u64.max) (IntKind.u64.wrap ((IntKind.u64.wrap (a1.i)) * 2 ^ 1)))) rfl rfl rfl rfl ?_
        obtain ⟨q4, h5, hr⟩ := bnd1 hr
        refine AL.clW good (d := 28) (xs := [.sl (.own 2) 1 (r_int_u8 (a0 ++ [(IntKind.u8.wrap (a1.kind))])), .int .u64 (bits .xor .u64 (if IntKind.u64.signed then -1 else IntKind.u64.max) (IntKind.u64.wrap ((IntKind.u64.wrap (a1.i)) * 2 ^ 1)))]) (rd := [(2, .row 5 1 (r_int_u8 (a0 ++ [(IntKind.u8.wrap (a1.kind))])).length)]) (up := [(2, .row 5 1 (r_int_u8 q4).length)]) (res := .sl (.own 2) 1 (r_int_u8 q4)) rfl rfl rfl rfl rfl rfl rfl (w_f81_2 _ _ _ _ h5) ⟨(Wv.refl _), (Wv.refl _), trivial⟩ (List.forall_mem_cons.2 ⟨rfl, (fun _ h => by cases h)⟩) (List.forall_mem_cons.2 ⟨⟨_, .head _⟩, (fun _ h => by cases h)⟩) rfl rfl ?_
        refine AL.v good (d := 4) (v := .sl (.own 2) 1 (r_int_u8 q4)) rfl rfl rfl rfl ?_
        refine AW.ret ?_
        obtain rfl := Option.some.inj hr
        exact RetH.w good (.inr rfl) rfl rfl (Wv.refl _) (List.forall_mem_cons.2 ⟨rfl, (fun _ h => by cases h)⟩)
      · replace hr := cnd_f h3 hr
        refine AW.skip ?_
        refine AW.seq ?_
        refine AW.region (M := fun _ => true) ?_
        refine AL.v good (d := 26) (v := .sl (.own 2) 1 (r_int_u8 (a0 ++ [(IntKind.u8.wrap (a1.kind))]))) rfl rfl rfl rfl ?_
        refine AL.v good (d := 27) (v := .int .u64 (IntKind.u64.wrap ((IntKind.u64.wrap (a1.i)) * 2 ^ 1))) rfl rfl rfl rfl ?_
        obtain ⟨q6, h7, hr⟩ := bnd1 hr
        refine AL.clW good (d := 28) (xs := [.sl (.own 2) 1 (r_int_u8 (a0 ++ [(IntKind.u8.wrap (a1.kind))])), .int .u64 (IntKind.u64.wrap ((IntKind.u64.wrap (a1.i)) * 2 ^ 1))]) (rd := [(2, .row 5 1 (r_int_u8 (a0 ++ [(IntKind.u8.wrap (a1.kind))])).length)]) (up := [(2, .row 5 1 (r_int_u8 q6).length)]) (res := .sl (.own 2) 1 (r_int_u8 q6)) rfl rfl rfl rfl rfl rfl rfl (w_f81_2 _ _ _ _ h7) ⟨(Wv.refl _), (Wv.refl _), trivial⟩ (List.forall_mem_cons.2 ⟨rfl, (fun _ h => by cases h)⟩) (List.forall_mem_cons.2 ⟨⟨_, .head _⟩, (fun _ h => by cases h)⟩) rfl rfl ?_
        refine AL.v good (d := 4) (v := .sl (.own 2) 1 (r_int_u8 q6)) rfl rfl rfl rfl ?_
        refine AW.ret ?_
        obtain rfl := Option.some.inj hr
        exact RetH.w good (.inr rfl) rfl rfl (Wv.refl _) (List.forall_mem_cons.2 ⟨rfl, (fun _ h => by cases h)⟩)
    · replace hr := cnd_f h2 hr
      refine AW.seq ?_
      refine AW.region (M := fun _ => true) ?_
      refine AL.v good (d := 30) (v := .bool (a1.kind == 2)) rfl rfl rfl rfl ?_
      refine AL.v good (d := 29) (v := .bool (a1.kind == 2)) rfl rfl rfl rfl ?_
      refine AW.if rfl (fun h8 => ?_) (fun h8 => ?_)
      · replace hr := cnd_t h8 hr
        refine AW.seq ?_
        refine AW.seq ?_
        refine AW.region (M := fun _ => true) ?_
        refine AL.v good (d := 31) (v := .ptr 3 2) rfl rfl rfl rfl ?_
        refine AL.v good (d := 32) (v := .bool a1.b) rfl rfl rfl rfl ?_
        refine AW.if rfl (fun h9 => ?_) (fun h9 => ?_)
        · replace hr := cnd_t h9 hr
          refine AW.seq ?_
          refine AW.region (M := fun _ => true) ?_
          refine AL.v good (d := 33) (v := .sl (.own 2) 1 (r_int_u8 (a0 ++ [(IntKind.u8.wrap (a1.kind))]))) rfl rfl rfl rfl ?_
          refine AL.lit good (d := 34) (rows := [[.int .u8 1]]) rfl rfl rfl rfl rfl rfl rfl rfl rfl 5 rfl ?_
          obtain ⟨h10, hr⟩ := grd hr
          refine AL.aw2 good (d := 35) (rows := r_int_u8 (a0 ++ [(IntKind.u8.wrap (a1.kind))])) (news := [[.int .u8 1]]) (rows2 := r_int_u8 ((a0 ++ [(IntKind.u8.wrap (a1.kind))]) ++ [1])) rfl rfl rfl rfl rfl rfl rfl rfl rfl (by simp) rfl rfl rfl ⟨⟨Wv.refl _, trivial⟩, trivial⟩ (by simp [r_int_u8, rowF]) (by rw [r_int_u8_length, List.length_append]; exact h10) rfl ?_
          refine AL.v good (d := 4) (v := .sl (.own 2) 1 (r_int_u8 ((a0 ++ [(IntKind.u8.wrap (a1.kind))]) ++ [1]))) rfl rfl rfl rfl ?_
          refine AW.ret ?_
          obtain rfl := Option.some.inj hr
          exact RetH.w good (.inr rfl) rfl rfl (Wv.refl _) (List.forall_mem_cons.2 ⟨rfl, (fun _ h => by cases h)⟩)
        · replace hr := cnd_f h9 hr
          refine AW.skip ?_
          refine AW.seq ?_
          refine AW.region (M := fun _ => true) ?_
          refine AL.v good (d := 36) (v := .sl (.own 2) 1 (r_int_u8 (a0 ++ [(IntKind.u8.wrap (a1.kind))]))) rfl rfl rfl rfl ?_
          refine AL.lit good (d := 37) (rows := [[.int .u8 0]]) rfl rfl rfl rfl rfl rfl rfl rfl rfl 5 rfl ?_
          obtain ⟨h11, hr⟩ := grd hr
          refine AL.aw2 good (d := 38) (rows := r_int_u8 (a0 ++ [(IntKind.u8.wrap (a1.kind))])) (news := [[.int .u8 0]]) (rows2 := r_int_u8 ((a0 ++ [(IntKind.u8.wrap (a1.kind))]) ++ [0])) rfl rfl rfl rfl rfl rfl rfl rfl rfl (by simp) rfl rfl rfl ⟨⟨Wv.refl _, trivial⟩, trivial⟩ (by simp [r_int_u8, rowF]) (by rw [r_int_u8_length, List.length_append]; exact h11) rfl ?_
          refine AL.v good (d := 4) (v := .sl (.own 2) 1 (r_int_u8 ((a0 ++ [(IntKind.u8.wrap (a1.kind))]) ++ [0]))) rfl rfl rfl rfl ?_
          refine AW.ret ?_
          obtain rfl := Option.some.inj hr
          exact RetH.w good (.inr rfl) rfl rfl (Wv.refl _) (List.forall_mem_cons.2 ⟨rfl, (fun _ h => by cases h)⟩)
      · replace hr := cnd_f h8 hr
        refine AW.seq ?_
        refine AW.region (M := fun _ => true) ?_
        refine AL.v good (d := 40) (v := .bool (a1.kind == 3)) rfl rfl rfl rfl ?_
        refine AL.v good (d := 39) (v := .bool (a1.kind == 3)) rfl rfl rfl rfl ?_
        refine AW.if rfl (fun h12 => ?_) (fun h12 => ?_)
        · replace hr := cnd_t h12 hr
          refine AW.seq ?_
          refine AW.region (M := fun _ => true) ?_
          refine AL.v good (d := 41) (v := .sl (.own 2) 1 (r_int_u8 (a0 ++ [(IntKind.u8.wrap (a1.kind))]))) rfl rfl rfl rfl ?_
          refine AL.v good (d := 42) (v := .ptr 3 3) rfl rfl rfl rfl ?_
          refine AL.v good (d := 43) (v := .str a1.s) rfl rfl rfl rfl ?_
          obtain ⟨q13, h14, hr⟩ := bnd1 hr
          refine AL.clW good (d := 44) (xs := [.sl (.own 2) 1 (r_int_u8 (a0 ++ [(IntKind.u8.wrap (a1.kind))])), .str a1.s]) (rd := [(2, .row 5 1 (r_int_u8 (a0 ++ [(IntKind.u8.wrap (a1.kind))])).length)]) (up := [(2, .row 5 1 (r_int_u8 q13).length)]) (res := .sl (.own 2) 1 (r_int_u8 q13)) rfl rfl rfl rfl rfl rfl rfl (w_f82_2 _ _ _ _ h14) ⟨(Wv.refl _), (Wv.refl _), trivial⟩ (List.forall_mem_cons.2 ⟨rfl, (fun _ h => by cases h)⟩) (List.forall_mem_cons.2 ⟨⟨_, .head _⟩, (fun _ h => by cases h)⟩) rfl rfl ?_
          refine AL.v good (d := 4) (v := .sl (.own 2) 1 (r_int_u8 q13)) rfl rfl rfl rfl ?_
          refine AW.ret ?_
          obtain rfl := Option.some.inj hr
          exact RetH.w good (.inr rfl) rfl rfl (Wv.refl _) (List.forall_mem_cons.2 ⟨rfl, (fun _ h => by cases h)⟩)
        · replace hr := cnd_f h12 hr
          refine AW.skip ?_
          refine AW.seq ?_
          refine AW.region (M := fun _ => true) ?_
          refine AL.v good (d := 45) (v := .sl (.own 2) 1 (r_int_u8 (a0 ++ [(IntKind.u8.wrap (a1.kind))]))) rfl rfl rfl rfl ?_
          refine AL.v good (d := 46) (v := .ptr 3 4) rfl rfl rfl rfl ?_
          refine AL.v good (d := 47) (v := .sl .ro 5 (encs a1.t)) rfl rfl rfl rfl ?_
          refine AL.ln good (d := 48) (m := a1.t.length) rfl rfl rfl rfl rfl rfl (encs_length _) ?_
          refine AL.v good (d := 49) (v := .int .u8 (IntKind.u8.wrap ((a1.t.length : Int)))) rfl rfl rfl rfl ?_
          refine AL.lit good (d := 50) (rows := [[.int .u8 (IntKind.u8.wrap ((a1.t.length : Int)))]]) rfl rfl rfl rfl rfl rfl rfl rfl rfl 5 rfl ?_
          obtain ⟨h15, hr⟩ := grd hr
          refine AL.aw2 good (d := 51) (rows := r_int_u8 (a0 ++ [(IntKind.u8.wrap (a1.kind))])) (news := [[.int .u8 (IntKind.u8.wrap ((a1.t.length : Int)))]]) (rows2 := r_int_u8 ((a0 ++ [(IntKind.u8.wrap (a1.kind))]) ++ [(IntKind.u8.wrap ((a1.t.length : Int)))])) rfl rfl rfl rfl rfl rfl rfl rfl rfl (by simp) rfl rfl rfl ⟨⟨Wv.refl _, trivial⟩, trivial⟩ (by simp [r_int_u8, rowF]) (by rw [r_int_u8_length, List.length_append]; exact h15) rfl ?_
          refine AL.v good (d := 0) (v := .sl (.own 2) 1 (r_int_u8 ((a0 ++ [(IntKind.u8.wrap (a1.kind))]) ++ [(IntKind.u8.wrap ((a1.t.length : Int)))]))) rfl rfl rfl rfl ?_
          refine AW.seq ?_
          refine AW.seq ?_
          refine AW.region (M := fun _ => true) ?_
          refine AL.v good (d := 6) (v := .int .i64 0) rfl rfl rfl rfl ?_
          refine AW.block ?_
          refine AW.lensB 3 rfl (fun hl22 => ?_)
          replace hl22 : a1.t.length ≤ 9223372036854775807 := by rw [← encs_length a1.t]; exact hl22.2.2.2.2.1
          refine AW.lpw (fun x : Nat × (List Int) × Nat => [(0, .sl (.own 2) 1 (r_int_u8 x.2.1)), (3, .ptr 3 0), (6, .int .i64 (x.2.2 : Int))]) (fun x => [(2, .row 5 1 (r_int_u8 x.2.1).length), (3, .box 33 [.int .i64 a1.kind, .int .i64 a1.i, .bool a1.b, .str a1.s, .sl .ro 5 (encs a1.t)])]) (fun x => s_f47_l1 x.1 a1 x.2.1 x.2.2 = some r ∧ x.1 ≤ n) (fun x => x.1) (n, ((a0 ++ [(IntKind.u8.wrap (a1.kind))]) ++ [(IntKind.u8.wrap ((a1.t.length : Int)))]), 0) ⟨(idsIn_sub rfl), List.forall_mem_cons.2 ⟨⟨⟨_, rfl, Wv.refl _⟩, (by simp [pureA, pureL, pureR, inA, inL, inR, inO, idsIn, encs_pure, enxs_pure, enys_pure, valC_pure, exC_pure, tyC_pure, r_int_u8_pure])⟩, List.forall_mem_cons.2 ⟨⟨⟨_, rfl, Wv.refl _⟩, (by simp [pureA, pureL, pureR, inA, inL, inR, inO, idsIn, encs_pure, enxs_pure, enys_pure, valC_pure, exC_pure, tyC_pure, r_int_u8_pure])⟩, List.forall_mem_cons.2 ⟨⟨⟨_, rfl, Wv.refl _⟩, (by simp [pureA, pureL, pureR, inA, inL, inR, inO, idsIn, encs_pure, enxs_pure, enys_pure, valC_pure, exC_pure, tyC_pure, r_int_u8_pure])⟩, (fun _ h => by cases h)⟩⟩⟩, List.forall_mem_cons.2 ⟨⟨⟨_, rfl, ⟨rfl, rfl, rfl⟩⟩, (by simp [pureA, pureL, pureR, inA, inL, inR, inO, idsIn, encs_pure, enxs_pure, enys_pure, valC_pure, exC_pure, tyC_pure, r_int_u8_pure])⟩, List.forall_mem_cons.2 ⟨⟨⟨_, rfl, ⟨rfl, ⟨Wv.refl _, Wv.refl _, Wv.refl _, Wv.refl _, Wv.refl _, trivial⟩⟩⟩, (by simp [pureA, pureL, pureR, inA, inL, inR, inO, idsIn, encs_pure, enxs_pure, enys_pure, valC_pure, exC_pure, tyC_pure, r_int_u8_pure])⟩, (fun _ h => by cases h)⟩⟩⟩ ⟨hr, Nat.le_refl _⟩ (fun ⟨m, v1_1, v1_2⟩ hx => ?_)
          obtain ⟨hr, hm⟩ := hx
          try dsimp only at hr hm
          cases m with
          | zero => rw [s_f47_l1] at hr; cases hr
          | succ m =>
            rw [s_f47_l1] at hr
            show AW Try.prog _ _ _ (mkS 67 [(0, .sl (.own 2) 1 (r_int_u8 v1_1)), (3, .ptr 3 0), (6, .int .i64 (v1_2 : Int))] [(2, .row 5 1 (r_int_u8 v1_1).length), (3, .box 33 [.int .i64 a1.kind, .int .i64 a1.i, .bool a1.b, .str a1.s, .sl .ro 5 (encs a1.t)])])
            refine AW.seq ?_
            refine AW.seq ?_
            refine AW.region (M := fun _ => true) ?_
            refine AL.v good (d := 52) (v := .int .i64 (v1_2 : Int)) rfl rfl rfl rfl ?_
            refine AL.v good (d := 53) (v := .ptr 3 4) rfl rfl rfl rfl ?_
            refine AL.v good (d := 54) (v := .sl .ro 5 (encs a1.t)) rfl rfl rfl rfl ?_
            refine AL.ln good (d := 55) (m := a1.t.length) rfl rfl rfl rfl rfl rfl (encs_length _) ?_
            refine AL.v good (d := 56) (v := .bool (decide ((v1_2 : Int) < (a1.t.length : Int)))) rfl rfl rfl rfl ?_
            refine AW.if rfl (fun h23 => ?_) (fun h23 => ?_)
            · replace hr := cnd_t h23 hr
              refine AW.skip ?_
              refine AW.seq ?_
              refine AW.block ?_
              refine AW.region (M := fun _ => true) ?_
              refine AL.v good (d := 59) (v := .sl (.own 2) 1 (r_int_u8 v1_1)) rfl rfl rfl rfl ?_
              refine AL.v good (d := 60) (v := .ptr 3 4) rfl rfl rfl rfl ?_
              refine AL.v good (d := 61) (v := .sl .ro 5 (encs a1.t)) rfl rfl rfl rfl ?_
              refine AL.v good (d := 62) (v := .int .i64 (v1_2 : Int)) rfl rfl rfl rfl ?_
              obtain ⟨x24, h25, hr⟩ := bnd1 hr
              refine AL.ix good (d := 63) (r := [.int .i64 x24.kind, .int .i64 x24.i, .bool x24.b, .str x24.s, .sl .ro 5 (encs x24.t)]) rfl rfl rfl rfl rfl rfl rfl (Int.natCast_nonneg _) (encs_get h25) ?_
              refine AL.v good (d := 64) (v := .agg [.int .i64 x24.kind, .int .i64 x24.i, .bool x24.b, .str x24.s, .sl .ro 5 (encs x24.t)]) rfl rfl rfl rfl ?_
              obtain ⟨q26, h27, hr⟩ := bnd1 hr
              refine AL.clW good (d := 65) (xs := [.sl (.own 2) 1 (r_int_u8 v1_1), .agg (valC x24)]) (rd := [(2, .row 5 1 (r_int_u8 v1_1).length)]) (up := [(2, .row 5 1 (r_int_u8 q26).length)]) (res := .sl (.own 2) 1 (r_int_u8 q26)) rfl rfl rfl rfl rfl rfl rfl (ih _ _ _ _ h27 (by omega)) ⟨(Wv.refl _), (Wv.refl _), trivial⟩ (List.forall_mem_cons.2 ⟨rfl, (fun _ h => by cases h)⟩) (List.forall_mem_cons.2 ⟨⟨_, .head _⟩, (fun _ h => by cases h)⟩) rfl rfl ?_
              refine AL.v good (d := 0) (v := .sl (.own 2) 1 (r_int_u8 q26)) rfl rfl rfl rfl ?_
              refine AW.region (M := fun _ => true) ?_
              refine AL.v good (d := 57) (v := .int .i64 (v1_2 : Int)) rfl rfl rfl rfl ?_
              refine AL.v good (d := 58) (v := .int .i64 (IntKind.i64.wrap ((v1_2 : Int) + 1))) rfl rfl rfl rfl ?_
              refine AL.v good (d := 6) (v := .int .i64 (IntKind.i64.wrap ((v1_2 : Int) + 1))) rfl rfl rfl rfl ?_
              exact ⟨(m, q26, (v1_2 + 1)), _, _, rfl, ⟨(idsIn_sub rfl), List.forall_mem_cons.2 ⟨⟨⟨_, rfl, Wv.refl _⟩, (by simp [pureA, pureL, pureR, inA, inL, inR, inO, idsIn, encs_pure, enxs_pure, enys_pure, valC_pure, exC_pure, tyC_pure, r_int_u8_pure])⟩, List.forall_mem_cons.2 ⟨⟨⟨_, rfl, Wv.refl _⟩, (by simp [pureA, pureL, pureR, inA, inL, inR, inO, idsIn, encs_pure, enxs_pure, enys_pure, valC_pure, exC_pure, tyC_pure, r_int_u8_pure])⟩, List.forall_mem_cons.2 ⟨⟨⟨_, rfl, (wnx h23 hl22)⟩, (by simp [pureA, pureL, pureR, inA, inL, inR, inO, idsIn, encs_pure, enxs_pure, enys_pure, valC_pure, exC_pure, tyC_pure, r_int_u8_pure])⟩, (fun _ h => by cases h)⟩⟩⟩, List.forall_mem_cons.2 ⟨⟨⟨_, rfl, ⟨rfl, rfl, rfl⟩⟩, (by simp [pureA, pureL, pureR, inA, inL, inR, inO, idsIn, encs_pure, enxs_pure, enys_pure, valC_pure, exC_pure, tyC_pure, r_int_u8_pure])⟩, List.forall_mem_cons.2 ⟨⟨⟨_, rfl, ⟨rfl, ⟨Wv.refl _, Wv.refl _, Wv.refl _, Wv.refl _, Wv.refl _, trivial⟩⟩⟩, (by simp [pureA, pureL, pureR, inA, inL, inR, inO, idsIn, encs_pure, enxs_pure, enys_pure, valC_pure, exC_pure, tyC_pure, r_int_u8_pure])⟩, (fun _ h => by cases h)⟩⟩⟩, ⟨hr, Nat.le_of_succ_le hm⟩, Nat.lt_succ_self _⟩
            · replace hr := cnd_f h23 hr
              refine AW.exit ?_
              refine AW.seq ?_
              refine AW.region (M := fun _ => true) ?_
              refine AL.v good (d := 66) (v := .sl (.own 2) 1 (r_int_u8 v1_1)) rfl rfl rfl rfl ?_
              refine AL.v good (d := 4) (v := .sl (.own 2) 1 (r_int_u8 v1_1)) rfl rfl rfl rfl ?_
              refine AW.ret ?_
              obtain rfl := Option.some.inj hr
              exact RetH.w good (.inr rfl) rfl rfl (Wv.refl _) (List.forall_mem_cons.2 ⟨rfl, (fun _ h => by cases h)⟩)
theorem w_f47_2 (n : Nat) : ∀ (a0 : List Int) (a1 : Val) (r : List Int) (hr : s_f47 n a0 a1 = some r), ACallH Try.prog 47 [.sl (.own 2) 1 (r_int_u8 a0), .agg (valC a1)] [(2, .row 5 1 (r_int_u8 a0).length)] [(2, .row 5 1 (r_int_u8 r).length)] (.sl (.own 2) 1 (r_int_u8 r)) := by
  induction n using Nat.strongRecOn with
  | _ n ih =>
    intro a0 a1 r hr
    exact w_f47_2_a n (fun m a0 a1 r h hm => ih m hm a0 a1 r h) a0 a1 r hr

def s_f10 (n : Nat) (a0 : Val) (a1 : List Int) : Option Bool :=
  ((s_f45 n).bind fun q1 => (bif (!q1) then some false else ((s_f18 n a0).bind fun q4 => (bif ((!q4) || (decide ((a1.length : Int) > 50))) then some true else (if a1.length ≤ 1000000 then ((s_f46 n a1 a0).bind fun q10 => (if a1.length ≤ 1000000 then ((s_f22 n a0).bind fun q13 => ((s_f47 n a1 q13).bind fun q15 => (bif ((strOfNums q10).data.toList != (strOfNums q15).data.toList) then some false else (if a1.length ≤ q10.length then (if (q10.drop a1.length).length ≤ 1000000 then (if (q10.drop a1.length).length + a1.length ≤ 1000000 then ((s_f48 n ((q10.drop a1.length) ++ a1)).bind fun q21 => some (((q21.2.2 == 0) && (cmpV q21.1 a0 == 0)) && (q21.2.1 == (IntKind.i64.wrap ((q10.length : Int) - (a1.length : Int)))))) else none) else none) else none)))) else none)) else none)))))

theorem w_f10 (n : Nat) (a0 : Val) (a1 : List Int) (r : Bool) (hr : s_f10 n a0 a1 = some r) : ACall Try.prog 10 [.agg (valC a0), .sl .ro 1 (r_int_u8 a1)] (.bool r) := by
  refine ACall.go [(0, .agg (valC a0)), (1, .sl .ro 1 (r_int_u8 a1))] Try.func10 rfl Try.ntmps10 rfl rfl (by simp [pureA, pureL, pureR, inA, inL, inR, inO, idsIn, encs_pure, enxs_pure, enys_pure, valC_pure, exC_pure, tyC_pure, r_int_u8_pure]) ?_
  rw [s_f10] at hr
  refine AW.seq ?_
  refine AW.region (M := fun _ => true) ?_
  refine AL.bx good (d := 2) (l := [.int .i64 a0.kind, .int .i64 a0.i, .bool a0.b, .str a0.s, .sl .ro 5 (encs a0.t)]) rfl rfl rfl rfl rfl rfl 0 rfl ?_
  refine AL.v good (d := 4) (v := .bool false) rfl rfl rfl rfl ?_
  refine AW.seq ?_
  refine AW.seq ?_
  refine AW.region (M := fun _ => true) ?_
  obtain ⟨q1, h2, hr⟩ := bnd1 hr
  refine AL.cw good (d := 10) (xs := []) (res := .bool q1) rfl rfl rfl rfl rfl rfl rfl (w_f45 _ _ h2) trivial (by simp [pureA, pureL, pureR, inA, inL, inR, inO, idsIn, encs_pure, enxs_pure, enys_pure, valC_pure, exC_pure, tyC_pure, r_int_u8_pure]) ?_
  refine AL.v good (d := 11) (v := .bool (!q1)) rfl rfl rfl rfl ?_
  refine AW.if rfl (fun h3 => ?_) (fun h3 => ?_)
  · replace hr := cnd_t h3 hr
    refine AW.seq ?_
    refine AW.region (M := fun _ => true) ?_
    refine AL.v good (d := 4) (v := .bool false) rfl rfl rfl rfl ?_
    refine AW.ret ?_
    obtain rfl := Option.some.inj hr
    exact RetQ.w good (.inr rfl) rfl rfl (Wv.refl _) (by simp [pureA, pureL, pureR, inA, inL, inR, inO, idsIn, encs_pure, enxs_pure, enys_pure, valC_pure, exC_pure, tyC_pure, r_int_u8_pure])
  · replace hr := cnd_f h3 hr
    refine AW.skip ?_
    refine AW.seq ?_
    refine AW.seq ?_
    refine AW.region (M := fun _ => true) ?_
    refine AL.v good (d := 12) (v := .agg [.int .i64 a0.kind, .int .i64 a0.i, .bool a0.b, .str a0.s, .sl .ro 5 (encs a0.t)]) rfl rfl rfl rfl ?_
    obtain ⟨q4, h5, hr⟩ := bnd1 hr
    refine AL.cw good (d := 13) (xs := [.agg (valC a0)]) (res := .bool q4) rfl rfl rfl rfl rfl rfl rfl (w_f18 _ _ _ h5) ⟨(Wv.refl _), trivial⟩ (by simp [pureA, pureL, pureR, inA, inL, inR, inO, idsIn, encs_pure, enxs_pure, enys_pure, valC_pure, exC_pure, tyC_pure, r_int_u8_pure]) ?_
    refine AL.v good (d := 14) (v := .bool (!q4)) rfl rfl rfl rfl ?_
    refine AL.vb good (d := 15) (b := (!q4)) rfl rfl rfl rfl (fun g6 h7 => ?_)
    refine AL.gv good (d := 16) (c := (!g6)) (v := .sl .ro 1 (r_int_u8 a1)) (rd := []) rfl rfl (by cases g6 <;> rfl) (fun h => by cases g6 <;> first | rfl | exact absurd h (by decide)) ?_
    refine AL.gln good (d := 17) (c := (!g6)) (m := a1.length) rfl rfl (by cases g6 <;> rfl) rfl rfl (fun h => by cases g6 <;> first | rfl | exact absurd h (by decide)) (r_int_u8_length _) ?_
    refine AL.gv good (d := 18) (c := (!g6)) (v := .bool (decide ((a1.length : Int) > 50))) (rd := []) rfl rfl (by cases g6 <;> rfl) (fun h => by cases g6 <;> first | rfl | exact absurd h (by decide)) ?_
    refine AL.v good (d := 19) (v := .bool (g6 || (decide ((a1.length : Int) > 50)))) (rd := []) rfl rfl rfl (by cases g6 <;> rfl) ?_
    subst h7
    refine AW.if rfl (fun h8 => ?_) (fun h8 => ?_)
    · replace hr := cnd_t h8 hr
      refine AW.seq ?_
      refine AW.region (M := fun _ => true) ?_
      refine AL.v good (d := 4) (v := .bool true) rfl rfl rfl rfl ?_
      refine AW.ret ?_
      obtain rfl := Option.some.inj hr
      exact RetQ.w good (.inr rfl) rfl rfl (Wv.refl _) (by simp [pureA, pureL, pureR, inA, inL, inR, inO, idsIn, encs_pure, enxs_pure, enys_pure, valC_pure, exC_pure, tyC_pure, r_int_u8_pure])
    · replace hr := cnd_f h8 hr
      refine AW.skip ?_
      refine AW.seq ?_
      refine AW.drawc (M := fun i => ⟨Nat.beq i 2 || Nat.beq i 4, bif Nat.beq i 2 then some [1] else bif Nat.beq i 3 then some [0] else bif Nat.beq i 4 then some [1] else none⟩) good.wide (by kernel_rfl) ?_
      refine AL.lit (nc := ⟨rfl⟩) good (d := 20) (rows := []) rfl rfl rfl rfl rfl rfl rfl rfl rfl 1 rfl ?_
      refine AL.v (nc := ⟨rfl⟩) good (d := 21) (v := .sl .ro 1 (r_int_u8 a1)) rfl rfl rfl rfl ?_
      obtain ⟨h9, hr⟩ := grd hr
      refine AL.aw2c good (d := 22) (rows := r_int_u8 []) (news := r_int_u8 a1) (rows2 := r_int_u8 a1) rfl rfl rfl rfl rfl rfl rfl rfl rfl (by simp) rfl rfl rfl rfl (WvR.refl _) (by simp [r_int_u8, rowF]) (by rw [r_int_u8_length]; exact h9) rfl ?_
      refine AL.vc good (d := 23) (v := .agg [.int .i64 a0.kind, .int .i64 a0.i, .bool a0.b, .str a0.s, .sl .ro 5 (encs a0.t)]) rfl rfl rfl rfl rfl (List.forall_mem_cons.2 ⟨.head _, (fun _ h => by cases h)⟩) ?_
      obtain ⟨q10, h11, hr⟩ := bnd1 hr
      refine AL.clWc good (d := 24) (xs := [.sl (.own 1) 1 (r_int_u8 a1), .agg (valC a0)]) (rd := [(1, .row 5 1 (r_int_u8 a1).length)]) (up := [(1, .row 5 1 (r_int_u8 q10).length)]) (res := .sl (.own 1) 1 (r_int_u8 q10)) rfl rfl rfl rfl rfl rfl rfl (w_f46_1 _ _ _ _ h11) ⟨(Wv.refl _), (Wv.refl _), trivial⟩ (List.forall_mem_cons.2 ⟨rfl, (fun _ h => by cases h)⟩) (List.forall_mem_cons.2 ⟨⟨_, .head _⟩, (fun _ h => by cases h)⟩) rfl rfl rfl ⟨(List.forall_mem_cons.2 ⟨.head _, (fun _ h => by cases h)⟩), (List.forall_mem_cons.2 ⟨.head _, (fun _ h => by cases h)⟩)⟩ ?_
      refine AL.v (nc := ⟨rfl⟩) good (d := 5) (v := .sl (.own 1) 1 (r_int_u8 q10)) rfl rfl rfl rfl ?_
      refine AW.seq ?_
      refine AW.drawc (M := fun i => ⟨Nat.beq i 2 || Nat.beq i 5, bif Nat.beq i 2 then some [2] else bif Nat.beq i 3 then some [0] else bif Nat.beq i 5 then some [2] else none⟩) good.wide (by kernel_rfl) ?_
      refine AL.lit (nc := ⟨rfl⟩) good (d := 25) (rows := []) rfl rfl rfl rfl rfl rfl rfl rfl rfl 2 rfl ?_
      refine AL.v (nc := ⟨rfl⟩) good (d := 26) (v := .sl .ro 1 (r_int_u8 a1)) rfl rfl rfl rfl ?_
      obtain ⟨h12, hr⟩ := grd hr
      refine AL.aw2c good (d := 27) (rows := r_int_u8 []) (news := r_int_u8 a1) (rows2 := r_int_u8 a1) rfl rfl rfl rfl rfl rfl rfl rfl rfl (by simp) rfl rfl rfl rfl (WvR.refl _) (by simp [r_int_u8, rowF]) (by rw [r_int_u8_length]; exact h12) rfl ?_
      refine AL.vc good (d := 28) (v := .agg [.int .i64 a0.kind, .int .i64 a0.i, .bool a0.b, .str a0.s, .sl .ro 5 (encs a0.t)]) rfl rfl rfl rfl rfl (List.forall_mem_cons.2 ⟨.head _, (fun _ h => by cases h)⟩) ?_
      obtain ⟨q13, h14, hr⟩ := bnd1 hr
      refine AL.cw (nc := ⟨rfl⟩) good (d := 29) (xs := [.agg (valC a0)]) (res := .agg [.int .i64 q13.kind, .int .i64 q13.i, .bool q13.b, .str q13.s, .sl .ro 5 (encs q13.t)]) rfl rfl rfl rfl rfl rfl rfl (w_f22 _ _ _ h14) ⟨(Wv.refl _), trivial⟩ (by simp [pureA, pureL, pureR, inA, inL, inR, inO, idsIn, encs_pure, enxs_pure, enys_pure, valC_pure, exC_pure, tyC_pure, r_int_u8_pure]) ?_
      obtain ⟨q15, h16, hr⟩ := bnd1 hr
      refine AL.clWc good (d := 30) (xs := [.sl (.own 2) 1 (r_int_u8 a1), .agg (valC q13)]) (rd := [(2, .row 5 1 (r_int_u8 a1).length)]) (up := [(2, .row 5 1 (r_int_u8 q15).length)]) (res := .sl (.own 2) 1 (r_int_u8 q15)) rfl rfl rfl rfl rfl rfl rfl (w_f47_2 _ _ _ _ h16) ⟨(Wv.refl _), (Wv.refl _), trivial⟩ (List.forall_mem_cons.2 ⟨rfl, (fun _ h => by cases h)⟩) (List.forall_mem_cons.2 ⟨⟨_, .head _⟩, (fun _ h => by cases h)⟩) rfl rfl rfl ⟨(List.forall_mem_cons.2 ⟨.head _, (fun _ h => by cases h)⟩), (List.forall_mem_cons.2 ⟨.head _, (fun _ h => by cases h)⟩)⟩ ?_
      refine AL.v (nc := ⟨rfl⟩) good (d := 6) (v := .sl (.own 2) 1 (r_int_u8 q15)) rfl rfl rfl rfl ?_
      refine AW.seq ?_
      refine AW.seq ?_
      refine AW.region (M := fun _ => true) ?_
      refine AL.v good (d := 31) (v := .sl (.own 1) 1 (r_int_u8 q10)) rfl rfl rfl rfl ?_
      refine AL.tos good (d := 32) (l := q10) rfl rfl rfl rfl rfl rfl rfl rfl (bytesA_rw _) ?_
      refine AL.v good (d := 33) (v := .sl (.own 2) 1 (r_int_u8 q15)) rfl rfl rfl rfl ?_
      refine AL.tos good (d := 34) (l := q15) rfl rfl rfl rfl rfl rfl rfl rfl (bytesA_rw _) ?_
      refine AL.sb good (d := 35) (b := ((strOfNums q10).data.toList != (strOfNums q15).data.toList)) rfl rfl rfl rfl rfl rfl rfl ?_
      refine AW.if rfl (fun h17 => ?_) (fun h17 => ?_)
      · replace hr := cnd_t h17 hr
        refine AW.seq ?_
        refine AW.region (M := fun _ => true) ?_
        refine AL.v good (d := 4) (v := .bool false) rfl rfl rfl rfl ?_
        refine AW.ret ?_
        obtain rfl := Option.some.inj hr
        exact RetQ.w good (.inr rfl) rfl rfl (Wv.refl _) (by simp [pureA, pureL, pureR, inA, inL, inR, inO, idsIn, encs_pure, enxs_pure, enys_pure, valC_pure, exC_pure, tyC_pure, r_int_u8_pure])
      · replace hr := cnd_f h17 hr
        refine AW.skip ?_
        refine AW.seq ?_
        refine AW.region (M := fun _ => true) ?_
        refine AL.lit good (d := 37) (rows := []) rfl rfl rfl rfl rfl rfl rfl rfl rfl 3 rfl ?_
        refine AL.v good (d := 38) (v := .sl (.own 1) 1 (r_int_u8 q10)) rfl rfl rfl rfl ?_
        refine AL.v good (d := 39) (v := .sl .ro 1 (r_int_u8 a1)) rfl rfl rfl rfl ?_
        refine AL.ln good (d := 40) (m := a1.length) rfl rfl rfl rfl rfl rfl (r_int_u8_length _) ?_
        obtain ⟨h18, hr⟩ := grd hr
        refine AL.sc good (d := 41) (rows := r_int_u8 q10) (rows2 := r_int_u8 (q10.drop a1.length)) (m := q10.length) (l := a1.length) (h := q10.length) rfl rfl rfl rfl rfl rfl rfl (r_int_u8_length _) rfl (bndT rfl h18) (by exact rowF_drop _ _ _) ?_
        obtain ⟨h19, hr⟩ := grd hr
        refine AL.aw2 good (d := 42) (rows := r_int_u8 []) (news := r_int_u8 (q10.drop a1.length)) (rows2 := r_int_u8 (q10.drop a1.length)) rfl rfl rfl rfl rfl rfl rfl rfl rfl (by simp) rfl rfl rfl (WvR.refl _) (by simp [r_int_u8, rowF]) (by rw [r_int_u8_length]; exact h19) rfl ?_
        refine AL.v good (d := 43) (v := .sl .ro 1 (r_int_u8 a1)) rfl rfl rfl rfl ?_
        obtain ⟨h20, hr⟩ := grd hr
        refine AL.aw2 good (d := 44) (rows := r_int_u8 (q10.drop a1.length)) (news := r_int_u8 a1) (rows2 := r_int_u8 ((q10.drop a1.length) ++ a1)) rfl rfl rfl rfl rfl rfl rfl rfl rfl (by simp) rfl rfl rfl (WvR.refl _) (by simp [r_int_u8, rowF]) (by rw [r_int_u8_length, List.length_append]; exact h20) rfl ?_
        obtain ⟨q21, h22, hr⟩ := bnd1 hr
        refine AL.cw good (d := 45) (xs := [.sl .ro 1 (r_int_u8 ((q10.drop a1.length) ++ a1))]) (res := .tup [.agg [.int .i64 q21.1.kind, .int .i64 q21.1.i, .bool q21.1.b, .str q21.1.s, .sl .ro 5 (encs q21.1.t)], .int .i64 q21.2.1, .int .i64 q21.2.2]) rfl rfl rfl rfl rfl rfl rfl (w_f48 _ _ _ h22) ⟨⟨.inr rfl, WvR.refl _, .inl rfl⟩, trivial⟩ (by simp [pureA, pureL, pureR, inA, inL, inR, inO, idsIn, encs_pure, enxs_pure, enys_pure, valC_pure, exC_pure, tyC_pure, r_int_u8_pure]) ?_
        refine AL.v good (d := 36) (v := .tup [.agg [.int .i64 q21.1.kind, .int .i64 q21.1.i, .bool q21.1.b, .str q21.1.s, .sl .ro 5 (encs q21.1.t)], .int .i64 q21.2.1, .int .i64 q21.2.2]) rfl rfl rfl rfl ?_
        refine AL.v good (d := 46) (v := .agg [.int .i64 q21.1.kind, .int .i64 q21.1.i, .bool q21.1.b, .str q21.1.s, .sl .ro 5 (encs q21.1.t)]) rfl rfl rfl rfl ?_
        refine AL.v good (d := 47) (v := .int .i64 q21.2.1) rfl rfl rfl rfl ?_
        refine AL.v good (d := 48) (v := .int .i64 q21.2.2) rfl rfl rfl rfl ?_
        refine AL.alc good (d := 7) rfl rfl rfl rfl rfl 4 rfl ?_
        refine AL.st2 good (c2 := [.int .i64 q21.1.kind, .int .i64 q21.1.i, .bool q21.1.b, .str q21.1.s, .sl .ro 5 (encs q21.1.t)]) rfl rfl rfl rfl rfl rfl rfl rfl rfl rfl rfl rfl ?_
        refine AL.v good (d := 8) (v := .int .i64 q21.2.1) rfl rfl rfl rfl ?_
        refine AL.v good (d := 9) (v := .int .i64 q21.2.2) rfl rfl rfl rfl ?_
        refine AW.seq ?_
        refine AW.region (M := fun _ => true) ?_
        refine AL.v good (d := 49) (v := .int .i64 q21.2.2) rfl rfl rfl rfl ?_
        refine AL.v good (d := 50) (v := .bool (q21.2.2 == 0)) rfl rfl rfl rfl ?_
        refine AL.vb good (d := 51) (b := (q21.2.2 == 0)) rfl rfl rfl rfl (fun g23 h24 => ?_)
        refine AL.gv good (d := 52) (c := g23) (v := .agg [.int .i64 q21.1.kind, .int .i64 q21.1.i, .bool q21.1.b, .str q21.1.s, .sl .ro 5 (encs q21.1.t)]) (rd := [(4, .box 24 [.int .i64 q21.1.kind, .int .i64 q21.1.i, .bool q21.1.b, .str q21.1.s, .sl .ro 5 (encs q21.1.t)])]) rfl rfl (by cases g23 <;> rfl) (fun h => by cases g23 <;> first | rfl | exact absurd h (by decide)) ?_
        refine AL.gv good (d := 53) (c := g23) (v := .agg [.int .i64 a0.kind, .int .i64 a0.i, .bool a0.b, .str a0.s, .sl .ro 5 (encs a0.t)]) (rd := [(0, .box 24 [.int .i64 a0.kind, .int .i64 a0.i, .bool a0.b, .str a0.s, .sl .ro 5 (encs a0.t)])]) rfl rfl (by cases g23 <;> rfl) (fun h => by cases g23 <;> first | rfl | exact absurd h (by decide)) ?_
        refine AL.gcw good (d := 54) (c := g23) (aw := [.agg [.int .i64 q21.1.kind, .int .i64 q21.1.i, .bool q21.1.b, .str q21.1.s, .sl .ro 5 (encs q21.1.t)], .agg [.int .i64 a0.kind, .int .i64 a0.i, .bool a0.b, .str a0.s, .sl .ro 5 (encs a0.t)]]) (xs := [.agg (valC q21.1), .agg (valC a0)]) (res := .bool (cmpV q21.1 a0 == 0)) rfl rfl (by cases g23 <;> rfl) rfl rfl rfl (fun h => by cases g23 <;> first | rfl | exact absurd h (by decide)) (w35 q21.1 a0) ⟨(Wv.refl _), (Wv.refl _), trivial⟩ (by simp [pureA, pureL, pureR, inA, inL, inR, inO, idsIn, encs_pure, enxs_pure, enys_pure, valC_pure, exC_pure, tyC_pure, r_int_u8_pure]) ?_
        refine AL.v good (d := 55) (v := .bool (g23 && (cmpV q21.1 a0 == 0))) (rd := []) rfl rfl rfl (by cases g23 <;> rfl) ?_
        refine AL.vb good (d := 56) (b := (g23 && (cmpV q21.1 a0 == 0))) rfl rfl rfl rfl (fun g25 h26 => ?_)
        refine AL.gv good (d := 57) (c := g25) (v := .int .i64 q21.2.1) (rd := []) rfl rfl (by cases g25 <;> rfl) (fun h => by cases g25 <;> first | rfl | exact absurd h (by decide)) ?_
        refine AL.gv good (d := 58) (c := g25) (v := .sl (.own 1) 1 (r_int_u8 q10)) (rd := []) rfl rfl (by cases g25 <;> rfl) (fun h => by cases g25 <;> first | rfl | exact absurd h (by decide)) ?_
        refine AL.gln good (d := 59) (c := g25) (m := q10.length) rfl rfl (by cases g25 <;> rfl) rfl rfl (fun h => by cases g25 <;> first | rfl | exact absurd h (by decide)) (r_int_u8_length _) ?_
        refine AL.gv good (d := 60) (c := g25) (v := .sl .ro 1 (r_int_u8 a1)) (rd := []) rfl rfl (by cases g25 <;> rfl) (fun h => by cases g25 <;> first | rfl | exact absurd h (by decide)) ?_
        refine AL.gln good (d := 61) (c := g25) (m := a1.length) rfl rfl (by cases g25 <;> rfl) rfl rfl (fun h => by cases g25 <;> first | rfl | exact absurd h (by decide)) (r_int_u8_length _) ?_
        refine AL.gv good (d := 62) (c := g25) (v := .int .i64 (IntKind.i64.wrap ((q10.length : Int) - (a1.length : Int)))) (rd := []) rfl rfl (by cases g25 <;> rfl) (fun h => by cases g25 <;> first | rfl | exact absurd h (by decide)) ?_
        refine AL.gv good (d := 63) (c := g25) (v := .bool (q21.2.1 == (IntKind.i64.wrap ((q10.length : Int) - (a1.length : Int))))) (rd := []) rfl rfl (by cases g25 <;> rfl) (fun h => by cases g25 <;> first | rfl | exact absurd h (by decide)) ?_
        refine AL.v good (d := 64) (v := .bool (g25 && (q21.2.1 == (IntKind.i64.wrap ((q10.length : Int) - (a1.length : Int)))))) (rd := []) rfl rfl rfl (by cases g25 <;> rfl) ?_
        refine AL.v good (d := 4) (v := .bool (g25 && (q21.2.1 == (IntKind.i64.wrap ((q10.length : Int) - (a1.length : Int)))))) rfl rfl rfl rfl ?_
        subst h24 h26
        refine AW.ret ?_
        obtain rfl := Option.some.inj hr
        exact RetQ.w good (.inr rfl) rfl rfl (Wv.refl _) (by simp [pureA, pureL, pureR, inA, inL, inR, inO, idsIn, encs_pure, enxs_pure, enys_pure, valC_pure, exC_pure, tyC_pure, r_int_u8_pure])

end Go.Proofs.Ytbcjcekoonebiaa.Tl
