/- Definitions and walks: laws of bytes. Conditions: none. -/
import Derived.Test.YtbcjcekoonebiaaTlYe
import Derived.Test.YtbcjcekoonebiaaTlXe
set_option linter.unusedVariables false
set_option linter.unusedSimpArgs false
namespace Go.Proofs.Ytbcjcekoonebiaa.Tl
open Go Go.RowKit




theorem w_f80_0 (n : Nat) (a0 : List Int) (a1 : ByteArray) (r : List Int) (hr : s_f80 n a0 a1 = some r) : ACallH Try.prog 80 [.sl (.own 0) 1 (r_int_u8 a0), .str a1] [(0, .row 5 1 (r_int_u8 a0).length)] [(0, .row 5 1 (r_int_u8 r).length)] (.sl (.own 0) 1 (r_int_u8 r)) := by
  refine ACallH.go [(0, .sl (.own 0) 1 (r_int_u8 a0)), (1, .str a1)] [(0, .row 5 1 (r_int_u8 a0).length)] Try.func80 rfl Try.ntmps80 rfl rfl rfl (by simp [pureA, pureL, pureR, inA, inL, inR, inO, idsIn, encs_pure, enxs_pure, enys_pure, valC_pure, exC_pure, tyC_pure, r_int_u8_pure]) (List.forall_mem_cons.2 ⟨(by simp [pureA, pureL, pureR, inA, inL, inR, inO, idsIn, encs_pure, enxs_pure, enys_pure, valC_pure, exC_pure, tyC_pure, r_int_u8_pure]), (fun _ h => by cases h)⟩) (List.forall_mem_cons.2 ⟨⟨rfl, (by simp [pureA, pureL, pureR, inA, inL, inR, inO, idsIn, encs_pure, enxs_pure, enys_pure, valC_pure, exC_pure, tyC_pure, r_int_u8_pure])⟩, (fun _ h => by cases h)⟩) (by simp [pureA, pureL, pureR, inA, inL, inR, inO, idsIn, encs_pure, enxs_pure, enys_pure, valC_pure, exC_pure, tyC_pure, r_int_u8_pure]) ?_
  rw [s_f80] at hr
  refine AW.seq ?_
  refine AW.region (M := fun _ => true) ?_
  refine AL.v good (d := 4) (v := .sl .nil 0 []) rfl rfl rfl rfl ?_
  refine AW.seq ?_
  refine AW.region (M := fun _ => true) ?_
  refine AL.v good (d := 5) (v := .sl (.own 0) 1 (r_int_u8 a0)) rfl rfl rfl rfl ?_
  refine AL.v good (d := 6) (v := .str a1) rfl rfl rfl rfl ?_
  refine AL.v good (d := 7) (v := .int .i64 (a1.size : Int)) rfl rfl rfl rfl ?_
  refine AL.v good (d := 8) (v := .int .u64 (IntKind.u64.wrap ((a1.size : Int)))) rfl rfl rfl rfl ?_
  obtain ⟨q1, h2, hr⟩ := bnd1 hr
  refine AL.clW good (d := 9) (xs := [.sl (.own 0) 1 (r_int_u8 a0), .int .u64 (IntKind.u64.wrap ((a1.size : Int)))]) (rd := [(0, .row 5 1 (r_int_u8 a0).length)]) (up := [(0, .row 5 1 (r_int_u8 q1).length)]) (res := .sl (.own 0) 1 (r_int_u8 q1)) rfl rfl rfl rfl rfl rfl rfl (w_f49_0 _ _ _ _ h2) ⟨(Wv.refl _), (Wv.refl _), trivial⟩ (List.forall_mem_cons.2 ⟨rfl, (fun _ h => by cases h)⟩) (List.forall_mem_cons.2 ⟨⟨_, .head _⟩, (fun _ h => by cases h)⟩) rfl rfl ?_
  refine AL.v good (d := 10) (v := .str a1) rfl rfl rfl rfl ?_
  obtain ⟨h3, hr⟩ := grd hr
  refine AL.apS good (d := 11) (rows := r_int_u8 q1) (rows2 := r_int_u8 (q1 ++ (bI8 a1))) rfl rfl rfl rfl rfl (by kernel_rfl) rfl rfl rfl rfl rfl (bR8_eq _ _) (by rw [r_int_u8_length, List.length_append, bI8_length]; exact h3) ?_
  refine AL.v good (d := 4) (v := .sl (.own 0) 1 (r_int_u8 (q1 ++ (bI8 a1)))) rfl rfl rfl rfl ?_
  refine AW.ret ?_
  obtain rfl := Option.some.inj hr
  exact RetH.w good (.inr rfl) rfl rfl (Wv.refl _) (List.forall_mem_cons.2 ⟨rfl, (fun _ h => by cases h)⟩)


theorem w_f46_0_a (n : Nat) (ih : ∀ (m : Nat) (a0 : List Int) (a1 : Val) (r : List Int), s_f46 m a0 a1 = some r → m < n → ACallH Try.prog 46 [.sl (.own 0) 1 (r_int_u8 a0), .agg (valC a1)] [(0, .row 5 1 (r_int_u8 a0).length)] [(0, .row 5 1 (r_int_u8 r).length)] (.sl (.own 0) 1 (r_int_u8 r))) (a0 : List Int) (a1 : Val) (r : List Int) (hr : s_f46 n a0 a1 = some r) : ACallH Try.prog 46 [.sl (.own 0) 1 (r_int_u8 a0), .agg (valC a1)] [(0, .row 5 1 (r_int_u8 a0).length)] [(0, .row 5 1 (r_int_u8 r).length)] (.sl (.own 0) 1 (r_int_u8 r)) := by
  refine ACallH.go [(0, .sl (.own 0) 1 (r_int_u8 a0)), (1, .agg (valC a1))] [(0, .row 5 1 (r_int_u8 a0).length)] Try.func46 rfl Try.ntmps46 rfl rfl rfl (by simp [pureA, pureL, pureR, inA, inL, inR, inO, idsIn, encs_pure, enxs_pure, enys_pure, valC_pure, exC_pure, tyC_pure, r_int_u8_pure]) (List.forall_mem_cons.2 ⟨(by simp [pureA, pureL, pureR, inA, inL, inR, inO, idsIn, encs_pure, enxs_pure, enys_pure, valC_pure, exC_pure, tyC_pure, r_int_u8_pure]), (fun _ h => by cases h)⟩) (List.forall_mem_cons.2 ⟨⟨rfl, (by simp [pureA, pureL, pureR, inA, inL, inR, inO, idsIn, encs_pure, enxs_pure, enys_pure, valC_pure, exC_pure, tyC_pure, r_int_u8_pure])⟩, (fun _ h => by cases h)⟩) (by simp [pureA, pureL, pureR, inA, inL, inR, inO, idsIn, encs_pure, enxs_pure, enys_pure, valC_pure, exC_pure, tyC_pure, r_int_u8_pure]) ?_
  cases n with
  | zero => rw [s_f46] at hr; cases hr
  | succ n =>
    rw [s_f46] at hr
    refine AW.seq ?_
    refine AW.region (M := fun _ => true) ?_
    refine AL.bx good (d := 3) (l := [.int .i64 a1.kind, .int .i64 a1.i, .bool a1.b, .str a1.s, .sl .ro 5 (encs a1.t)]) rfl rfl rfl rfl rfl rfl 1 rfl ?_
    refine AL.v good (d := 4) (v := .sl .nil 0 []) rfl rfl rfl rfl ?_
    refine AW.seq ?_
    refine AW.region (M := fun _ => true) ?_
    refine AL.v good (d := 7) (v := .sl (.own 0) 1 (r_int_u8 a0)) rfl rfl rfl rfl ?_
    refine AL.v good (d := 8) (v := .ptr 1 0) rfl rfl rfl rfl ?_
    refine AL.v good (d := 9) (v := .int .i64 a1.kind) rfl rfl rfl rfl ?_
    refine AL.v good (d := 10) (v := .int .u8 (IntKind.u8.wrap (a1.kind))) rfl rfl rfl rfl ?_
    refine AL.lit good (d := 11) (rows := [[.int .u8 (IntKind.u8.wrap (a1.kind))]]) rfl rfl rfl rfl rfl rfl rfl rfl rfl 2 rfl ?_
    obtain ⟨h1, hr⟩ := grd hr
    refine AL.aw2 good (d := 12) (rows := r_int_u8 a0) (news := [[.int .u8 (IntKind.u8.wrap (a1.kind))]]) (rows2 := r_int_u8 (a0 ++ [(IntKind.u8.wrap (a1.kind))])) rfl rfl rfl rfl rfl rfl rfl rfl rfl (by simp) rfl rfl rfl ⟨⟨Wv.refl _, trivial⟩, trivial⟩ (by simp [r_int_u8, rowF]) (by rw [r_int_u8_length, List.length_append]; exact h1) rfl ?_
    refine AL.v good (d := 0) (v := .sl (.own 0) 1 (r_int_u8 (a0 ++ [(IntKind.u8.wrap (a1.kind))]))) rfl rfl rfl rfl ?_
    refine AW.seq ?_
    refine AW.seq ?_
    refine AW.region (M := fun _ => true) ?_
    refine AL.v good (d := 13) (v := .ptr 1 0) rfl rfl rfl rfl ?_
    refine AL.v good (d := 14) (v := .int .i64 a1.kind) rfl rfl rfl rfl ?_
    refine AW.block ?_
    refine AW.seq ?_
    refine AW.region (M := fun _ => true) ?_
    refine AL.v good (d := 16) (v := .bool (a1.kind == 1)) rfl rfl rfl rfl ?_
    refine AL.v good (d := 15) (v := .bool (a1.kind == 1)) rfl rfl rfl rfl ?_
    refine AW.if rfl (fun h2 => ?_) (fun h2 => ?_)
    · replace hr := cnd_t h2 hr
      refine AW.seq ?_
      refine AW.region (M := fun _ => true) ?_
      refine AL.v good (d := 17) (v := .sl (.own 0) 1 (r_int_u8 (a0 ++ [(IntKind.u8.wrap (a1.kind))]))) rfl rfl rfl rfl ?_
      refine AL.v good (d := 18) (v := .ptr 1 1) rfl rfl rfl rfl ?_
      refine AL.v good (d := 19) (v := .int .i64 a1.i) rfl rfl rfl rfl ?_
      refine AL.v good (d := 20) (v := .int .u64 (IntKind.u64.wrap (a1.i))) rfl rfl rfl rfl ?_
      refine AL.v good (d := 21) (v := .int .u64 (IntKind.u64.wrap ((IntKind.u64.wrap (a1.i)) * 2 ^ 1))) rfl rfl rfl rfl ?_
      refine AL.v good (d := 22) (v := .ptr 1 1) rfl rfl rfl rfl ?_
      refine AL.v good (d := 23) (v := .int .i64 a1.i) rfl rfl rfl rfl ?_
      refine AL.v good (d := 24) (v := .int .i64 (a1.i.fdiv (2 ^ 63))) rfl rfl rfl rfl ?_
      refine AL.v good (d := 25) (v := .int .u64 (IntKind.u64.wrap ((a1.i.fdiv (2 ^ 63))))) rfl rfl rfl rfl ?_
      refine AL.v good (d := 26) (v := .int .u64 (bits .xor .u64 (IntKind.u64.wrap ((IntKind.u64.wrap (a1.i)) * 2 ^ 1)) (IntKind.u64.wrap ((a1.i.fdiv (2 ^ 63)))))) rfl rfl rfl rfl ?_
      obtain ⟨q3, h4, hr⟩ := bnd1 hr
      refine AL.clW good (d := 27) (xs := [.sl (.own 0) 1 (r_int_u8 (a0 ++ [(IntKind.u8.wrap (a1.kind))])), .int .u64 (bits .xor .u64 (IntKind.u64.wrap ((IntKind.u64.wrap (a1.i)) * 2 ^ 1)) (IntKind.u64.wrap ((a1.i.fdiv (2 ^ 63)))))]) (rd := [(0, .row 5 1 (r_int_u8 (a0 ++ [(IntKind.u8.wrap (a1.kind))])).length)]) (up := [(0, .row 5 1 (r_int_u8 q3).length)]) (res := .sl (.own 0) 1 (r_int_u8 q3)) rfl rfl rfl rfl rfl rfl rfl (w_f49_0 _ _ _ _ h4) ⟨(Wv.refl _), (Wv.refl _), trivial⟩ (List.forall_mem_cons.2 ⟨rfl, (fun _ h => by cases h)⟩) (List.forall_mem_cons.2 ⟨⟨_, .head _⟩, (fun _ h => by cases h)⟩) rfl rfl ?_
      refine AL.v good (d := 4) (v := .sl (.own 0) 1 (r_int_u8 q3)) rfl rfl rfl rfl ?_
      refine AW.ret ?_
      obtain rfl := Option.some.inj hr
      exact RetH.w good (.inr rfl) rfl rfl (Wv.refl _) (List.forall_mem_cons.2 ⟨rfl, (fun _ h => by cases h)⟩)
    · replace hr := cnd_f h2 hr
      refine AW.seq ?_
      refine AW.region (M := fun _ => true) ?_
      refine AL.v good (d := 29) (v := .bool (a1.kind == 2)) rfl rfl rfl rfl ?_
      refine AL.v good (d := 28) (v := .bool (a1.kind == 2)) rfl rfl rfl rfl ?_
      refine AW.if rfl (fun h5 => ?_) (fun h5 => ?_)
      · replace hr := cnd_t h5 hr
        refine AW.seq ?_
        refine AW.seq ?_
        refine AW.region (M := fun _ => true) ?_
        refine AL.v good (d := 30) (v := .ptr 1 2) rfl rfl rfl rfl ?_
        refine AL.v good (d := 31) (v := .bool a1.b) rfl rfl rfl rfl ?_
        refine AW.if rfl (fun h6 => ?_) (fun h6 => ?_)
        · replace hr := cnd_t h6 hr
          refine AW.seq ?_
          refine AW.region (M := fun _ => true) ?_
          refine AL.v good (d := 32) (v := .sl (.own 0) 1 (r_int_u8 (a0 ++ [(IntKind.u8.wrap (a1.kind))]))) rfl rfl rfl rfl ?_
          refine AL.lit good (d := 33) (rows := [[.int .u8 1]]) rfl rfl rfl rfl rfl rfl rfl rfl rfl 3 rfl ?_
          obtain ⟨h7, hr⟩ := grd hr
          refine AL.aw2 good (d := 34) (rows := r_int_u8 (a0 ++ [(IntKind.u8.wrap (a1.kind))])) (news := [[.int .u8 1]]) (rows2 := r_int_u8 ((a0 ++ [(IntKind.u8.wrap (a1.kind))]) ++ [1])) rfl rfl rfl rfl rfl rfl rfl rfl rfl (by simp) rfl rfl rfl ⟨⟨Wv.refl _, trivial⟩, trivial⟩ (by simp [r_int_u8, rowF]) (by rw [r_int_u8_length, List.length_append]; exact h7) rfl ?_
          refine AL.v good (d := 4) (v := .sl (.own 0) 1 (r_int_u8 ((a0 ++ [(IntKind.u8.wrap (a1.kind))]) ++ [1]))) rfl rfl rfl rfl ?_
          refine AW.ret ?_
          obtain rfl := Option.some.inj hr
          exact RetH.w good (.inr rfl) rfl rfl (Wv.refl _) (List.forall_mem_cons.2 ⟨rfl, (fun _ h => by cases h)⟩)
        · replace hr := cnd_f h6 hr
          refine AW.skip ?_
          refine AW.seq ?_
          refine AW.region (M := fun _ => true) ?_
          refine AL.v good (d := 35) (v := .sl (.own 0) 1 (r_int_u8 (a0 ++ [(IntKind.u8.wrap (a1.kind))]))) rfl rfl rfl rfl ?_
          refine AL.lit good (d := 36) (rows := [[.int .u8 0]]) rfl rfl rfl rfl rfl rfl rfl rfl rfl 3 rfl ?_
          obtain ⟨h8, hr⟩ := grd hr
          refine AL.aw2 good (d := 37) (rows := r_int_u8 (a0 ++ [(IntKind.u8.wrap (a1.kind))])) (news := [[.int .u8 0]]) (rows2 := r_int_u8 ((a0 ++ [(IntKind.u8.wrap (a1.kind))]) ++ [0])) rfl rfl rfl rfl rfl rfl rfl rfl rfl (by simp) rfl rfl rfl ⟨⟨Wv.refl _, trivial⟩, trivial⟩ (by simp [r_int_u8, rowF]) (by rw [r_int_u8_length, List.length_append]; exact h8) rfl ?_
          refine AL.v good (d := 4) (v := .sl (.own 0) 1 (r_int_u8 ((a0 ++ [(IntKind.u8.wrap (a1.kind))]) ++ [0]))) rfl rfl rfl rfl ?_
          refine AW.ret ?_
          obtain rfl := Option.some.inj hr
          exact RetH.w good (.inr rfl) rfl rfl (Wv.refl _) (List.forall_mem_cons.2 ⟨rfl, (fun _ h => by cases h)⟩)
      · replace hr := cnd_f h5 hr
        refine AW.seq ?_
        refine AW.region (M := fun _ => true) ?_
        refine AL.v good (d := 39) (v := .bool (a1.kind == 3)) rfl rfl rfl rfl ?_
        refine AL.v good (d := 38) (v := .bool (a1.kind == 3)) rfl rfl rfl rfl ?_
        refine AW.if rfl (fun h9 => ?_) (fun h9 => ?_)
        · replace hr := cnd_t h9 hr
          refine AW.seq ?_
          refine AW.region (M := fun _ => true) ?_
          refine AL.v good (d := 40) (v := .sl (.own 0) 1 (r_int_u8 (a0 ++ [(IntKind.u8.wrap (a1.kind))]))) rfl rfl rfl rfl ?_
          refine AL.v good (d := 41) (v := .ptr 1 3) rfl rfl rfl rfl ?_
          refine AL.v good (d := 42) (v := .str a1.s) rfl rfl rfl rfl ?_
          obtain ⟨q10, h11, hr⟩ := bnd1 hr
          refine AL.clW good (d := 43) (xs := [.sl (.own 0) 1 (r_int_u8 (a0 ++ [(IntKind.u8.wrap (a1.kind))])), .str a1.s]) (rd := [(0, .row 5 1 (r_int_u8 (a0 ++ [(IntKind.u8.wrap (a1.kind))])).length)]) (up := [(0, .row 5 1 (r_int_u8 q10).length)]) (res := .sl (.own 0) 1 (r_int_u8 q10)) rfl rfl rfl rfl rfl rfl rfl (w_f80_0 _ _ _ _ h11) ⟨(Wv.refl _), (Wv.refl _), trivial⟩ (List.forall_mem_cons.2 ⟨rfl, (fun _ h => by cases h)⟩) (List.forall_mem_cons.2 ⟨⟨_, .head _⟩, (fun _ h => by cases h)⟩) rfl rfl ?_
          refine AL.v good (d := 4) (v := .sl (.own 0) 1 (r_int_u8 q10)) rfl rfl rfl rfl ?_
          refine AW.ret ?_
          obtain rfl := Option.some.inj hr
          exact RetH.w good (.inr rfl) rfl rfl (Wv.refl _) (List.forall_mem_cons.2 ⟨rfl, (fun _ h => by cases h)⟩)
        · replace hr := cnd_f h9 hr
          refine AW.skip ?_
          refine AW.seq ?_
          refine AW.region (M := fun _ => true) ?_
          refine AL.v good (d := 44) (v := .sl (.own 0) 1 (r_int_u8 (a0 ++ [(IntKind.u8.wrap (a1.kind))]))) rfl rfl rfl rfl ?_
          refine AL.v good (d := 45) (v := .ptr 1 4) rfl rfl rfl rfl ?_
          refine AL.v good (d := 46) (v := .sl .ro 5 (encs a1.t)) rfl rfl rfl rfl ?_
          refine AL.ln good (d := 47) (m := a1.t.length) rfl rfl rfl rfl rfl rfl (encs_length _) ?_
          refine AL.v good (d := 48) (v := .int .u8 (IntKind.u8.wrap ((a1.t.length : Int)))) rfl rfl rfl rfl ?_
          refine AL.lit good (d := 49) (rows := [[.int .u8 (IntKind.u8.wrap ((a1.t.length : Int)))]]) rfl rfl rfl rfl rfl rfl rfl rfl rfl 3 rfl ?_
          obtain ⟨h12, hr⟩ := grd hr
          refine AL.aw2 good (d := 50) (rows := r_int_u8 (a0 ++ [(IntKind.u8.wrap (a1.kind))])) (news := [[.int .u8 (IntKind.u8.wrap ((a1.t.length : Int)))]]) (rows2 := r_int_u8 ((a0 ++ [(IntKind.u8.wrap (a1.kind))]) ++ [(IntKind.u8.wrap ((a1.t.length : Int)))])) rfl rfl rfl rfl rfl rfl rfl rfl rfl (by simp) rfl rfl rfl ⟨⟨Wv.refl _, trivial⟩, trivial⟩ (by simp [r_int_u8, rowF]) (by rw [r_int_u8_length, List.length_append]; exact h12) rfl ?_
          refine AL.v good (d := 0) (v := .sl (.own 0) 1 (r_int_u8 ((a0 ++ [(IntKind.u8.wrap (a1.kind))]) ++ [(IntKind.u8.wrap ((a1.t.length : Int)))]))) rfl rfl rfl rfl ?_
          refine AW.seq ?_
          refine AW.seq ?_
          refine AW.region (M := fun _ => true) ?_
          refine AL.v good (d := 51) (v := .ptr 1 4) rfl rfl rfl rfl ?_
          refine AL.v good (d := 52) (v := .sl .ro 5 (encs a1.t)) rfl rfl rfl rfl ?_
          refine AL.ln good (d := 53) (m := a1.t.length) rfl rfl rfl rfl rfl rfl (encs_length _) ?_
          refine AL.v good (d := 54) (v := .int .i64 0) rfl rfl rfl rfl ?_
          refine AW.block ?_
          refine AW.lens 52 rfl (fun hl19 => ?_)
          replace hl19 : a1.t.length ≤ 9223372036854775807 := by rw [← encs_length a1.t]; exact hl19
          refine AW.lpw (fun x : Nat × (List Int) × Nat => [(0, .sl (.own 0) 1 (r_int_u8 x.2.1)), (52, .sl .ro 5 (encs a1.t)), (53, .int .i64 (a1.t.length : Int)), (54, .int .i64 (x.2.2 : Int))]) (fun x => [(0, .row 5 1 (r_int_u8 x.2.1).length)]) (fun x => s_f46_l1 x.1 a1 x.2.1 x.2.2 = some r ∧ x.1 ≤ n) (fun x => x.1) (n, ((a0 ++ [(IntKind.u8.wrap (a1.kind))]) ++ [(IntKind.u8.wrap ((a1.t.length : Int)))]), 0) ⟨(idsIn_sub rfl), List.forall_mem_cons.2 ⟨⟨⟨_, rfl, Wv.refl _⟩, (by simp [pureA, pureL, pureR, inA, inL, inR, inO, idsIn, encs_pure, enxs_pure, enys_pure, valC_pure, exC_pure, tyC_pure, r_int_u8_pure])⟩, List.forall_mem_cons.2 ⟨⟨⟨_, rfl, Wv.refl _⟩, (by simp [pureA, pureL, pureR, inA, inL, inR, inO, idsIn, encs_pure, enxs_pure, enys_pure, valC_pure, exC_pure, tyC_pure, r_int_u8_pure])⟩, List.forall_mem_cons.2 ⟨⟨⟨_, rfl, Wv.refl _⟩, (by simp [pureA, pureL, pureR, inA, inL, inR, inO, idsIn, encs_pure, enxs_pure, enys_pure, valC_pure, exC_pure, tyC_pure, r_int_u8_pure])⟩, List.forall_mem_cons.2 ⟨⟨⟨_, rfl, Wv.refl _⟩, (by simp [pureA, pureL, pureR, inA, inL, inR, inO, idsIn, encs_pure, enxs_pure, enys_pure, valC_pure, exC_pure, tyC_pure, r_int_u8_pure])⟩, (fun _ h => by cases h)⟩⟩⟩⟩, List.forall_mem_cons.2 ⟨⟨⟨_, rfl, ⟨rfl, rfl, rfl⟩⟩, (by simp [pureA, pureL, pureR, inA, inL, inR, inO, idsIn, encs_pure, enxs_pure, enys_pure, valC_pure, exC_pure, tyC_pure, r_int_u8_pure])⟩, (fun _ h => by cases h)⟩⟩ ⟨hr, Nat.le_refl _⟩ (fun ⟨m, v1_1, v1_2⟩ hx => ?_)
          obtain ⟨hr, hm⟩ := hx
          try dsimp only at hr hm
          cases m with
          | zero => rw [s_f46_l1] at hr; cases hr
          | succ m =>
            rw [s_f46_l1] at hr
            show AW Try.prog _ _ _ (mkS 63 [(0, .sl (.own 0) 1 (r_int_u8 v1_1)), (52, .sl .ro 5 (encs a1.t)), (53, .int .i64 (a1.t.length : Int)), (54, .int .i64 (v1_2 : Int))] [(0, .row 5 1 (r_int_u8 v1_1).length)])
            refine AW.seq ?_
            refine AW.region (M := fun _ => true) ?_
            refine AL.v good (d := 55) (v := .bool (decide ((v1_2 : Int) < (a1.t.length : Int)))) rfl rfl rfl rfl ?_
            refine AW.seq ?_
            refine AW.if rfl (fun h20 => ?_) (fun h20 => ?_)
            · replace hr := cnd_t h20 hr
              refine AW.skip ?_
              refine AW.seq ?_
              refine AW.block ?_
              refine AW.seq ?_
              refine AW.region (M := fun _ => true) ?_
              obtain ⟨x21, h22, hr⟩ := bnd1 hr
              refine AL.ix good (d := 56) (r := [.int .i64 x21.kind, .int .i64 x21.i, .bool x21.b, .str x21.s, .sl .ro 5 (encs x21.t)]) rfl rfl rfl rfl rfl rfl rfl (Int.natCast_nonneg _) (encs_get h22) ?_
              refine AL.v good (d := 57) (v := .agg [.int .i64 x21.kind, .int .i64 x21.i, .bool x21.b, .str x21.s, .sl .ro 5 (encs x21.t)]) rfl rfl rfl rfl ?_
              refine AL.alc good (d := 6) rfl rfl rfl rfl rfl 4 rfl ?_
              refine AL.st2 good (c2 := [.int .i64 x21.kind, .int .i64 x21.i, .bool x21.b, .str x21.s, .sl .ro 5 (encs x21.t)]) rfl rfl rfl rfl rfl rfl rfl rfl rfl rfl rfl rfl ?_
              refine AW.region (M := fun _ => true) ?_
              refine AL.v good (d := 58) (v := .sl (.own 0) 1 (r_int_u8 v1_1)) rfl rfl rfl rfl ?_
              refine AL.v good (d := 59) (v := .agg [.int .i64 x21.kind, .int .i64 x21.i, .bool x21.b, .str x21.s, .sl .ro 5 (encs x21.t)]) rfl rfl rfl rfl ?_
              obtain ⟨q23, h24, hr⟩ := bnd1 hr
              refine AL.clW good (d := 60) (xs := [.sl (.own 0) 1 (r_int_u8 v1_1), .agg (valC x21)]) (rd := [(0, .row 5 1 (r_int_u8 v1_1).length)]) (up := [(0, .row 5 1 (r_int_u8 q23).length)]) (res := .sl (.own 0) 1 (r_int_u8 q23)) rfl rfl rfl rfl rfl rfl rfl (ih _ _ _ _ h24 (by omega)) ⟨(Wv.refl _), (Wv.refl _), trivial⟩ (List.forall_mem_cons.2 ⟨rfl, (fun _ h => by cases h)⟩) (List.forall_mem_cons.2 ⟨⟨_, .head _⟩, (fun _ h => by cases h)⟩) rfl rfl ?_
              refine AL.v good (d := 0) (v := .sl (.own 0) 1 (r_int_u8 q23)) rfl rfl rfl rfl ?_
              refine AW.region (M := fun _ => true) ?_
              refine AL.v good (d := 61) (v := .int .i64 (IntKind.i64.wrap ((v1_2 : Int) + 1))) rfl rfl rfl rfl ?_
              refine AL.v good (d := 54) (v := .int .i64 (IntKind.i64.wrap ((v1_2 : Int) + 1))) rfl rfl rfl rfl ?_
              exact ⟨(m, q23, (v1_2 + 1)), _, _, rfl, ⟨(idsIn_sub rfl), List.forall_mem_cons.2 ⟨⟨⟨_, rfl, Wv.refl _⟩, (by simp [pureA, pureL, pureR, inA, inL, inR, inO, idsIn, encs_pure, enxs_pure, enys_pure, valC_pure, exC_pure, tyC_pure, r_int_u8_pure])⟩, List.forall_mem_cons.2 ⟨⟨⟨_, rfl, Wv.refl _⟩, (by simp [pureA, pureL, pureR, inA, inL, inR, inO, idsIn, encs_pure, enxs_pure, enys_pure, valC_pure, exC_pure, tyC_pure, r_int_u8_pure])⟩, List.forall_mem_cons.2 ⟨⟨⟨_, rfl, Wv.refl _⟩, (by simp [pureA, pureL, pureR, inA, inL, inR, inO, idsIn, encs_pure, enxs_pure, enys_pure, valC_pure, exC_pure, tyC_pure, r_int_u8_pure])⟩, List.forall_mem_cons.2 ⟨⟨⟨_, rfl, (wnx h20 hl19)⟩, (by simp [pureA, pureL, pureR, inA, inL, inR, inO, idsIn, encs_pure, enxs_pure, enys_pure, valC_pure, exC_pure, tyC_pure, r_int_u8_pure])⟩, (fun _ h => by cases h)⟩⟩⟩⟩, List.forall_mem_cons.2 ⟨⟨⟨_, rfl, ⟨rfl, rfl, rfl⟩⟩, (by simp [pureA, pureL, pureR, inA, inL, inR, inO, idsIn, encs_pure, enxs_pure, enys_pure, valC_pure, exC_pure, tyC_pure, r_int_u8_pure])⟩, (fun _ h => by cases h)⟩⟩, ⟨hr, Nat.le_of_succ_le hm⟩, Nat.lt_succ_self _⟩
            · replace hr := cnd_f h20 hr
              refine AW.exit ?_
              refine AW.seq ?_
              refine AW.region (M := fun _ => true) ?_
              refine AL.v good (d := 62) (v := .sl (.own 0) 1 (r_int_u8 v1_1)) rfl rfl rfl rfl ?_
              refine AL.v good (d := 4) (v := .sl (.own 0) 1 (r_int_u8 v1_1)) rfl rfl rfl rfl ?_
              refine AW.ret ?_
              obtain rfl := Option.some.inj hr
              exact RetH.w good (.inr rfl) rfl rfl (Wv.refl _) (List.forall_mem_cons.2 ⟨rfl, (fun _ h => by cases h)⟩)
theorem w_f46_0 (n : Nat) : ∀ (a0 : List Int) (a1 : Val) (r : List Int) (hr : s_f46 n a0 a1 = some r), ACallH Try.prog 46 [.sl (.own 0) 1 (r_int_u8 a0), .agg (valC a1)] [(0, .row 5 1 (r_int_u8 a0).length)] [(0, .row 5 1 (r_int_u8 r).length)] (.sl (.own 0) 1 (r_int_u8 r)) := by
  induction n using Nat.strongRecOn with
  | _ n ih =>
    intro a0 a1 r hr
    exact w_f46_0_a n (fun m a0 a1 r h hm => ih m hm a0 a1 r h) a0 a1 r hr

mutual
def s_f13_l1 : Nat → Int → Int → Int → Option Bool
  | 0, _, _, _ => none
  | n + 1, a0, v1_1, v1_2 => (bif (decide (v1_2 > 0)) then (s_f13_l1 n a0 (IntKind.i64.wrap (v1_1 + 1)) (v1_2.fdiv (2 ^ 7))) else ((s_f46 n [] (Val.mk 1 a0 false ⟨#[]⟩ [])).bind fun q7 => ((s_f49 n [] (bits .xor .u64 (if IntKind.u64.signed then -1 else IntKind.u64.max) (IntKind.u64.wrap ((IntKind.u64.wrap (a0)) * 2 ^ 1)))).bind fun q9 => (bif ((q7.length : Int) == (IntKind.i64.wrap (v1_1 + 1))) then (bif ((q9.length : Int) == v1_1) then ((q7[0]?).bind fun x13 => (bif (x13 == 1) then (if 1 ≤ q7.length then some ((strOfNums (q7.drop 1)).data.toList == (strOfNums q9).data.toList) else none) else some false)) else some false) else some false))))
def s_f13_l2 : Nat → Int → Int → Int → Option Bool
  | 0, _, _, _ => none
  | n + 1, a0, v2_1, v2_2 => (bif (decide (v2_2 > 0)) then (s_f13_l2 n a0 (IntKind.i64.wrap (v2_1 + 1)) (v2_2.fdiv (2 ^ 7))) else ((s_f46 n [] (Val.mk 1 a0 false ⟨#[]⟩ [])).bind fun q19 => ((s_f49 n [] (IntKind.u64.wrap ((IntKind.u64.wrap (a0)) * 2 ^ 1))).bind fun q21 => (bif ((q19.length : Int) == (IntKind.i64.wrap (v2_1 + 1))) then (bif ((q21.length : Int) == v2_1) then ((q19[0]?).bind fun x25 => (bif (x25 == 1) then (if 1 ≤ q19.length then some ((strOfNums (q19.drop 1)).data.toList == (strOfNums q21).data.toList) else none) else some false)) else some false) else some false))))
end
def s_f13 (n : Nat) (a0 : Int) : Option Bool :=
  ((s_f45 n).bind fun q1 => (bif (!q1) then some false else (bif (decide (a0 < 0)) then (s_f13_l1 n a0 1 ((bits .xor .u64 (if IntKind.u64.signed then -1 else IntKind.u64.max) (IntKind.u64.wrap ((IntKind.u64.wrap (a0)) * 2 ^ 1))).fdiv (2 ^ 7))) else (s_f13_l2 n a0 1 ((IntKind.u64.wrap ((IntKind.u64.wrap (a0)) * 2 ^ 1)).fdiv (2 ^ 7))))))

theorem w_f13 (n : Nat) (a0 : Int) (r : Bool) (hr : s_f13 n a0 = some r) : ACall Try.prog 13 [.int .i64 a0] (.bool r) := by
  refine ACall.go [(0, .int .i64 a0)] Try.func13 rfl Try.ntmps13 rfl rfl (by simp [pureA, pureL, pureR, inA, inL, inR, inO, idsIn, encs_pure, enxs_pure, enys_pure, valC_pure, exC_pure, tyC_pure, r_int_u8_pure]) ?_
  rw [s_f13] at hr
  refine AW.seq ?_
  refine AW.region (M := fun _ => true) ?_
  refine AL.v good (d := 2) (v := .bool false) rfl rfl rfl rfl ?_
  refine AW.seq ?_
  refine AW.seq ?_
  refine AW.region (M := fun _ => true) ?_
  obtain ⟨q1, h2, hr⟩ := bnd1 hr
  refine AL.cw good (d := 8) (xs := []) (res := .bool q1) rfl rfl rfl rfl rfl rfl rfl (w_f45 _ _ h2) trivial (by simp [pureA, pureL, pureR, inA, inL, inR, inO, idsIn, encs_pure, enxs_pure, enys_pure, valC_pure, exC_pure, tyC_pure, r_int_u8_pure]) ?_
  refine AL.v good (d := 9) (v := .bool (!q1)) rfl rfl rfl rfl ?_
  refine AW.if rfl (fun h3 => ?_) (fun h3 => ?_)
  · replace hr := cnd_t h3 hr
    refine AW.seq ?_
    refine AW.region (M := fun _ => true) ?_
    refine AL.v good (d := 2) (v := .bool false) rfl rfl rfl rfl ?_
    refine AW.ret ?_
    obtain rfl := Option.some.inj hr
    exact RetQ.w good (.inr rfl) rfl rfl (Wv.refl _) (by simp [pureA, pureL, pureR, inA, inL, inR, inO, idsIn, encs_pure, enxs_pure, enys_pure, valC_pure, exC_pure, tyC_pure, r_int_u8_pure])
  · replace hr := cnd_f h3 hr
    refine AW.skip ?_
    refine AW.seq ?_
    refine AW.region (M := fun _ => true) ?_
    refine AL.v good (d := 10) (v := .int .i64 a0) rfl rfl rfl rfl ?_
    refine AL.v good (d := 11) (v := .int .u64 (IntKind.u64.wrap (a0))) rfl rfl rfl rfl ?_
    refine AL.v good (d := 12) (v := .int .u64 (IntKind.u64.wrap ((IntKind.u64.wrap (a0)) * 2 ^ 1))) rfl rfl rfl rfl ?_
    refine AL.v good (d := 3) (v := .int .u64 (IntKind.u64.wrap ((IntKind.u64.wrap (a0)) * 2 ^ 1))) rfl rfl rfl rfl ?_
    refine AW.seq ?_
    refine AW.seq ?_
    refine AW.region (M := fun _ => true) ?_
    refine AL.v good (d := 13) (v := .int .i64 a0) rfl rfl rfl rfl ?_
    refine AL.v good (d := 14) (v := .bool (decide (a0 < 0))) rfl rfl rfl rfl ?_
    refine AW.if rfl (fun h4 => ?_) (fun h4 => ?_)
    · replace hr := cnd_t h4 hr
      refine AW.region (M := fun _ => true) ?_
      refine AL.v good (d := 15) (v := .int .u64 (IntKind.u64.wrap ((IntKind.u64.wrap (a0)) * 2 ^ 1))) rfl rfl rfl rfl ?_
      refine AL.v good (d := 16) (v := .int .u64 (bits .xor .u64 (if IntKind.u64.signed then -1 else IntKind.u64.max) (IntKind.u64.wrap ((IntKind.u64.wrap (a0)) * 2 ^ 1)))) rfl rfl rfl rfl ?_
      refine AL.v good (d := 3) (v := .int .u64 (bits .xor .u64 (if IntKind.u64.signed then -1 else IntKind.u64.max) (IntKind.u64.wrap ((IntKind.u64.wrap (a0)) * 2 ^ 1)))) rfl rfl rfl rfl ?_
      refine AW.seq ?_
      refine AW.region (M := fun _ => true) ?_
      refine AL.v good (d := 4) (v := .int .i64 1) rfl rfl rfl rfl ?_
      refine AW.seq ?_
      refine AW.seq ?_
      refine AW.region (M := fun _ => true) ?_
      refine AL.v good (d := 17) (v := .int .u64 (bits .xor .u64 (if IntKind.u64.signed then -1 else IntKind.u64.max) (IntKind.u64.wrap ((IntKind.u64.wrap (a0)) * 2 ^ 1)))) rfl rfl rfl rfl ?_
      refine AL.v good (d := 18) (v := .int .u64 ((bits .xor .u64 (if IntKind.u64.signed then -1 else IntKind.u64.max) (IntKind.u64.wrap ((IntKind.u64.wrap (a0)) * 2 ^ 1))).fdiv (2 ^ 7))) rfl rfl rfl rfl ?_
      refine AL.v good (d := 5) (v := .int .u64 ((bits .xor .u64 (if IntKind.u64.signed then -1 else IntKind.u64.max) (IntKind.u64.wrap ((IntKind.u64.wrap (a0)) * 2 ^ 1))).fdiv (2 ^ 7))) rfl rfl rfl rfl ?_
      refine AW.block ?_
      refine AW.lpw (fun x : Nat × Int × Int => [(0, .int .i64 a0), (3, .int .u64 (bits .xor .u64 (if IntKind.u64.signed then -1 else IntKind.u64.max) (IntKind.u64.wrap ((IntKind.u64.wrap (a0)) * 2 ^ 1)))), (4, .int .i64 x.2.1), (5, .int .u64 x.2.2)]) (fun x => []) (fun x => s_f13_l1 x.1 a0 x.2.1 x.2.2 = some r ∧ x.1 ≤ n) (fun x => x.1) (n, 1, ((bits .xor .u64 (if IntKind.u64.signed then -1 else IntKind.u64.max) (IntKind.u64.wrap ((IntKind.u64.wrap (a0)) * 2 ^ 1))).fdiv (2 ^ 7))) ⟨(fun _ h => by cases h), List.forall_mem_cons.2 ⟨⟨⟨_, rfl, Wv.refl _⟩, (by simp [pureA, pureL, pureR, inA, inL, inR, inO, idsIn, encs_pure, enxs_pure, enys_pure, valC_pure, exC_pure, tyC_pure, r_int_u8_pure])⟩, List.forall_mem_cons.2 ⟨⟨⟨_, rfl, Wv.refl _⟩, (by simp [pureA, pureL, pureR, inA, inL, inR, inO, idsIn, encs_pure, enxs_pure, enys_pure, valC_pure, exC_pure, tyC_pure, r_int_u8_pure])⟩, List.forall_mem_cons.2 ⟨⟨⟨_, rfl, Wv.refl _⟩, (by simp [pureA, pureL, pureR, inA, inL, inR, inO, idsIn, encs_pure, enxs_pure, enys_pure, valC_pure, exC_pure, tyC_pure, r_int_u8_pure])⟩, List.forall_mem_cons.2 ⟨⟨⟨_, rfl, Wv.refl _⟩, (by simp [pureA, pureL, pureR, inA, inL, inR, inO, idsIn, encs_pure, enxs_pure, enys_pure, valC_pure, exC_pure, tyC_pure, r_int_u8_pure])⟩, (fun _ h => by cases h)⟩⟩⟩⟩, (fun _ h => by cases h)⟩ ⟨hr, Nat.le_refl _⟩ (fun ⟨m, v1_1, v1_2⟩ hx => ?_)
      obtain ⟨hr, hm⟩ := hx
      try dsimp only at hr hm
      cases m with
      | zero => rw [s_f13_l1] at hr; cases hr
      | succ m =>
        rw [s_f13_l1] at hr
        show AW Try.prog _ _ _ (mkS 55 [(0, .int .i64 a0), (3, .int .u64 (bits .xor .u64 (if IntKind.u64.signed then -1 else IntKind.u64.max) (IntKind.u64.wrap ((IntKind.u64.wrap (a0)) * 2 ^ 1)))), (4, .int .i64 v1_1), (5, .int .u64 v1_2)] [])
        refine AW.seq ?_
        refine AW.seq ?_
        refine AW.region (M := fun _ => true) ?_
        refine AL.v good (d := 19) (v := .int .u64 v1_2) rfl rfl rfl rfl ?_
        refine AL.v good (d := 20) (v := .bool (decide (v1_2 > 0))) rfl rfl rfl rfl ?_
        refine AW.if rfl (fun h6 => ?_) (fun h6 => ?_)
        · replace hr := cnd_t h6 hr
          refine AW.skip ?_
          refine AW.seq ?_
          refine AW.block ?_
          refine AW.region (M := fun _ => true) ?_
          refine AL.v good (d := 23) (v := .int .i64 v1_1) rfl rfl rfl rfl ?_
          refine AL.v good (d := 24) (v := .int .i64 (IntKind.i64.wrap (v1_1 + 1))) rfl rfl rfl rfl ?_
          refine AL.v good (d := 4) (v := .int .i64 (IntKind.i64.wrap (v1_1 + 1))) rfl rfl rfl rfl ?_
          refine AW.region (M := fun _ => true) ?_
          refine AL.v good (d := 21) (v := .int .u64 v1_2) rfl rfl rfl rfl ?_
          refine AL.v good (d := 22) (v := .int .u64 (v1_2.fdiv (2 ^ 7))) rfl rfl rfl rfl ?_
          refine AL.v good (d := 5) (v := .int .u64 (v1_2.fdiv (2 ^ 7))) rfl rfl rfl rfl ?_
          exact ⟨(m, (IntKind.i64.wrap (v1_1 + 1)), (v1_2.fdiv (2 ^ 7))), _, _, rfl, ⟨(fun _ h => by cases h), List.forall_mem_cons.2 ⟨⟨⟨_, rfl, Wv.refl _⟩, (by simp [pureA, pureL, pureR, inA, inL, inR, inO, idsIn, encs_pure, enxs_pure, enys_pure, valC_pure, exC_pure, tyC_pure, r_int_u8_pure])⟩, List.forall_mem_cons.2 ⟨⟨⟨_, rfl, Wv.refl _⟩, (by simp [pureA, pureL, pureR, inA, inL, inR, inO, idsIn, encs_pure, enxs_pure, enys_pure, valC_pure, exC_pure, tyC_pure, r_int_u8_pure])⟩, List.forall_mem_cons.2 ⟨⟨⟨_, rfl, Wv.refl _⟩, (by simp [pureA, pureL, pureR, inA, inL, inR, inO, idsIn, encs_pure, enxs_pure, enys_pure, valC_pure, exC_pure, tyC_pure, r_int_u8_pure])⟩, List.forall_mem_cons.2 ⟨⟨⟨_, rfl, Wv.refl _⟩, (by simp [pureA, pureL, pureR, inA, inL, inR, inO, idsIn, encs_pure, enxs_pure, enys_pure, valC_pure, exC_pure, tyC_pure, r_int_u8_pure])⟩, (fun _ h => by cases h)⟩⟩⟩⟩, (fun _ h => by cases h)⟩, ⟨hr, Nat.le_of_succ_le hm⟩, Nat.lt_succ_self _⟩
        · replace hr := cnd_f h6 hr
          refine AW.exit ?_
          refine AW.seq ?_
          refine AW.region (M := fun _ => true) ?_
          refine AL.v good (d := 25) (v := .int .i64 a0) rfl rfl rfl rfl ?_
          refine AL.cw good (d := 26) (xs := [.int .i64 a0]) (res := .agg [.int .i64 1, .int .i64 a0, .bool false, .str ⟨#[]⟩, .sl .ro 5 (encs [])]) rfl rfl rfl rfl rfl rfl rfl (w_f28 a0) ⟨(Wv.refl _), trivial⟩ (by simp [pureA, pureL, pureR, inA, inL, inR, inO, idsIn, encs_pure, enxs_pure, enys_pure, valC_pure, exC_pure, tyC_pure, r_int_u8_pure]) ?_
          obtain ⟨q7, h8, hr⟩ := bnd1 hr
          refine AL.clN good (d := 27) (xs := [.sl (.own 0) 1 (r_int_u8 []), .agg (valC (Val.mk 1 a0 false ⟨#[]⟩ []))]) (res := .sl (.own 0) 1 (r_int_u8 q7)) rfl rfl rfl rfl rfl rfl rfl 0 1 5 rfl rfl (w_f46_0 _ _ _ _ h8) ⟨.inr ⟨⟨_, rfl⟩, rfl⟩, .inl (Wv.refl _), trivial⟩ rfl ?_
          refine AL.v good (d := 6) (v := .sl (.own 0) 1 (r_int_u8 q7)) rfl rfl rfl rfl ?_
          refine AW.seq ?_
          refine AW.region (M := fun _ => true) ?_
          refine AL.v good (d := 28) (v := .int .u64 (bits .xor .u64 (if IntKind.u64.signed then -1 else IntKind.u64.max) (IntKind.u64.wrap ((IntKind.u64.wrap (a0)) * 2 ^ 1)))) rfl rfl rfl rfl ?_
          obtain ⟨q9, h10, hr⟩ := bnd1 hr
          refine AL.clN good (d := 29) (xs := [.sl (.own 1) 1 (r_int_u8 []), .int .u64 (bits .xor .u64 (if IntKind.u64.signed then -1 else IntKind.u64.max) (IntKind.u64.wrap ((IntKind.u64.wrap (a0)) * 2 ^ 1)))]) (res := .sl (.own 1) 1 (r_int_u8 q9)) rfl rfl rfl rfl rfl rfl rfl 1 1 5 rfl rfl (w_f49_1 _ _ _ _ h10) ⟨.inr ⟨⟨_, rfl⟩, rfl⟩, .inl (Wv.refl _), trivial⟩ rfl ?_
          refine AL.v good (d := 7) (v := .sl (.own 1) 1 (r_int_u8 q9)) rfl rfl rfl rfl ?_
          refine AW.seq ?_
          refine AW.draw (M := fun i => false) good.wide (by kernel_rfl) ?_
          refine AL.v good (d := 30) (v := .sl (.own 0) 1 (r_int_u8 q7)) rfl rfl rfl rfl ?_
          refine AL.ln good (d := 31) (m := q7.length) rfl rfl rfl rfl rfl rfl (r_int_u8_length _) ?_
          refine AL.v good (d := 32) (v := .int .i64 v1_1) rfl rfl rfl rfl ?_
          refine AL.v good (d := 33) (v := .int .i64 (IntKind.i64.wrap (v1_1 + 1))) rfl rfl rfl rfl ?_
          refine AL.v good (d := 34) (v := .bool ((q7.length : Int) == (IntKind.i64.wrap (v1_1 + 1)))) rfl rfl rfl rfl ?_
          refine AL.v good (d := 35) (v := .bool ((q7.length : Int) == (IntKind.i64.wrap (v1_1 + 1)))) rfl rfl rfl rfl ?_
          refine AL.cs 35 rfl (fun h11 => ?_) (fun h11 => ?_)
          · replace hr := cnd_t h11 hr
            refine AL.v good (d := 36) (v := .sl (.own 1) 1 (r_int_u8 q9)) rfl rfl rfl rfl ?_
            refine AL.ln good (d := 37) (m := q9.length) rfl rfl rfl rfl rfl rfl (r_int_u8_length _) ?_
            refine AL.v good (d := 38) (v := .int .i64 v1_1) rfl rfl rfl rfl ?_
            refine AL.v good (d := 39) (v := .bool ((q9.length : Int) == v1_1)) rfl rfl rfl rfl ?_
            refine AL.v good (d := 40) (v := .bool ((q9.length : Int) == v1_1)) rfl rfl rfl rfl ?_
            refine AL.v good (d := 41) (v := .bool ((q9.length : Int) == v1_1)) rfl rfl rfl rfl ?_
            refine AL.cs 41 rfl (fun h12 => ?_) (fun h12 => ?_)
            · replace hr := cnd_t h12 hr
              refine AL.v good (d := 42) (v := .sl (.own 0) 1 (r_int_u8 q7)) rfl rfl rfl rfl ?_
              obtain ⟨x13, h14, hr⟩ := bnd1 hr
              refine AL.ix good (d := 43) (r := [.int .u8 x13]) rfl rfl rfl rfl rfl rfl rfl (by decide) (r_int_u8_get h14) ?_
              refine AL.v good (d := 44) (v := .int .u8 x13) rfl rfl rfl rfl ?_
              refine AL.v good (d := 45) (v := .bool (x13 == 1)) rfl rfl rfl rfl ?_
              refine AL.v good (d := 46) (v := .bool (x13 == 1)) rfl rfl rfl rfl ?_
              refine AL.v good (d := 47) (v := .bool (x13 == 1)) rfl rfl rfl rfl ?_
              refine AL.cs 47 rfl (fun h15 => ?_) (fun h15 => ?_)
              · replace hr := cnd_t h15 hr
                refine AL.v good (d := 48) (v := .sl (.own 0) 1 (r_int_u8 q7)) rfl rfl rfl rfl ?_
                obtain ⟨h16, hr⟩ := grd hr
                refine AL.sc good (d := 49) (rows := r_int_u8 q7) (rows2 := r_int_u8 (q7.drop 1)) (m := q7.length) (l := 1) (h := q7.length) rfl rfl rfl rfl rfl rfl rfl (r_int_u8_length _) rfl (bndT rfl h16) (by exact rowF_drop _ _ _) ?_
                refine AL.tos good (d := 50) (l := (q7.drop 1)) rfl rfl rfl rfl rfl rfl rfl rfl (bytesA_rw _) ?_
                refine AL.v good (d := 51) (v := .sl (.own 1) 1 (r_int_u8 q9)) rfl rfl rfl rfl ?_
                refine AL.tos good (d := 52) (l := q9) rfl rfl rfl rfl rfl rfl rfl rfl (bytesA_rw _) ?_
                refine AL.sb good (d := 53) (b := ((strOfNums (q7.drop 1)).data.toList == (strOfNums q9).data.toList)) rfl rfl rfl rfl rfl rfl rfl ?_
                refine AL.v good (d := 54) (v := .bool ((strOfNums (q7.drop 1)).data.toList == (strOfNums q9).data.toList)) rfl rfl rfl rfl ?_
                refine AL.v good (d := 2) (v := .bool ((strOfNums (q7.drop 1)).data.toList == (strOfNums q9).data.toList)) rfl rfl rfl rfl ?_
                refine AW.ret ?_
                obtain rfl := Option.some.inj hr
                exact RetQ.w good (.inr rfl) rfl rfl (Wv.refl _) (by simp [pureA, pureL, pureR, inA, inL, inR, inO, idsIn, encs_pure, enxs_pure, enys_pure, valC_pure, exC_pure, tyC_pure, r_int_u8_pure])
              · replace hr := cnd_f h15 hr
                refine AL.sk good (d := 48) rfl rfl rfl ?_
                refine AL.sk good (d := 49) rfl rfl rfl ?_
                refine AL.sk good (d := 50) rfl rfl rfl ?_
                refine AL.sk good (d := 51) rfl rfl rfl ?_
                refine AL.sk good (d := 52) rfl rfl rfl ?_
                refine AL.sk good (d := 53) rfl rfl rfl ?_
                refine AL.v good (d := 54) (v := .bool false) rfl rfl rfl rfl ?_
                refine AL.v good (d := 2) (v := .bool false) rfl rfl rfl rfl ?_
                refine AW.ret ?_
                obtain rfl := Option.some.inj hr
                exact RetQ.w good (.inr rfl) rfl rfl (Wv.refl _) (by simp [pureA, pureL, pureR, inA, inL, inR, inO, idsIn, encs_pure, enxs_pure, enys_pure, valC_pure, exC_pure, tyC_pure, r_int_u8_pure])
            · replace hr := cnd_f h12 hr
              refine AL.sk good (d := 42) rfl rfl rfl ?_
              refine AL.sk good (d := 43) rfl rfl rfl ?_
              refine AL.sk good (d := 44) rfl rfl rfl ?_
              refine AL.sk good (d := 45) rfl rfl rfl ?_
              refine AL.v good (d := 46) (v := .bool false) rfl rfl rfl rfl ?_
              refine AL.v good (d := 47) (v := .bool false) rfl rfl rfl rfl ?_
              refine AL.sk good (d := 48) rfl rfl rfl ?_
              refine AL.sk good (d := 49) rfl rfl rfl ?_
              refine AL.sk good (d := 50) rfl rfl rfl ?_
              refine AL.sk good (d := 51) rfl rfl rfl ?_
              refine AL.sk good (d := 52) rfl rfl rfl ?_
              refine AL.sk good (d := 53) rfl rfl rfl ?_
              refine AL.v good (d := 54) (v := .bool false) rfl rfl rfl rfl ?_
              refine AL.v good (d := 2) (v := .bool false) rfl rfl rfl rfl ?_
              refine AW.ret ?_
              obtain rfl := Option.some.inj hr
              exact RetQ.w good (.inr rfl) rfl rfl (Wv.refl _) (by simp [pureA, pureL, pureR, inA, inL, inR, inO, idsIn, encs_pure, enxs_pure, enys_pure, valC_pure, exC_pure, tyC_pure, r_int_u8_pure])
          · replace hr := cnd_f h11 hr
            refine AL.sk good (d := 36) rfl rfl rfl ?_
            refine AL.sk good (d := 37) rfl rfl rfl ?_
            refine AL.sk good (d := 38) rfl rfl rfl ?_
            refine AL.sk good (d := 39) rfl rfl rfl ?_
            refine AL.v good (d := 40) (v := .bool false) rfl rfl rfl rfl ?_
            refine AL.v good (d := 41) (v := .bool false) rfl rfl rfl rfl ?_
            refine AL.sk good (d := 42) rfl rfl rfl ?_
            refine AL.sk good (d := 43) rfl rfl rfl ?_
            refine AL.sk good (d := 44) rfl rfl rfl ?_
            refine AL.sk good (d := 45) rfl rfl rfl ?_
            refine AL.v good (d := 46) (v := .bool false) rfl rfl rfl rfl ?_
            refine AL.v good (d := 47) (v := .bool false) rfl rfl rfl rfl ?_
            refine AL.sk good (d := 48) rfl rfl rfl ?_
            refine AL.sk good (d := 49) rfl rfl rfl ?_
            refine AL.sk good (d := 50) rfl rfl rfl ?_
            refine AL.sk good (d := 51) rfl rfl rfl ?_
            refine AL.sk good (d := 52) rfl rfl rfl ?_
            refine AL.sk good (d := 53) rfl rfl rfl ?_
            refine AL.v good (d := 54) (v := .bool false) rfl rfl rfl rfl ?_
            refine AL.v good (d := 2) (v := .bool false) rfl rfl rfl rfl ?_
            refine AW.ret ?_
            obtain rfl := Option.some.inj hr
            exact RetQ.w good (.inr rfl) rfl rfl (Wv.refl _) (by simp [pureA, pureL, pureR, inA, inL, inR, inO, idsIn, encs_pure, enxs_pure, enys_pure, valC_pure, exC_pure, tyC_pure, r_int_u8_pure])
    · replace hr := cnd_f h4 hr
      refine AW.skip ?_
      refine AW.seq ?_
      refine AW.region (M := fun _ => true) ?_
      refine AL.v good (d := 4) (v := .int .i64 1) rfl rfl rfl rfl ?_
      refine AW.seq ?_
      refine AW.seq ?_
      refine AW.region (M := fun _ => true) ?_
      refine AL.v good (d := 17) (v := .int .u64 (IntKind.u64.wrap ((IntKind.u64.wrap (a0)) * 2 ^ 1))) rfl rfl rfl rfl ?_
      refine AL.v good (d := 18) (v := .int .u64 ((IntKind.u64.wrap ((IntKind.u64.wrap (a0)) * 2 ^ 1)).fdiv (2 ^ 7))) rfl rfl rfl rfl ?_
      refine AL.v good (d := 5) (v := .int .u64 ((IntKind.u64.wrap ((IntKind.u64.wrap (a0)) * 2 ^ 1)).fdiv (2 ^ 7))) rfl rfl rfl rfl ?_
      refine AW.block ?_
      refine AW.lpw (fun x : Nat × Int × Int => [(0, .int .i64 a0), (3, .int .u64 (IntKind.u64.wrap ((IntKind.u64.wrap (a0)) * 2 ^ 1))), (4, .int .i64 x.2.1), (5, .int .u64 x.2.2)]) (fun x => []) (fun x => s_f13_l2 x.1 a0 x.2.1 x.2.2 = some r ∧ x.1 ≤ n) (fun x => x.1) (n, 1, ((IntKind.u64.wrap ((IntKind.u64.wrap (a0)) * 2 ^ 1)).fdiv (2 ^ 7))) ⟨(fun _ h => by cases h), List.forall_mem_cons.2 ⟨⟨⟨_, rfl, Wv.refl _⟩, (by simp [pureA, pureL, pureR, inA, inL, inR, inO, idsIn, encs_pure, enxs_pure, enys_pure, valC_pure, exC_pure, tyC_pure, r_int_u8_pure])⟩, List.forall_mem_cons.2 ⟨⟨⟨_, rfl, Wv.refl _⟩, (by simp [pureA, pureL, pureR, inA, inL, inR, inO, idsIn, encs_pure, enxs_pure, enys_pure, valC_pure, exC_pure, tyC_pure, r_int_u8_pure])⟩, List.forall_mem_cons.2 ⟨⟨⟨_, rfl, Wv.refl _⟩, (by simp [pureA, pureL, pureR, inA, inL, inR, inO, idsIn, encs_pure, enxs_pure, enys_pure, valC_pure, exC_pure, tyC_pure, r_int_u8_pure])⟩, List.forall_mem_cons.2 ⟨⟨⟨_, rfl, Wv.refl _⟩, (by simp [pureA, pureL, pureR, inA, inL, inR, inO, idsIn, encs_pure, enxs_pure, enys_pure, valC_pure, exC_pure, tyC_pure, r_int_u8_pure])⟩, (fun _ h => by cases h)⟩⟩⟩⟩, (fun _ h => by cases h)⟩ ⟨hr, Nat.le_refl _⟩ (fun ⟨m, v2_1, v2_2⟩ hx => ?_)
      obtain ⟨hr, hm⟩ := hx
      try dsimp only at hr hm
      cases m with
      | zero => rw [s_f13_l2] at hr; cases hr
      | succ m =>
        rw [s_f13_l2] at hr
        show AW Try.prog _ _ _ (mkS 55 [(0, .int .i64 a0), (3, .int .u64 (IntKind.u64.wrap ((IntKind.u64.wrap (a0)) * 2 ^ 1))), (4, .int .i64 v2_1), (5, .int .u64 v2_2)] [])
        refine AW.seq ?_
        refine AW.seq ?_
        refine AW.region (M := fun _ => true) ?_
        refine AL.v good (d := 19) (v := .int .u64 v2_2) rfl rfl rfl rfl ?_
        refine AL.v good (d := 20) (v := .bool (decide (v2_2 > 0))) rfl rfl rfl rfl ?_
        refine AW.if rfl (fun h18 => ?_) (fun h18 => ?_)
        · replace hr := cnd_t h18 hr
          refine AW.skip ?_
          refine AW.seq ?_
          refine AW.block ?_
          refine AW.region (M := fun _ => true) ?_
          refine AL.v good (d := 23) (v := .int .i64 v2_1) rfl rfl rfl rfl ?_
          refine AL.v good (d := 24) (v := .int .i64 (IntKind.i64.wrap (v2_1 + 1))) rfl rfl rfl rfl ?_
          refine AL.v good (d := 4) (v := .int .i64 (IntKind.i64.wrap (v2_1 + 1))) rfl rfl rfl rfl ?_
          refine AW.region (M := fun _ => true) ?_
          refine AL.v good (d := 21) (v := .int .u64 v2_2) rfl rfl rfl rfl ?_
          refine AL.v good (d := 22) (v := .int .u64 (v2_2.fdiv (2 ^ 7))) rfl rfl rfl rfl ?_
          refine AL.v good (d := 5) (v := .int .u64 (v2_2.fdiv (2 ^ 7))) rfl rfl rfl rfl ?_
          exact ⟨(m, (IntKind.i64.wrap (v2_1 + 1)), (v2_2.fdiv (2 ^ 7))), _, _, rfl, ⟨(fun _ h => by cases h), List.forall_mem_cons.2 ⟨⟨⟨_, rfl, Wv.refl _⟩, (by simp [pureA, pureL, pureR, inA, inL, inR, inO, idsIn, encs_pure, enxs_pure, enys_pure, valC_pure, exC_pure, tyC_pure, r_int_u8_pure])⟩, List.forall_mem_cons.2 ⟨⟨⟨_, rfl, Wv.refl _⟩, (by simp [pureA, pureL, pureR, inA, inL, inR, inO, idsIn, encs_pure, enxs_pure, enys_pure, valC_pure, exC_pure, tyC_pure, r_int_u8_pure])⟩, List.forall_mem_cons.2 ⟨⟨⟨_, rfl, Wv.refl _⟩, (by simp [pureA, pureL, pureR, inA, inL, inR, inO, idsIn, encs_pure, enxs_pure, enys_pure, valC_pure, exC_pure, tyC_pure, r_int_u8_pure])⟩, List.forall_mem_cons.2 ⟨⟨⟨_, rfl, Wv.refl _⟩, (by simp [pureA, pureL, pureR, inA, inL, inR, inO, idsIn, encs_pure, enxs_pure, enys_pure, valC_pure, exC_pure, tyC_pure, r_int_u8_pure])⟩, (fun _ h => by cases h)⟩⟩⟩⟩, (fun _ h => by cases h)⟩, ⟨hr, Nat.le_of_succ_le hm⟩, Nat.lt_succ_self _⟩
        · replace hr := cnd_f h18 hr
          refine AW.exit ?_
          refine AW.seq ?_
          refine AW.region (M := fun _ => true) ?_
          refine AL.v good (d := 25) (v := .int .i64 a0) rfl rfl rfl rfl ?_
          refine AL.cw good (d := 26) (xs := [.int .i64 a0]) (res := .agg [.int .i64 1, .int .i64 a0, .bool false, .str ⟨#[]⟩, .sl .ro 5 (encs [])]) rfl rfl rfl rfl rfl rfl rfl (w_f28 a0) ⟨(Wv.refl _), trivial⟩ (by simp [pureA, pureL, pureR, inA, inL, inR, inO, idsIn, encs_pure, enxs_pure, enys_pure, valC_pure, exC_pure, tyC_pure, r_int_u8_pure]) ?_
          obtain ⟨q19, h20, hr⟩ := bnd1 hr
          refine AL.clN good (d := 27) (xs := [.sl (.own 0) 1 (r_int_u8 []), .agg (valC (Val.mk 1 a0 false ⟨#[]⟩ []))]) (res := .sl (.own 0) 1 (r_int_u8 q19)) rfl rfl rfl rfl rfl rfl rfl 0 1 5 rfl rfl (w_f46_0 _ _ _ _ h20) ⟨.inr ⟨⟨_, rfl⟩, rfl⟩, .inl (Wv.refl _), trivial⟩ rfl ?_
          refine AL.v good (d := 6) (v := .sl (.own 0) 1 (r_int_u8 q19)) rfl rfl rfl rfl ?_
          refine AW.seq ?_
          refine AW.region (M := fun _ => true) ?_
          refine AL.v good (d := 28) (v := .int .u64 (IntKind.u64.wrap ((IntKind.u64.wrap (a0)) * 2 ^ 1))) rfl rfl rfl rfl ?_
          obtain ⟨q21, h22, hr⟩ := bnd1 hr
          refine AL.clN good (d := 29) (xs := [.sl (.own 1) 1 (r_int_u8 []), .int .u64 (IntKind.u64.wrap ((IntKind.u64.wrap (a0)) * 2 ^ 1))]) (res := .sl (.own 1) 1 (r_int_u8 q21)) rfl rfl rfl rfl rfl rfl rfl 1 1 5 rfl rfl (w_f49_1 _ _ _ _ h22) ⟨.inr ⟨⟨_, rfl⟩, rfl⟩, .inl (Wv.refl _), trivial⟩ rfl ?_
          refine AL.v good (d := 7) (v := .sl (.own 1) 1 (r_int_u8 q21)) rfl rfl rfl rfl ?_
          refine AW.seq ?_
          refine AW.draw (M := fun i => false) good.wide (by kernel_rfl) ?_
          refine AL.v good (d := 30) (v := .sl (.own 0) 1 (r_int_u8 q19)) rfl rfl rfl rfl ?_
          refine AL.ln good (d := 31) (m := q19.length) rfl rfl rfl rfl rfl rfl (r_int_u8_length _) ?_
          refine AL.v good (d := 32) (v := .int .i64 v2_1) rfl rfl rfl rfl ?_
          refine AL.v good (d := 33) (v := .int .i64 (IntKind.i64.wrap (v2_1 + 1))) rfl rfl rfl rfl ?_
          refine AL.v good (d := 34) (v := .bool ((q19.length : Int) == (IntKind.i64.wrap (v2_1 + 1)))) rfl rfl rfl rfl ?_
          refine AL.v good (d := 35) (v := .bool ((q19.length : Int) == (IntKind.i64.wrap (v2_1 + 1)))) rfl rfl rfl rfl ?_
          refine AL.cs 35 rfl (fun h23 => ?_) (fun h23 => ?_)
          · replace hr := cnd_t h23 hr
            refine AL.v good (d := 36) (v := .sl (.own 1) 1 (r_int_u8 q21)) rfl rfl rfl rfl ?_
            refine AL.ln good (d := 37) (m := q21.length) rfl rfl rfl rfl rfl rfl (r_int_u8_length _) ?_
            refine AL.v good (d := 38) (v := .int .i64 v2_1) rfl rfl rfl rfl ?_
            refine AL.v good (d := 39) (v := .bool ((q21.length : Int) == v2_1)) rfl rfl rfl rfl ?_
            refine AL.v good (d := 40) (v := .bool ((q21.length : Int) == v2_1)) rfl rfl rfl rfl ?_
            refine AL.v good (d := 41) (v := .bool ((q21.length : Int) == v2_1)) rfl rfl rfl rfl ?_
            refine AL.cs 41 rfl (fun h24 => ?_) (fun h24 => ?_)
            · replace hr := cnd_t h24 hr
              refine AL.v good (d := 42) (v := .sl (.own 0) 1 (r_int_u8 q19)) rfl rfl rfl rfl ?_
              obtain ⟨x25, h26, hr⟩ := bnd1 hr
              refine AL.ix good (d := 43) (r := [.int .u8 x25]) rfl rfl rfl rfl rfl rfl rfl (by decide) (r_int_u8_get h26) ?_
              refine AL.v good (d := 44) (v := .int .u8 x25) rfl rfl rfl rfl ?_
              refine AL.v good (d := 45) (v := .bool (x25 == 1)) rfl rfl rfl rfl ?_
              refine AL.v good (d := 46) (v := .bool (x25 == 1)) rfl rfl rfl rfl ?_
              refine AL.v good (d := 47) (v := .bool (x25 == 1)) rfl rfl rfl rfl ?_
              refine AL.cs 47 rfl (fun h27 => ?_) (fun h27 => ?_)
              · replace hr := cnd_t h27 hr
                refine AL.v good (d := 48) (v := .sl (.own 0) 1 (r_int_u8 q19)) rfl rfl rfl rfl ?_
                obtain ⟨h28, hr⟩ := grd hr
                refine AL.sc good (d := 49) (rows := r_int_u8 q19) (rows2 := r_int_u8 (q19.drop 1)) (m := q19.length) (l := 1) (h := q19.length) rfl rfl rfl rfl rfl rfl rfl (r_int_u8_length _) rfl (bndT rfl h28) (by exact rowF_drop _ _ _) ?_
                refine AL.tos good (d := 50) (l := (q19.drop 1)) rfl rfl rfl rfl rfl rfl rfl rfl (bytesA_rw _) ?_
                refine AL.v good (d := 51) (v := .sl (.own 1) 1 (r_int_u8 q21)) rfl rfl rfl rfl ?_
                refine AL.tos good (d := 52) (l := q21) rfl rfl rfl rfl rfl rfl rfl rfl (bytesA_rw _) ?_
                refine AL.sb good (d := 53) (b := ((strOfNums (q19.drop 1)).data.toList == (strOfNums q21).data.toList)) rfl rfl rfl rfl rfl rfl rfl ?_
                refine AL.v good (d := 54) (v := .bool ((strOfNums (q19.drop 1)).data.toList == (strOfNums q21).data.toList)) rfl rfl rfl rfl ?_
                refine AL.v good (d := 2) (v := .bool ((strOfNums (q19.drop 1)).data.toList == (strOfNums q21).data.toList)) rfl rfl rfl rfl ?_
                refine AW.ret ?_
                obtain rfl := Option.some.inj hr
                exact RetQ.w good (.inr rfl) rfl rfl (Wv.refl _) (by simp [pureA, pureL, pureR, inA, inL, inR, inO, idsIn, encs_pure, enxs_pure, enys_pure, valC_pure, exC_pure, tyC_pure, r_int_u8_pure])
              · replace hr := cnd_f h27 hr
                refine AL.sk good (d := 48) rfl rfl rfl ?_
                refine AL.sk good (d := 49) rfl rfl rfl ?_
                refine AL.sk good (d := 50) rfl rfl rfl ?_
                refine AL.sk good (d := 51) rfl rfl rfl ?_
                refine AL.sk good (d := 52) rfl rfl rfl ?_
                refine AL.sk good (d := 53) rfl rfl rfl ?_
                refine AL.v good (d := 54) (v := .bool false) rfl rfl rfl rfl ?_
                refine AL.v good (d := 2) (v := .bool false) rfl rfl rfl rfl ?_
                refine AW.ret ?_
                obtain rfl := Option.some.inj hr
                exact RetQ.w good (.inr rfl) rfl rfl (Wv.refl _) (by simp [pureA, pureL, pureR, inA, inL, inR, inO, idsIn, encs_pure, enxs_pure, enys_pure, valC_pure, exC_pure, tyC_pure, r_int_u8_pure])
            · replace hr := cnd_f h24 hr
              refine AL.sk good (d := 42) rfl rfl rfl ?_
              refine AL.sk good (d := 43) rfl rfl rfl ?_
              refine AL.sk good (d := 44) rfl rfl rfl ?_
              refine AL.sk good (d := 45) rfl rfl rfl ?_
              refine AL.v good (d := 46) (v := .bool false) rfl rfl rfl rfl ?_
              refine AL.v good (d := 47) (v := .bool false) rfl rfl rfl rfl ?_
              refine AL.sk good (d := 48) rfl rfl rfl ?_
              refine AL.sk good (d := 49) rfl rfl rfl ?_
              refine AL.sk good (d := 50) rfl rfl rfl ?_
              refine AL.sk good (d := 51) rfl rfl rfl ?_
              refine AL.sk good (d := 52) rfl rfl rfl ?_
              refine AL.sk good (d := 53) rfl rfl rfl ?_
              refine AL.v good (d := 54) (v := .bool false) rfl rfl rfl rfl ?_
              refine AL.v good (d := 2) (v := .bool false) rfl rfl rfl rfl ?_
              refine AW.ret ?_
              obtain rfl := Option.some.inj hr
              exact RetQ.w good (.inr rfl) rfl rfl (Wv.refl _) (by simp [pureA, pureL, pureR, inA, inL, inR, inO, idsIn, encs_pure, enxs_pure, enys_pure, valC_pure, exC_pure, tyC_pure, r_int_u8_pure])
          · replace hr := cnd_f h23 hr
            refine AL.sk good (d := 36) rfl rfl rfl ?_
            refine AL.sk good (d := 37) rfl rfl rfl ?_
            refine AL.sk good (d := 38) rfl rfl rfl ?_
            refine AL.sk good (d := 39) rfl rfl rfl ?_
            refine AL.v good (d := 40) (v := .bool false) rfl rfl rfl rfl ?_
            refine AL.v good (d := 41) (v := .bool false) rfl rfl rfl rfl ?_
            refine AL.sk good (d := 42) rfl rfl rfl ?_
            refine AL.sk good (d := 43) rfl rfl rfl ?_
            refine AL.sk good (d := 44) rfl rfl rfl ?_
            refine AL.sk good (d := 45) rfl rfl rfl ?_
            refine AL.v good (d := 46) (v := .bool false) rfl rfl rfl rfl ?_
            refine AL.v good (d := 47) (v := .bool false) rfl rfl rfl rfl ?_
            refine AL.sk good (d := 48) rfl rfl rfl ?_
            refine AL.sk good (d := 49) rfl rfl rfl ?_
            refine AL.sk good (d := 50) rfl rfl rfl ?_
            refine AL.sk good (d := 51) rfl rfl rfl ?_
            refine AL.sk good (d := 52) rfl rfl rfl ?_
            refine AL.sk good (d := 53) rfl rfl rfl ?_
            refine AL.v good (d := 54) (v := .bool false) rfl rfl rfl rfl ?_
            refine AL.v good (d := 2) (v := .bool false) rfl rfl rfl rfl ?_
            refine AW.ret ?_
            obtain rfl := Option.some.inj hr
            exact RetQ.w good (.inr rfl) rfl rfl (Wv.refl _) (by simp [pureA, pureL, pureR, inA, inL, inR, inO, idsIn, encs_pure, enxs_pure, enys_pure, valC_pure, exC_pure, tyC_pure, r_int_u8_pure])

def s_f12 (n : Nat) (a0 : Val) (a1 : Int) : Option Bool :=
  ((s_f45 n).bind fun q1 => (bif (!q1) then some false else ((s_f18 n a0).bind fun q4 => (bif (!q4) then some true else ((s_f46 n [] a0).bind fun q7 => (bif ((q7.length : Int) == 0) then some false else (if (q7.length : Int) ≠ 0 then (if 0 ≤ ((IntKind.i64.wrap (a1)).tmod (q7.length : Int)) ∧ ((IntKind.i64.wrap (a1)).tmod (q7.length : Int)).toNat ≤ q7.length then ((s_f48 n (q7.take (((IntKind.i64.wrap (a1)).tmod (q7.length : Int)).toNat))).bind fun q12 => some ((q12.2.2 == 3) && (q12.2.1 == 0))) else none) else none)))))))

theorem w_f12 (n : Nat) (a0 : Val) (a1 : Int) (r : Bool) (hr : s_f12 n a0 a1 = some r) : ACall Try.prog 12 [.agg (valC a0), .int .u16 a1] (.bool r) := by
  refine ACall.go [(0, .agg (valC a0)), (1, .int .u16 a1)] Try.func12 rfl Try.ntmps12 rfl rfl (by simp [pureA, pureL, pureR, inA, inL, inR, inO, idsIn, encs_pure, enxs_pure, enys_pure, valC_pure, exC_pure, tyC_pure, r_int_u8_pure]) ?_
  rw [s_f12] at hr
  refine AW.seq ?_
  refine AW.region (M := fun _ => true) ?_
  refine AL.bx good (d := 2) (l := [.int .i64 a0.kind, .int .i64 a0.i, .bool a0.b, .str a0.s, .sl .ro 5 (encs a0.t)]) rfl rfl rfl rfl rfl rfl 0 rfl ?_
  refine AL.v good (d := 4) (v := .bool false) rfl rfl rfl rfl ?_
  refine AW.seq ?_
  refine AW.seq ?_
  refine AW.region (M := fun _ => true) ?_
  obtain ⟨q1, h2, hr⟩ := bnd1 hr
  refine AL.cw good (d := 9) (xs := []) (res := .bool q1) rfl rfl rfl rfl rfl rfl rfl (w_f45 _ _ h2) trivial (by simp [pureA, pureL, pureR, inA, inL, inR, inO, idsIn, encs_pure, enxs_pure, enys_pure, valC_pure, exC_pure, tyC_pure, r_int_u8_pure]) ?_
  refine AL.v good (d := 10) (v := .bool (!q1)) rfl rfl rfl rfl ?_
  refine AW.if rfl (fun h3 => ?_) (fun h3 => ?_)
  · replace hr := cnd_t h3 hr
    refine AW.seq ?_
    refine AW.region (M := fun _ => true) ?_
    refine AL.v good (d := 4) (v := .bool false) rfl rfl rfl rfl ?_
    refine AW.ret ?_
    obtain rfl := Option.some.inj hr
    exact RetQ.w good (.inr rfl) rfl rfl (Wv.refl _) (by simp [pureA, pureL, pureR, inA, inL, inR, inO, idsIn, encs_pure, enxs_pure, enys_pure, valC_pure, exC_pure, tyC_pure, r_int_u8_pure])
  · replace hr := cnd_f h3 hr
    refine AW.skip ?_
    refine AW.seq ?_
    refine AW.seq ?_
    refine AW.region (M := fun _ => true) ?_
    refine AL.v good (d := 11) (v := .agg [.int .i64 a0.kind, .int .i64 a0.i, .bool a0.b, .str a0.s, .sl .ro 5 (encs a0.t)]) rfl rfl rfl rfl ?_
    obtain ⟨q4, h5, hr⟩ := bnd1 hr
    refine AL.cw good (d := 12) (xs := [.agg (valC a0)]) (res := .bool q4) rfl rfl rfl rfl rfl rfl rfl (w_f18 _ _ _ h5) ⟨(Wv.refl _), trivial⟩ (by simp [pureA, pureL, pureR, inA, inL, inR, inO, idsIn, encs_pure, enxs_pure, enys_pure, valC_pure, exC_pure, tyC_pure, r_int_u8_pure]) ?_
    refine AL.v good (d := 13) (v := .bool (!q4)) rfl rfl rfl rfl ?_
    refine AW.if rfl (fun h6 => ?_) (fun h6 => ?_)
    · replace hr := cnd_t h6 hr
      refine AW.seq ?_
      refine AW.region (M := fun _ => true) ?_
      refine AL.v good (d := 4) (v := .bool true) rfl rfl rfl rfl ?_
      refine AW.ret ?_
      obtain rfl := Option.some.inj hr
      exact RetQ.w good (.inr rfl) rfl rfl (Wv.refl _) (by simp [pureA, pureL, pureR, inA, inL, inR, inO, idsIn, encs_pure, enxs_pure, enys_pure, valC_pure, exC_pure, tyC_pure, r_int_u8_pure])
    · replace hr := cnd_f h6 hr
      refine AW.skip ?_
      refine AW.seq ?_
      refine AW.region (M := fun _ => true) ?_
      refine AL.v good (d := 14) (v := .agg [.int .i64 a0.kind, .int .i64 a0.i, .bool a0.b, .str a0.s, .sl .ro 5 (encs a0.t)]) rfl rfl rfl rfl ?_
      obtain ⟨q7, h8, hr⟩ := bnd1 hr
      refine AL.clN good (d := 15) (xs := [.sl (.own 1) 1 (r_int_u8 []), .agg (valC a0)]) (res := .sl (.own 1) 1 (r_int_u8 q7)) rfl rfl rfl rfl rfl rfl rfl 1 1 5 rfl rfl (w_f46_1 _ _ _ _ h8) ⟨.inr ⟨⟨_, rfl⟩, rfl⟩, .inl (Wv.refl _), trivial⟩ rfl ?_
      refine AL.v good (d := 5) (v := .sl (.own 1) 1 (r_int_u8 q7)) rfl rfl rfl rfl ?_
      refine AW.seq ?_
      refine AW.seq ?_
      refine AW.region (M := fun _ => true) ?_
      refine AL.v good (d := 16) (v := .sl (.own 1) 1 (r_int_u8 q7)) rfl rfl rfl rfl ?_
      refine AL.ln good (d := 17) (m := q7.length) rfl rfl rfl rfl rfl rfl (r_int_u8_length _) ?_
      refine AL.v good (d := 18) (v := .bool ((q7.length : Int) == 0)) rfl rfl rfl rfl ?_
      refine AW.if rfl (fun h9 => ?_) (fun h9 => ?_)
      · replace hr := cnd_t h9 hr
        refine AW.seq ?_
        refine AW.region (M := fun _ => true) ?_
        refine AL.v good (d := 4) (v := .bool false) rfl rfl rfl rfl ?_
        refine AW.ret ?_
        obtain rfl := Option.some.inj hr
        exact RetQ.w good (.inr rfl) rfl rfl (Wv.refl _) (by simp [pureA, pureL, pureR, inA, inL, inR, inO, idsIn, encs_pure, enxs_pure, enys_pure, valC_pure, exC_pure, tyC_pure, r_int_u8_pure])
      · replace hr := cnd_f h9 hr
        refine AW.skip ?_
        refine AW.seq ?_
        refine AW.region (M := fun _ => true) ?_
        refine AL.v good (d := 20) (v := .sl (.own 1) 1 (r_int_u8 q7)) rfl rfl rfl rfl ?_
        refine AL.v good (d := 21) (v := .int .u16 a1) rfl rfl rfl rfl ?_
        refine AL.v good (d := 22) (v := .int .i64 (IntKind.i64.wrap (a1))) rfl rfl rfl rfl ?_
        refine AL.v good (d := 23) (v := .sl (.own 1) 1 (r_int_u8 q7)) rfl rfl rfl rfl ?_
        refine AL.ln good (d := 24) (m := q7.length) rfl rfl rfl rfl rfl rfl (r_int_u8_length _) ?_
        obtain ⟨h10, hr⟩ := grd hr
        refine AL.v good (d := 25) (v := .int .i64 ((IntKind.i64.wrap (a1)).tmod (q7.length : Int))) rfl rfl rfl (by simp only [aval]; exact avq_rem h10) ?_
        obtain ⟨h11, hr⟩ := grd hr
        refine AL.sc good (d := 26) (rows := r_int_u8 q7) (rows2 := r_int_u8 (q7.take (((IntKind.i64.wrap (a1)).tmod (q7.length : Int)).toNat))) (m := q7.length) (l := 0) (h := ((IntKind.i64.wrap (a1)).tmod (q7.length : Int)).toNat) rfl rfl rfl rfl rfl rfl rfl (r_int_u8_length _) (bndS rfl h11.1 h11.2) rfl (by exact rowF_take _ _ _) ?_
        obtain ⟨q12, h13, hr⟩ := bnd1 hr
        refine AL.cw good (d := 27) (xs := [.sl .ro 1 (r_int_u8 (q7.take (((IntKind.i64.wrap (a1)).tmod (q7.length : Int)).toNat)))]) (res := .tup [.agg [.int .i64 q12.1.kind, .int .i64 q12.1.i, .bool q12.1.b, .str q12.1.s, .sl .ro 5 (encs q12.1.t)], .int .i64 q12.2.1, .int .i64 q12.2.2]) rfl rfl rfl rfl rfl rfl rfl (w_f48 _ _ _ h13) ⟨(Wv.refl _), trivial⟩ (by simp [pureA, pureL, pureR, inA, inL, inR, inO, idsIn, encs_pure, enxs_pure, enys_pure, valC_pure, exC_pure, tyC_pure, r_int_u8_pure]) ?_
        refine AL.v good (d := 19) (v := .tup [.agg [.int .i64 q12.1.kind, .int .i64 q12.1.i, .bool q12.1.b, .str q12.1.s, .sl .ro 5 (encs q12.1.t)], .int .i64 q12.2.1, .int .i64 q12.2.2]) rfl rfl rfl rfl ?_
        refine AL.v good (d := 28) (v := .agg [.int .i64 q12.1.kind, .int .i64 q12.1.i, .bool q12.1.b, .str q12.1.s, .sl .ro 5 (encs q12.1.t)]) rfl rfl rfl rfl ?_
        refine AL.v good (d := 29) (v := .int .i64 q12.2.1) rfl rfl rfl rfl ?_
        refine AL.v good (d := 30) (v := .int .i64 q12.2.2) rfl rfl rfl rfl ?_
        refine AL.alc good (d := 6) rfl rfl rfl rfl rfl 2 rfl ?_
        refine AL.st2 good (c2 := [.int .i64 q12.1.kind, .int .i64 q12.1.i, .bool q12.1.b, .str q12.1.s, .sl .ro 5 (encs q12.1.t)]) rfl rfl rfl rfl rfl rfl rfl rfl rfl rfl rfl rfl ?_
        refine AL.v good (d := 7) (v := .int .i64 q12.2.1) rfl rfl rfl rfl ?_
        refine AL.v good (d := 8) (v := .int .i64 q12.2.2) rfl rfl rfl rfl ?_
        refine AW.seq ?_
        refine AW.region (M := fun _ => true) ?_
        refine AL.v good (d := 31) (v := .int .i64 q12.2.2) rfl rfl rfl rfl ?_
        refine AL.v good (d := 32) (v := .bool (q12.2.2 == 3)) rfl rfl rfl rfl ?_
        refine AL.vb good (d := 33) (b := (q12.2.2 == 3)) rfl rfl rfl rfl (fun g14 h15 => ?_)
        refine AL.gv good (d := 34) (c := g14) (v := .int .i64 q12.2.1) (rd := []) rfl rfl (by cases g14 <;> rfl) (fun h => by cases g14 <;> first | rfl | exact absurd h (by decide)) ?_
        refine AL.gv good (d := 35) (c := g14) (v := .bool (q12.2.1 == 0)) (rd := []) rfl rfl (by cases g14 <;> rfl) (fun h => by cases g14 <;> first | rfl | exact absurd h (by decide)) ?_
        refine AL.v good (d := 36) (v := .bool (g14 && (q12.2.1 == 0))) (rd := []) rfl rfl rfl (by cases g14 <;> rfl) ?_
        refine AL.v good (d := 4) (v := .bool (g14 && (q12.2.1 == 0))) rfl rfl rfl rfl ?_
        subst h15
        refine AW.ret ?_
        obtain rfl := Option.some.inj hr
        exact RetQ.w good (.inr rfl) rfl rfl (Wv.refl _) (by simp [pureA, pureL, pureR, inA, inL, inR, inO, idsIn, encs_pure, enxs_pure, enys_pure, valC_pure, exC_pure, tyC_pure, r_int_u8_pure])

end Go.Proofs.Ytbcjcekoonebiaa.Tl
