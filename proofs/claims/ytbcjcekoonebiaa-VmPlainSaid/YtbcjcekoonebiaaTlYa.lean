/- Definitions and walks: values put in bytes. Conditions: none. -/
import Derived.Test.YtbcjcekoonebiaaTlYr
set_option linter.unusedVariables false
set_option linter.unusedSimpArgs false
namespace Go.Proofs.Ytbcjcekoonebiaa.Tl
open Go Go.RowKit



mutual
def s_f49_l1 : Nat → (List Int) → Int → Option (List Int)
  | 0, _, _ => none
  | n + 1, v1_1, v1_2 => (bif (decide (v1_2 ≥ 128)) then (if v1_1.length + 1 ≤ 1000000 then (s_f49_l1 n (v1_1 ++ [(bits .or .u8 (IntKind.u8.wrap (v1_2)) 128)]) (v1_2.fdiv (2 ^ 7))) else none) else (if v1_1.length + 1 ≤ 1000000 then some (v1_1 ++ [(IntKind.u8.wrap (v1_2))]) else none))
end
def s_f49 (n : Nat) (a0 : List Int) (a1 : Int) : Option (List Int) :=
  (s_f49_l1 n a0 a1)

theorem w_f49_1 (n : Nat) (a0 : List Int) (a1 : Int) (r : List Int) (hr : s_f49 n a0 a1 = some r) : ACallH Try.prog 49 [.sl (.own 1) 1 (r_int_u8 a0), .int .u64 a1] [(1, .row 5 1 (r_int_u8 a0).length)] [(1, .row 5 1 (r_int_u8 r).length)] (.sl (.own 1) 1 (r_int_u8 r)) := by
  refine ACallH.go [(0, .sl (.own 1) 1 (r_int_u8 a0)), (1, .int .u64 a1)] [(1, .row 5 1 (r_int_u8 a0).length)] Try.func49 rfl Try.ntmps49 rfl rfl rfl (by simp [pureA, pureL, pureR, inA, inL, inR, inO, idsIn, encs_pure, enxs_pure, enys_pure, valC_pure, exC_pure, tyC_pure, r_int_u8_pure]) (List.forall_mem_cons.2 ⟨(by simp [pureA, pureL, pureR, inA, inL, inR, inO, idsIn, encs_pure, enxs_pure, enys_pure, valC_pure, exC_pure, tyC_pure, r_int_u8_pure]), (fun _ h => by cases h)⟩) (List.forall_mem_cons.2 ⟨⟨rfl, (by simp [pureA, pureL, pureR, inA, inL, inR, inO, idsIn, encs_pure, enxs_pure, enys_pure, valC_pure, exC_pure, tyC_pure, r_int_u8_pure])⟩, (fun _ h => by cases h)⟩) (by simp [pureA, pureL, pureR, inA, inL, inR, inO, idsIn, encs_pure, enxs_pure, enys_pure, valC_pure, exC_pure, tyC_pure, r_int_u8_pure]) ?_
  rw [s_f49] at hr
  refine AW.seq ?_
  refine AW.region (M := fun _ => true) ?_
  refine AL.v good (d := 4) (v := .sl .nil 0 []) rfl rfl rfl rfl ?_
  refine AW.seq ?_
  refine AW.block ?_
  refine AW.lpw (fun x : Nat × (List Int) × Int => [(0, .sl (.own 1) 1 (r_int_u8 x.2.1)), (1, .int .u64 x.2.2)]) (fun x => [(1, .row 5 1 (r_int_u8 x.2.1).length)]) (fun x => s_f49_l1 x.1 x.2.1 x.2.2 = some r ∧ x.1 ≤ n) (fun x => x.1) (n, a0, a1) ⟨(idsIn_sub rfl), List.forall_mem_cons.2 ⟨⟨⟨_, rfl, Wv.refl _⟩, (by simp [pureA, pureL, pureR, inA, inL, inR, inO, idsIn, encs_pure, enxs_pure, enys_pure, valC_pure, exC_pure, tyC_pure, r_int_u8_pure])⟩, List.forall_mem_cons.2 ⟨⟨⟨_, rfl, Wv.refl _⟩, (by simp [pureA, pureL, pureR, inA, inL, inR, inO, idsIn, encs_pure, enxs_pure, enys_pure, valC_pure, exC_pure, tyC_pure, r_int_u8_pure])⟩, (fun _ h => by cases h)⟩⟩, List.forall_mem_cons.2 ⟨⟨⟨_, rfl, ⟨rfl, rfl, rfl⟩⟩, (by simp [pureA, pureL, pureR, inA, inL, inR, inO, idsIn, encs_pure, enxs_pure, enys_pure, valC_pure, exC_pure, tyC_pure, r_int_u8_pure])⟩, (fun _ h => by cases h)⟩⟩ ⟨hr, Nat.le_refl _⟩ (fun ⟨m, v1_1, v1_2⟩ hx => ?_)
  obtain ⟨hr, hm⟩ := hx
  try dsimp only at hr hm
  cases m with
  | zero => rw [s_f49_l1] at hr; cases hr
  | succ m =>
    rw [s_f49_l1] at hr
    show AW Try.prog _ _ _ (mkS 20 [(0, .sl (.own 1) 1 (r_int_u8 v1_1)), (1, .int .u64 v1_2)] [(1, .row 5 1 (r_int_u8 v1_1).length)])
    refine AW.seq ?_
    refine AW.seq ?_
    refine AW.region (M := fun _ => true) ?_
    refine AL.v good (d := 5) (v := .int .u64 v1_2) rfl rfl rfl rfl ?_
    refine AL.v good (d := 6) (v := .bool (decide (v1_2 ≥ 128))) rfl rfl rfl rfl ?_
    refine AW.if rfl (fun h3 => ?_) (fun h3 => ?_)
    · replace hr := cnd_t h3 hr
      refine AW.skip ?_
      refine AW.seq ?_
      refine AW.block ?_
      refine AW.region (M := fun _ => true) ?_
      refine AL.v good (d := 9) (v := .sl (.own 1) 1 (r_int_u8 v1_1)) rfl rfl rfl rfl ?_
      refine AL.v good (d := 10) (v := .int .u64 v1_2) rfl rfl rfl rfl ?_
      refine AL.v good (d := 11) (v := .int .u8 (IntKind.u8.wrap (v1_2))) rfl rfl rfl rfl ?_
      refine AL.v good (d := 12) (v := .int .u8 (bits .or .u8 (IntKind.u8.wrap (v1_2)) 128)) rfl rfl rfl rfl ?_
      refine AL.lit good (d := 13) (rows := [[.int .u8 (bits .or .u8 (IntKind.u8.wrap (v1_2)) 128)]]) rfl rfl rfl rfl rfl rfl rfl rfl rfl 2 rfl ?_
      obtain ⟨h4, hr⟩ := grd hr
      refine AL.aw2 good (d := 14) (rows := r_int_u8 v1_1) (news := [[.int .u8 (bits .or .u8 (IntKind.u8.wrap (v1_2)) 128)]]) (rows2 := r_int_u8 (v1_1 ++ [(bits .or .u8 (IntKind.u8.wrap (v1_2)) 128)])) rfl rfl rfl rfl rfl rfl rfl rfl rfl (by simp) rfl rfl rfl ⟨⟨Wv.refl _, trivial⟩, trivial⟩ (by simp [r_int_u8, rowF]) (by rw [r_int_u8_length, List.length_append]; exact h4) rfl ?_
      refine AL.v good (d := 0) (v := .sl (.own 1) 1 (r_int_u8 (v1_1 ++ [(bits .or .u8 (IntKind.u8.wrap (v1_2)) 128)]))) rfl rfl rfl rfl ?_
      refine AW.region (M := fun _ => true) ?_
      refine AL.v good (d := 7) (v := .int .u64 v1_2) rfl rfl rfl rfl ?_
      refine AL.v good (d := 8) (v := .int .u64 (v1_2.fdiv (2 ^ 7))) rfl rfl rfl rfl ?_
      refine AL.v good (d := 1) (v := .int .u64 (v1_2.fdiv (2 ^ 7))) rfl rfl rfl rfl ?_
      exact ⟨(m, (v1_1 ++ [(bits .or .u8 (IntKind.u8.wrap (v1_2)) 128)]), (v1_2.fdiv (2 ^ 7))), _, _, rfl, ⟨(idsIn_sub rfl), List.forall_mem_cons.2 ⟨⟨⟨_, rfl, Wv.refl _⟩, (by simp [pureA, pureL, pureR, inA, inL, inR, inO, idsIn, encs_pure, enxs_pure, enys_pure, valC_pure, exC_pure, tyC_pure, r_int_u8_pure])⟩, List.forall_mem_cons.2 ⟨⟨⟨_, rfl, Wv.refl _⟩, (by simp [pureA, pureL, pureR, inA, inL, inR, inO, idsIn, encs_pure, enxs_pure, enys_pure, valC_pure, exC_pure, tyC_pure, r_int_u8_pure])⟩, (fun _ h => by cases h)⟩⟩, List.forall_mem_cons.2 ⟨⟨⟨_, rfl, ⟨rfl, rfl, rfl⟩⟩, (by simp [pureA, pureL, pureR, inA, inL, inR, inO, idsIn, encs_pure, enxs_pure, enys_pure, valC_pure, exC_pure, tyC_pure, r_int_u8_pure])⟩, (fun _ h => by cases h)⟩⟩, ⟨hr, Nat.le_of_succ_le hm⟩, Nat.lt_succ_self _⟩
    · replace hr := cnd_f h3 hr
      refine AW.exit ?_
      refine AW.seq ?_
      refine AW.region (M := fun _ => true) ?_
      refine AL.v good (d := 15) (v := .sl (.own 1) 1 (r_int_u8 v1_1)) rfl rfl rfl rfl ?_
      refine AL.v good (d := 16) (v := .int .u64 v1_2) rfl rfl rfl rfl ?_
      refine AL.v good (d := 17) (v := .int .u8 (IntKind.u8.wrap (v1_2))) rfl rfl rfl rfl ?_
      refine AL.lit good (d := 18) (rows := [[.int .u8 (IntKind.u8.wrap (v1_2))]]) rfl rfl rfl rfl rfl rfl rfl rfl rfl 2 rfl ?_
      obtain ⟨h5, hr⟩ := grd hr
      refine AL.aw2 good (d := 19) (rows := r_int_u8 v1_1) (news := [[.int .u8 (IntKind.u8.wrap (v1_2))]]) (rows2 := r_int_u8 (v1_1 ++ [(IntKind.u8.wrap (v1_2))])) rfl rfl rfl rfl rfl rfl rfl rfl rfl (by simp) rfl rfl rfl ⟨⟨Wv.refl _, trivial⟩, trivial⟩ (by simp [r_int_u8, rowF]) (by rw [r_int_u8_length, List.length_append]; exact h5) rfl ?_
      refine AL.v good (d := 4) (v := .sl (.own 1) 1 (r_int_u8 (v1_1 ++ [(IntKind.u8.wrap (v1_2))]))) rfl rfl rfl rfl ?_
      refine AW.ret ?_
      obtain rfl := Option.some.inj hr
      exact RetH.w good (.inr rfl) rfl rfl (Wv.refl _) (List.forall_mem_cons.2 ⟨rfl, (fun _ h => by cases h)⟩)

def s_f80 (n : Nat) (a0 : List Int) (a1 : ByteArray) : Option (List Int) :=
  ((s_f49 n a0 (IntKind.u64.wrap ((a1.size : Int)))).bind fun q1 => (if q1.length + a1.size ≤ 1000000 then some (q1 ++ (bI8 a1)) else none))

theorem w_f80_1 (n : Nat) (a0 : List Int) (a1 : ByteArray) (r : List Int) (hr : s_f80 n a0 a1 = some r) : ACallH Try.prog 80 [.sl (.own 1) 1 (r_int_u8 a0), .str a1] [(1, .row 5 1 (r_int_u8 a0).length)] [(1, .row 5 1 (r_int_u8 r).length)] (.sl (.own 1) 1 (r_int_u8 r)) := by
  refine ACallH.go [(0, .sl (.own 1) 1 (r_int_u8 a0)), (1, .str a1)] [(1, .row 5 1 (r_int_u8 a0).length)] Try.func80 rfl Try.ntmps80 rfl rfl rfl (by simp [pureA, pureL, pureR, inA, inL, inR, inO, idsIn, encs_pure, enxs_pure, enys_pure, valC_pure, exC_pure, tyC_pure, r_int_u8_pure]) (List.forall_mem_cons.2 ⟨(by simp [pureA, pureL, pureR, inA, inL, inR, inO, idsIn, encs_pure, enxs_pure, enys_pure, valC_pure, exC_pure, tyC_pure, r_int_u8_pure]), (fun _ h => by cases h)⟩) (List.forall_mem_cons.2 ⟨⟨rfl, (by simp [pureA, pureL, pureR, inA, inL, inR, inO, idsIn, encs_pure, enxs_pure, enys_pure, valC_pure, exC_pure, tyC_pure, r_int_u8_pure])⟩, (fun _ h => by cases h)⟩) (by simp [pureA, pureL, pureR, inA, inL, inR, inO, idsIn, encs_pure, enxs_pure, enys_pure, valC_pure, exC_pure, tyC_pure, r_int_u8_pure]) ?_
  rw [s_f80] at hr
  refine AW.seq ?_
  refine AW.region (M := fun _ => true) ?_
  refine AL.v good (d := 4) (v := .sl .nil 0 []) rfl rfl rfl rfl ?_
  refine AW.seq ?_
  refine AW.region (M := fun _ => true) ?_
  refine AL.v good (d := 5) (v := .sl (.own 1) 1 (r_int_u8 a0)) rfl rfl rfl rfl ?_
  refine AL.v good (d := 6) (v := .str a1) rfl rfl rfl rfl ?_
  refine AL.v good (d := 7) (v := .int .i64 (a1.size : Int)) rfl rfl rfl rfl ?_
  refine AL.v good (d := 8) (v := .int .u64 (IntKind.u64.wrap ((a1.size : Int)))) rfl rfl rfl rfl ?_
  obtain ⟨q1, h2, hr⟩ := bnd1 hr
  refine AL.clW good (d := 9) (xs := [.sl (.own 1) 1 (r_int_u8 a0), .int .u64 (IntKind.u64.wrap ((a1.size : Int)))]) (rd := [(1, .row 5 1 (r_int_u8 a0).length)]) (up := [(1, .row 5 1 (r_int_u8 q1).length)]) (res := .sl (.own 1) 1 (r_int_u8 q1)) rfl rfl rfl rfl rfl rfl rfl (w_f49_1 _ _ _ _ h2) ⟨(Wv.refl _), (Wv.refl _), trivial⟩ (List.forall_mem_cons.2 ⟨rfl, (fun _ h => by cases h)⟩) (List.forall_mem_cons.2 ⟨⟨_, .head _⟩, (fun _ h => by cases h)⟩) rfl rfl ?_
  refine AL.v good (d := 10) (v := .str a1) rfl rfl rfl rfl ?_
  obtain ⟨h3, hr⟩ := grd hr
  refine AL.apS good (d := 11) (rows := r_int_u8 q1) (rows2 := r_int_u8 (q1 ++ (bI8 a1))) rfl rfl rfl rfl rfl (by kernel_rfl) rfl rfl rfl rfl rfl (bR8_eq _ _) (by rw [r_int_u8_length, List.length_append, bI8_length]; exact h3) ?_
  refine AL.v good (d := 4) (v := .sl (.own 1) 1 (r_int_u8 (q1 ++ (bI8 a1)))) rfl rfl rfl rfl ?_
  refine AW.ret ?_
  obtain rfl := Option.some.inj hr
  exact RetH.w good (.inr rfl) rfl rfl (Wv.refl _) (List.forall_mem_cons.2 ⟨rfl, (fun _ h => by cases h)⟩)

mutual
def s_f46 : Nat → (List Int) → Val → Option (List Int)
  | 0, _, _ => none
  | n + 1, a0, a1 => (if a0.length + 1 ≤ 1000000 then (bif (a1.kind == 1) then ((s_f49 n (a0 ++ [(IntKind.u8.wrap (a1.kind))]) (bits .xor .u64 (IntKind.u64.wrap ((IntKind.u64.wrap (a1.i)) * 2 ^ 1)) (IntKind.u64.wrap ((a1.i.fdiv (2 ^ 63)))))).bind fun q3 => some q3) else (bif (a1.kind == 2) then (bif a1.b then (if (a0 ++ [(IntKind.u8.wrap (a1.kind))]).length + 1 ≤ 1000000 then some ((a0 ++ [(IntKind.u8.wrap (a1.kind))]) ++ [1]) else none) else (if (a0 ++ [(IntKind.u8.wrap (a1.kind))]).length + 1 ≤ 1000000 then some ((a0 ++ [(IntKind.u8.wrap (a1.kind))]) ++ [0]) else none)) else (bif (a1.kind == 3) then ((s_f80 n (a0 ++ [(IntKind.u8.wrap (a1.kind))]) a1.s).bind fun q10 => some q10) else (if (a0 ++ [(IntKind.u8.wrap (a1.kind))]).length + 1 ≤ 1000000 then (s_f46_l1 n a1 ((a0 ++ [(IntKind.u8.wrap (a1.kind))]) ++ [(IntKind.u8.wrap ((a1.t.length : Int)))]) 0) else none)))) else none)
def s_f46_l1 : Nat → Val → (List Int) → Nat → Option (List Int)
  | 0, _, _, _ => none
  | n + 1, a1, v1_1, v1_2 => (bif (decide ((v1_2 : Int) < (a1.t.length : Int))) then ((a1.t[v1_2]?).bind fun x21 => ((s_f46 n v1_1 x21).bind fun q23 => (s_f46_l1 n a1 q23 (v1_2 + 1)))) else some v1_1)
end

theorem w_f46_1_a (n : Nat) (ih : ∀ (m : Nat) (a0 : List Int) (a1 : Val) (r : List Int), s_f46 m a0 a1 = some r → m < n → ACallH Try.prog 46 [.sl (.own 1) 1 (r_int_u8 a0), .agg (valC a1)] [(1, .row 5 1 (r_int_u8 a0).length)] [(1, .row 5 1 (r_int_u8 r).length)] (.sl (.own 1) 1 (r_int_u8 r))) (a0 : List Int) (a1 : Val) (r : List Int) (hr : s_f46 n a0 a1 = some r) : ACallH Try.prog 46 [.sl (.own 1) 1 (r_int_u8 a0), .agg (valC a1)] [(1, .row 5 1 (r_int_u8 a0).length)] [(1, .row 5 1 (r_int_u8 r).length)] (.sl (.own 1) 1 (r_int_u8 r)) := by
  refine ACallH.go [(0, .sl (.own 1) 1 (r_int_u8 a0)), (1, .agg (valC a1))] [(1, .row 5 1 (r_int_u8 a0).length)] Try.func46 rfl Try.ntmps46 rfl rfl rfl (by simp [pureA, pureL, pureR, inA, inL, inR, inO, idsIn, encs_pure, enxs_pure, enys_pure, valC_pure, exC_pure, tyC_pure, r_int_u8_pure]) (List.forall_mem_cons.2 ⟨(by simp [pureA, pureL, pureR, inA, inL, inR, inO, idsIn, encs_pure, enxs_pure, enys_pure, valC_pure, exC_pure, tyC_pure, r_int_u8_pure]), (fun _ h => by cases h)⟩) (List.forall_mem_cons.2 ⟨⟨rfl, (by simp [pureA, pureL, pureR, inA, inL, inR, inO, idsIn, encs_pure, enxs_pure, enys_pure, valC_pure, exC_pure, tyC_pure, r_int_u8_pure])⟩, (fun _ h => by cases h)⟩) (by simp [pureA, pureL, pureR, inA, inL, inR, inO, idsIn, encs_pure, enxs_pure, enys_pure, valC_pure, exC_pure, tyC_pure, r_int_u8_pure]) ?_
  cases n with
  | zero => rw [s_f46] at hr; cases hr
  | succ n =>
    rw [s_f46] at hr
    refine AW.seq ?_
    refine AW.region (M := fun _ => true) ?_
    refine AL.bx good (d := 3) (l := [.int .i64 a1.kind, .int .i64 a1.i, .bool a1.b, .str a1.s, .sl .ro 5 (encs a1.t)]) rfl rfl rfl rfl rfl rfl 2 rfl ?_
    refine AL.v good (d := 4) (v := .sl .nil 0 []) rfl rfl rfl rfl ?_
    refine AW.seq ?_
    refine AW.region (M := fun _ => true) ?_
    refine AL.v good (d := 7) (v := .sl (.own 1) 1 (r_int_u8 a0)) rfl rfl rfl rfl ?_
    refine AL.v good (d := 8) (v := .ptr 2 0) rfl rfl rfl rfl ?_
    refine AL.v good (d := 9) (v := .int .i64 a1.kind) rfl rfl rfl rfl ?_
    refine AL.v good (d := 10) (v := .int .u8 (IntKind.u8.wrap (a1.kind))) rfl rfl rfl rfl ?_
    refine AL.lit good (d := 11) (rows := [[.int .u8 (IntKind.u8.wrap (a1.kind))]]) rfl rfl rfl rfl rfl rfl rfl rfl rfl 3 rfl ?_
    obtain ⟨h1, hr⟩ := grd hr
    refine AL.aw2 good (d := 12) (rows := r_int_u8 a0) (news := [[.int .u8 (IntKind.u8.wrap (a1.kind))]]) (rows2 := r_int_u8 (a0 ++ [(IntKind.u8.wrap (a1.kind))])) rfl rfl rfl rfl rfl rfl rfl rfl rfl (by simp) rfl rfl rfl ⟨⟨Wv.refl _, trivial⟩, trivial⟩ (by simp [r_int_u8, rowF]) (by rw [r_int_u8_length, List.length_append]; exact h1) rfl ?_
    refine AL.v good (d := 0) (v := .sl (.own 1) 1 (r_int_u8 (a0 ++ [(IntKind.u8.wrap (a1.kind))]))) rfl rfl rfl rfl ?_
    refine AW.seq ?_
    refine AW.seq ?_
    refine AW.region (M := fun _ => true) ?_
    refine AL.v good (d := 13) (v := .ptr 2 0) rfl rfl rfl rfl ?_
    refine AL.v good (d := 14) (v := .int .i64 a1.kind) rfl rfl rfl rfl ?_
    refine AW.block ?_
    refine AW.seq ?_
    refine AW.region (M := fun _ => true) ?_
    refine AL.v good (d := 16) (v := .bool (a1.kind == 1)) rfl rfl rfl rfl ?_
    refine AL.v good (d := 15) (v := .bool (a1.kind == 1)) rfl rfl rfl rfl ?_
    refine AW.if rfl (fun h2 => ?_) (fun h2 => ?_)
    · replace hr := cnd_t h2 hr
      refine AW.seq ?_
      refine AW.region (M := fun _ => true) ?_
      refine AL.v good (d := 17) (v := .sl (.own 1) 1 (r_int_u8 (a0 ++ [(IntKind.u8.wrap (a1.kind))]))) rfl rfl rfl rfl ?_
      refine AL.v good (d := 18) (v := .ptr 2 1) rfl rfl rfl rfl ?_
      refine AL.v good (d := 19) (v := .int .i64 a1.i) rfl rfl rfl rfl ?_
      refine AL.v good (d := 20) (v := .int .u64 (IntKind.u64.wrap (a1.i))) rfl rfl rfl rfl ?_
      refine AL.v good (d := 21) (v := .int .u64 (IntKind.u64.wrap ((IntKind.u64.wrap (a1.i)) * 2 ^ 1))) rfl rfl rfl rfl ?_
      refine AL.v good (d := 22) (v := .ptr 2 1) rfl rfl rfl rfl ?_
      refine AL.v good (d := 23) (v := .int .i64 a1.i) rfl rfl rfl rfl ?_
      refine AL.v good (d := 24) (v := .int .i64 (a1.i.fdiv (2 ^ 63))) rfl rfl rfl rfl ?_
      refine AL.v good (d := 25) (v := .int .u64 (IntKind.u64.wrap ((a1.i.fdiv (2 ^ 63))))) rfl rfl rfl rfl ?_
      refine AL.v good (d := 26) (v := .int .u64 (bits .xor .u64 (IntKind.u64.wrap ((IntKind.u64.wrap (a1.i)) * 2 ^ 1)) (IntKind.u64.wrap ((a1.i.fdiv (2 ^ 63)))))) rfl rfl rfl rfl ?_
      obtain ⟨q3, h4, hr⟩ := bnd1 hr
      refine AL.clW good (d := 27) (xs := [.sl (.own 1) 1 (r_int_u8 (a0 ++ [(IntKind.u8.wrap (a1.kind))])), .int .u64 (bits .xor .u64 (IntKind.u64.wrap ((IntKind.u64.wrap (a1.i)) * 2 ^ 1)) (IntKind.u64.wrap ((a1.i.fdiv (2 ^ 63)))))]) (rd := [(1, .row 5 1 (r_int_u8 (a0 ++ [(IntKind.u8.wrap (a1.kind))])).length)]) (up := [(1, .row 5 1 (r_int_u8 q3).length)]) (res := .sl (.own 1) 1 (r_int_u8 q3)) rfl rfl rfl rfl rfl rfl rfl (w_f49_1 _ _ _ _ h4) ⟨(Wv.refl _), (Wv.refl _), trivial⟩ (List.forall_mem_cons.2 ⟨rfl, (fun _ h => by cases h)⟩) (List.forall_mem_cons.2 ⟨⟨_, .head _⟩, (fun _ h => by cases h)⟩) rfl rfl ?_
      refine AL.v good (d := 4) (v := .sl (.own 1) 1 (r_int_u8 q3)) rfl rfl rfl rfl ?_
      refine AW.ret ?_
      obtain rfl := Option.some.inj hr
      exact RetH.w good (.inr rfl) rfl rfl (Wv.refl _) (List.forall_mem_cons.2 ⟨rfl, (fun _ h => by cases h)⟩)
    · replace hr := cnd_f h2 hr
      refine AW.seq ?_
      refine AW.region (M := fun _ => true) ?_
      refine AL.v good (d := 29) (v := .bool (a1.kind == 2)) rfl rfl rfl rfl ?_
      refine AL.v good (d := 28) (v := .bool (a1.kind == 2)) rfl rfl rfl rfl ?_
      refine AW.if rfl (fun h5 => ?_) (fun h5 => ?_)
      · replace hr := cnd_t h5 hr
        refine AW.seq ?_
        refine AW.seq ?_
        refine AW.region (M := fun _ => true) ?_
        refine AL.v good (d := 30) (v := .ptr 2 2) rfl rfl rfl rfl ?_
        refine AL.v good (d := 31) (v := .bool a1.b) rfl rfl rfl rfl ?_
        refine AW.if rfl (fun h6 => ?_) (fun h6 => ?_)
        · replace hr := cnd_t h6 hr
          refine AW.seq ?_
          refine AW.region (M := fun _ => true) ?_
          refine AL.v good (d := 32) (v := .sl (.own 1) 1 (r_int_u8 (a0 ++ [(IntKind.u8.wrap (a1.kind))]))) rfl rfl rfl rfl ?_
          refine AL.lit good (d := 33) (rows := [[.int .u8 1]]) rfl rfl rfl rfl rfl rfl rfl rfl rfl 4 rfl ?_
          obtain ⟨h7, hr⟩ := grd hr
          refine AL.aw2 good (d := 34) (rows := r_int_u8 (a0 ++ [(IntKind.u8.wrap (a1.kind))])) (news := [[.int .u8 1]]) (rows2 := r_int_u8 ((a0 ++ [(IntKind.u8.wrap (a1.kind))]) ++ [1])) rfl rfl rfl rfl rfl rfl rfl rfl rfl (by simp) rfl rfl rfl ⟨⟨Wv.refl _, trivial⟩, trivial⟩ (by simp [r_int_u8, rowF]) (by rw [r_int_u8_length, List.length_append]; exact h7) rfl ?_
          refine AL.v good (d := 4) (v := .sl (.own 1) 1 (r_int_u8 ((a0 ++ [(IntKind.u8.wrap (a1.kind))]) ++ [1]))) rfl rfl rfl rfl ?_
          refine AW.ret ?_
          obtain rfl := Option.some.inj hr
          exact RetH.w good (.inr rfl) rfl rfl (Wv.refl _) (List.forall_mem_cons.2 ⟨rfl, (fun _ h => by cases h)⟩)
        · replace hr := cnd_f h6 hr
          refine AW.skip ?_
          refine AW.seq ?_
          refine AW.region (M := fun _ => true) ?_
          refine AL.v good (d := 35) (v := .sl (.own 1) 1 (r_int_u8 (a0 ++ [(IntKind.u8.wrap (a1.kind))]))) rfl rfl rfl rfl ?_
          refine AL.lit good (d := 36) (rows := [[.int .u8 0]]) rfl rfl rfl rfl rfl rfl rfl rfl rfl 4 rfl ?_
          obtain ⟨h8, hr⟩ := grd hr
          refine AL.aw2 good (d := 37) (rows := r_int_u8 (a0 ++ [(IntKind.u8.wrap (a1.kind))])) (news := [[.int .u8 0]]) (rows2 := r_int_u8 ((a0 ++ [(IntKind.u8.wrap (a1.kind))]) ++ [0])) rfl rfl rfl rfl rfl rfl rfl rfl rfl (by simp) rfl rfl rfl ⟨⟨Wv.refl _, trivial⟩, trivial⟩ (by simp [r_int_u8, rowF]) (by rw [r_int_u8_length, List.length_append]; exact h8) rfl ?_
          refine AL.v good (d := 4) (v := .sl (.own 1) 1 (r_int_u8 ((a0 ++ [(IntKind.u8.wrap (a1.kind))]) ++ [0]))) rfl rfl rfl rfl ?_
          refine AW.ret ?_
          obtain rfl := Option.some.inj hr
          exact RetH.w good (.inr rfl) rfl rfl (Wv.refl _) (List.forall_mem_cons.2 ⟨rfl, (fun _ h => by cases h)⟩)
      · replace hr := cnd_f h5 hr
        refine AW.seq ?_
        refine AW.region (M := fun _ => true) ?_
        refine AL.v good (d := 39) (v := .bool (a1.kind == 3)) rfl rfl rfl rfl ?_
        refine AL.v good (d := 38) (v := .bool (a1.kind == 3)) rfl rfl rfl rfl ?_
        refine AW.if rfl (fun h9 => ?_) (fun h9 => ?_)
        · replace hr := cnd_t h9 hr
          refine AW.seq ?_
          refine AW.region (M := fun _ => true) ?_
          refine AL.v good (d := 40) (v := .sl (.own 1) 1 (r_int_u8 (a0 ++ [(IntKind.u8.wrap (a1.kind))]))) rfl rfl rfl rfl ?_
          refine AL.v good (d := 41) (v := .ptr 2 3) rfl rfl rfl rfl ?_
          refine AL.v good (d := 42) (v := .str a1.s) rfl rfl rfl rfl ?_
          obtain ⟨q10, h11, hr⟩ := bnd1 hr
          refine AL.clW good (d := 43) (xs := [.sl (.own 1) 1 (r_int_u8 (a0 ++ [(IntKind.u8.wrap (a1.kind))])), .str a1.s]) (rd := [(1, .row 5 1 (r_int_u8 (a0 ++ [(IntKind.u8.wrap (a1.kind))])).length)]) (up := [(1, .row 5 1 (r_int_u8 q10).length)]) (res := .sl (.own 1) 1 (r_int_u8 q10)) rfl rfl rfl rfl rfl rfl rfl (w_f80_1 _ _ _ _ h11) ⟨(Wv.refl _), (Wv.refl _), trivial⟩ (List.forall_mem_cons.2 ⟨rfl, (fun _ h => by cases h)⟩) (List.forall_mem_cons.2 ⟨⟨_, .head _⟩, (fun _ h => by cases h)⟩) rfl rfl ?_
          refine AL.v good (d := 4) (v := .sl (.own 1) 1 (r_int_u8 q10)) rfl rfl rfl rfl ?_
          refine AW.ret ?_
          obtain rfl := Option.some.inj hr
          exact RetH.w good (.inr rfl) rfl rfl (Wv.refl _) (List.forall_mem_cons.2 ⟨rfl, (fun _ h => by cases h)⟩)
        · replace hr := cnd_f h9 hr
          refine AW.skip ?_
          refine AW.seq ?_
          refine AW.region (M := fun _ => true) ?_
          refine AL.v good (d := 44) (v := .sl (.own 1) 1 (r_int_u8 (a0 ++ [(IntKind.u8.wrap (a1.kind))]))) rfl rfl rfl rfl ?_
          refine AL.v good (d := 45) (v := .ptr 2 4) rfl rfl rfl rfl ?_
          refine AL.v good (d := 46) (v := .sl .ro 5 (encs a1.t)) rfl rfl rfl rfl ?_
          refine AL.ln good (d := 47) (m := a1.t.length) rfl rfl rfl rfl rfl rfl (encs_length _) ?_
          refine AL.v good (d := 48) (v := .int .u8 (IntKind.u8.wrap ((a1.t.length : Int)))) rfl rfl rfl rfl ?_
          refine AL.lit good (d := 49) (rows := [[.int .u8 (IntKind.u8.wrap ((a1.t.length : Int)))]]) rfl rfl rfl rfl rfl rfl rfl rfl rfl 4 rfl ?_
          obtain ⟨h12, hr⟩ := grd hr
          refine AL.aw2 good (d := 50) (rows := r_int_u8 (a0 ++ [(IntKind.u8.wrap (a1.kind))])) (news := [[.int .u8 (IntKind.u8.wrap ((a1.t.length : Int)))]]) (rows2 := r_int_u8 ((a0 ++ [(IntKind.u8.wrap (a1.kind))]) ++ [(IntKind.u8.wrap ((a1.t.length : Int)))])) rfl rfl rfl rfl rfl rfl rfl rfl rfl (by simp) rfl rfl rfl ⟨⟨Wv.refl _, trivial⟩, trivial⟩ (by simp [r_int_u8, rowF]) (by rw [r_int_u8_length, List.length_append]; exact h12) rfl ?_
          refine AL.v good (d := 0) (v := .sl (.own 1) 1 (r_int_u8 ((a0 ++ [(IntKind.u8.wrap (a1.kind))]) ++ [(IntKind.u8.wrap ((a1.t.length : Int)))]))) rfl rfl rfl rfl ?_
          refine AW.seq ?_
          refine AW.seq ?_
          refine AW.region (M := fun _ => true) ?_
          refine AL.v good (d := 51) (v := .ptr 2 4) rfl rfl rfl rfl ?_
          refine AL.v good (d := 52) (v := .sl .ro 5 (encs a1.t)) rfl rfl rfl rfl ?_
          refine AL.ln good (d := 53) (m := a1.t.length) rfl rfl rfl rfl rfl rfl (encs_length _) ?_
          refine AL.v good (d := 54) (v := .int .i64 0) rfl rfl rfl rfl ?_
          refine AW.block ?_
          refine AW.lens 52 rfl (fun hl19 => ?_)
          replace hl19 : a1.t.length ≤ 9223372036854775807 := by rw [← encs_length a1.t]; exact hl19
          refine AW.lpw (fun x : Nat × (List Int) × Nat => [(0, .sl (.own 1) 1 (r_int_u8 x.2.1)), (52, .sl .ro 5 (encs a1.t)), (53, .int .i64 (a1.t.length : Int)), (54, .int .i64 (x.2.2 : Int))]) (fun x => [(1, .row 5 1 (r_int_u8 x.2.1).length)]) (fun x => s_f46_l1 x.1 a1 x.2.1 x.2.2 = some r ∧ x.1 ≤ n) (fun x => x.1) (n, ((a0 ++ [(IntKind.u8.wrap (a1.kind))]) ++ [(IntKind.u8.wrap ((a1.t.length : Int)))]), 0) ⟨(idsIn_sub rfl), List.forall_mem_cons.2 ⟨⟨⟨_, rfl, Wv.refl _⟩, (by simp [pureA, pureL, pureR, inA, inL, inR, inO, idsIn, encs_pure, enxs_pure, enys_pure, valC_pure, exC_pure, tyC_pure, r_int_u8_pure])⟩, List.forall_mem_cons.2 ⟨⟨⟨_, rfl, Wv.refl _⟩, (by simp [pureA, pureL, pureR, inA, inL, inR, inO, idsIn, encs_pure, enxs_pure, enys_pure, valC_pure, exC_pure, tyC_pure, r_int_u8_pure])⟩, List.forall_mem_cons.2 ⟨⟨⟨_, rfl, Wv.refl _⟩, (by simp [pureA, pureL, pureR, inA, inL, inR, inO, idsIn, encs_pure, enxs_pure, enys_pure, valC_pure, exC_pure, tyC_pure, r_int_u8_pure])⟩, List.forall_mem_cons.2 ⟨⟨⟨_, rfl, Wv.refl _⟩, (by simp [pureA, pureL, pureR, inA, inL, inR, inO, idsIn, encs_pure, enxs_pure, enys_pure, valC_pure, exC_pure, tyC_pure, r_int_u8_pure])⟩, (fun _ h => by cases h)⟩⟩⟩⟩, List.forall_mem_cons.2 ⟨⟨⟨_, rfl, ⟨rfl, rfl, rfl⟩⟩, (by simp [pureA, pureL, pureR, inA, inL, inR, inO, idsIn, encs_pure, enxs_pure, enys_pure, valC_pure, exC_pure, tyC_pure, r_int_u8_pure])⟩, (fun _ h => by cases h)⟩⟩ ⟨hr, Nat.le_refl _⟩ (fun ⟨m, v1_1, v1_2⟩ hx => ?_)
          obtain ⟨hr, hm⟩ := hx
          try dsimp only at hr hm
          cases m with
          | zero => rw [s_f46_l1] at hr; cases hr
          | succ m =>
            rw [s_f46_l1] at hr
            show AW Try.prog _ _ _ (mkS 63 [(0, .sl (.own 1) 1 (r_int_u8 v1_1)), (52, .sl .ro 5 (encs a1.t)), (53, .int .i64 (a1.t.length : Int)), (54, .int .i64 (v1_2 : Int))] [(1, .row 5 1 (r_int_u8 v1_1).length)])
            refine AW.seq ?_
            refine AW.region (M := fun _ => true) ?_
            refine AL.v good (d := 55) (v := .bool (decide ((v1_2 : Int) < (a1.t.length : Int)))) rfl rfl rfl rfl ?_
            refine AW.seq ?_
            refine AW.if rfl (fun h20 => ?_) (fun h20 => ?_)
            · replace hr := cnd_t h20 hr
              refine AW.skip ?_
              refine AW.seq ?_
              refine AW.block ?_
              refine AW.seq ?_
              refine AW.region (M := fun _ => true) ?_
              obtain ⟨x21, h22, hr⟩ := bnd1 hr
              refine AL.ix good (d := 56) (r := [.int .i64 x21.kind, .int .i64 x21.i, .bool x21.b, .str x21.s, .sl .ro 5 (encs x21.t)]) rfl rfl rfl rfl rfl rfl rfl (Int.natCast_nonneg _) (encs_get h22) ?_
              refine AL.v good (d := 57) (v := .agg [.int .i64 x21.kind, .int .i64 x21.i, .bool x21.b, .str x21.s, .sl .ro 5 (encs x21.t)]) rfl rfl rfl rfl ?_
              refine AL.alc good (d := 6) rfl rfl rfl rfl rfl 5 rfl ?_
              refine AL.st2 good (c2 := [.int .i64 x21.kind, .int .i64 x21.i, .bool x21.b, .str x21.s, .sl .ro 5 (encs x21.t)]) rfl rfl rfl rfl rfl rfl rfl rfl rfl rfl rfl rfl ?_
              refine AW.region (M := fun _ => true) ?_
              refine AL.v good (d := 58) (v := .sl (.own 1) 1 (r_int_u8 v1_1)) rfl rfl rfl rfl ?_
              refine AL.v good (d := 59) (v := .agg [.int .i64 x21.kind, .int .i64 x21.i, .bool x21.b, .str x21.s, .sl .ro 5 (encs x21.t)]) rfl rfl rfl rfl ?_
              obtain ⟨q23, h24, hr⟩ := bnd1 hr
              refine AL.clW good (d := 60) (xs := [.sl (.own 1) 1 (r_int_u8 v1_1), .agg (valC x21)]) (rd := [(1, .row 5 1 (r_int_u8 v1_1).length)]) (up := [(1, .row 5 1 (r_int_u8 q23).length)]) (res := .sl (.own 1) 1 (r_int_u8 q23)) rfl rfl rfl rfl rfl rfl rfl (ih _ _ _ _ h24 (by omega)) ⟨(Wv.refl _), (Wv.refl _), trivial⟩ (List.forall_mem_cons.2 ⟨rfl, (fun _ h => by cases h)⟩) (List.forall_mem_cons.2 ⟨⟨_, .head _⟩, (fun _ h => by cases h)⟩) rfl rfl ?_
              refine AL.v good (d := 0) (v := .sl (.own 1) 1 (r_int_u8 q23)) rfl rfl rfl rfl ?_
              refine AW.region (M := fun _ => true) ?_
              refine AL.v good (d := 61) (v := .int .i64 (IntKind.i64.wrap ((v1_2 : Int) + 1))) rfl rfl rfl rfl ?_
              refine AL.v good (d := 54) (v := .int .i64 (IntKind.i64.wrap ((v1_2 : Int) + 1))) rfl rfl rfl rfl ?_
              exact ⟨(m, q23, (v1_2 + 1)), _, _, rfl, ⟨(idsIn_sub rfl), List.forall_mem_cons.2 ⟨⟨⟨_, rfl, Wv.refl _⟩, (by simp [pureA, pureL, pureR, inA, inL, inR, inO, idsIn, encs_pure, enxs_pure, enys_pure, valC_pure, exC_pure, tyC_pure, r_int_u8_pure])⟩, List.forall_mem_cons.2 ⟨⟨⟨_, rfl, Wv.refl _⟩, (by simp [pureA, pureL, pureR, inA, inL, inR, inO, idsIn, encs_pure, enxs_pure, enys_pure, valC_pure, exC_pure, tyC_pure, r_int_u8_pure])⟩, List.forall_mem_cons.2 ⟨⟨⟨_, rfl, Wv.refl _⟩, (by simp [pureA, pureL, pureR, inA, inL, inR, inO, idsIn, encs_pure, enxs_pure, enys_pure, valC_pure, exC_pure, tyC_pure, r_int_u8_pure])⟩, List.forall_mem_cons.2 ⟨⟨⟨_, rfl, (wnx h20 hl19)⟩, (by simp [pureA, pureL, pureR, inA, inL, inR, inO, idsIn, encs_pure, enxs_pure, enys_pure, valC_pure, exC_pure, tyC_pure, r_int_u8_pure])⟩, (fun _ h => by cases h)⟩⟩⟩⟩, List.forall_mem_cons.2 ⟨⟨⟨_, rfl, ⟨rfl, rfl, rfl⟩⟩, (by simp [pureA, pureL, pureR, inA, inL, inR, inO, idsIn, encs_pure, enxs_pure, enys_pure, valC_pure, exC_pure, tyC_pure, r_int_u8_pure])⟩, (fun _ h => by cases h)⟩⟩, ⟨hr, Nat.le_of_succ_le hm⟩, Nat.lt_succ_self _⟩
            · replace hr := cnd_f h20 hr
              refine AW.exit ?_
              refine AW.seq ?_
              refine AW.region (M := fun _ => true) ?_
              refine AL.v good (d := 62) (v := .sl (.own 1) 1 (r_int_u8 v1_1)) rfl rfl rfl rfl ?_
              refine AL.v good (d := 4) (v := .sl (.own 1) 1 (r_int_u8 v1_1)) rfl rfl rfl rfl ?_
              refine AW.ret ?_
              obtain rfl := Option.some.inj hr
              exact RetH.w good (.inr rfl) rfl rfl (Wv.refl _) (List.forall_mem_cons.2 ⟨rfl, (fun _ h => by cases h)⟩)
theorem w_f46_1 (n : Nat) : ∀ (a0 : List Int) (a1 : Val) (r : List Int) (hr : s_f46 n a0 a1 = some r), ACallH Try.prog 46 [.sl (.own 1) 1 (r_int_u8 a0), .agg (valC a1)] [(1, .row 5 1 (r_int_u8 a0).length)] [(1, .row 5 1 (r_int_u8 r).length)] (.sl (.own 1) 1 (r_int_u8 r)) := by
  induction n using Nat.strongRecOn with
  | _ n ih =>
    intro a0 a1 r hr
    exact w_f46_1_a n (fun m a0 a1 r h hm => ih m hm a0 a1 r h) a0 a1 r hr

mutual
def s_f81_l1 : Nat → (List Int) → Int → Option (List Int)
  | 0, _, _ => none
  | n + 1, v1_1, v1_2 => (bif (decide (v1_2 ≥ 128)) then (if v1_1.length + 1 ≤ 1000000 then (s_f81_l1 n (v1_1 ++ [(bits .or .u8 (IntKind.u8.wrap (v1_2)) 128)]) (v1_2.fdiv (2 ^ 7))) else none) else (if v1_1.length + 1 ≤ 1000000 then some (v1_1 ++ [(IntKind.u8.wrap (v1_2))]) else none))
end
def s_f81 (n : Nat) (a0 : List Int) (a1 : Int) : Option (List Int) :=
  (s_f81_l1 n a0 a1)

theorem w_f81_1 (n : Nat) (a0 : List Int) (a1 : Int) (r : List Int) (hr : s_f81 n a0 a1 = some r) : ACallH Try.prog 81 [.sl (.own 1) 1 (r_int_u8 a0), .int .u64 a1] [(1, .row 5 1 (r_int_u8 a0).length)] [(1, .row 5 1 (r_int_u8 r).length)] (.sl (.own 1) 1 (r_int_u8 r)) := by
  refine ACallH.go [(0, .sl (.own 1) 1 (r_int_u8 a0)), (1, .int .u64 a1)] [(1, .row 5 1 (r_int_u8 a0).length)] Try.func81 rfl Try.ntmps81 rfl rfl rfl (by simp [pureA, pureL, pureR, inA, inL, inR, inO, idsIn, encs_pure, enxs_pure, enys_pure, valC_pure, exC_pure, tyC_pure, r_int_u8_pure]) (List.forall_mem_cons.2 ⟨(by simp [pureA, pureL, pureR, inA, inL, inR, inO, idsIn, encs_pure, enxs_pure, enys_pure, valC_pure, exC_pure, tyC_pure, r_int_u8_pure]), (fun _ h => by cases h)⟩) (List.forall_mem_cons.2 ⟨⟨rfl, (by simp [pureA, pureL, pureR, inA, inL, inR, inO, idsIn, encs_pure, enxs_pure, enys_pure, valC_pure, exC_pure, tyC_pure, r_int_u8_pure])⟩, (fun _ h => by cases h)⟩) (by simp [pureA, pureL, pureR, inA, inL, inR, inO, idsIn, encs_pure, enxs_pure, enys_pure, valC_pure, exC_pure, tyC_pure, r_int_u8_pure]) ?_
  rw [s_f81] at hr
  refine AW.seq ?_
  refine AW.region (M := fun _ => true) ?_
  refine AL.v good (d := 4) (v := .sl .nil 0 []) rfl rfl rfl rfl ?_
  refine AW.seq ?_
  refine AW.block ?_
  refine AW.lpw (fun x : Nat × (List Int) × Int => [(0, .sl (.own 1) 1 (r_int_u8 x.2.1)), (1, .int .u64 x.2.2)]) (fun x => [(1, .row 5 1 (r_int_u8 x.2.1).length)]) (fun x => s_f81_l1 x.1 x.2.1 x.2.2 = some r ∧ x.1 ≤ n) (fun x => x.1) (n, a0, a1) ⟨(idsIn_sub rfl), List.forall_mem_cons.2 ⟨⟨⟨_, rfl, Wv.refl _⟩, (by simp [pureA, pureL, pureR, inA, inL, inR, inO, idsIn, encs_pure, enxs_pure, enys_pure, valC_pure, exC_pure, tyC_pure, r_int_u8_pure])⟩, List.forall_mem_cons.2 ⟨⟨⟨_, rfl, Wv.refl _⟩, (by simp [pureA, pureL, pureR, inA, inL, inR, inO, idsIn, encs_pure, enxs_pure, enys_pure, valC_pure, exC_pure, tyC_pure, r_int_u8_pure])⟩, (fun _ h => by cases h)⟩⟩, List.forall_mem_cons.2 ⟨⟨⟨_, rfl, ⟨rfl, rfl, rfl⟩⟩, (by simp [pureA, pureL, pureR, inA, inL, inR, inO, idsIn, encs_pure, enxs_pure, enys_pure, valC_pure, exC_pure, tyC_pure, r_int_u8_pure])⟩, (fun _ h => by cases h)⟩⟩ ⟨hr, Nat.le_refl _⟩ (fun ⟨m, v1_1, v1_2⟩ hx => ?_)
  obtain ⟨hr, hm⟩ := hx
  try dsimp only at hr hm
  cases m with
  | zero => rw [s_f81_l1] at hr; cases hr
  | succ m =>
    rw [s_f81_l1] at hr
    show AW Try.prog _ _ _ (mkS 20 [(0, .sl (.own 1) 1 (r_int_u8 v1_1)), (1, .int .u64 v1_2)] [(1, .row 5 1 (r_int_u8 v1_1).length)])
    refine AW.seq ?_
    refine AW.seq ?_
    refine AW.region (M := fun _ => true) ?_
    refine AL.v good (d := 5) (v := .int .u64 v1_2) rfl rfl rfl rfl ?_
    refine AL.v good (d := 6) (v := .bool (decide (v1_2 ≥ 128))) rfl rfl rfl rfl ?_
    refine AW.if rfl (fun h3 => ?_) (fun h3 => ?_)
    · replace hr := cnd_t h3 hr
      refine AW.skip ?_
      refine AW.block ?_
      refine AW.seq ?_
      refine AW.region (M := fun _ => true) ?_
      refine AL.v good (d := 7) (v := .sl (.own 1) 1 (r_int_u8 v1_1)) rfl rfl rfl rfl ?_
      refine AL.v good (d := 8) (v := .int .u64 v1_2) rfl rfl rfl rfl ?_
      refine AL.v good (d := 9) (v := .int .u8 (IntKind.u8.wrap (v1_2))) rfl rfl rfl rfl ?_
      refine AL.v good (d := 10) (v := .int .u8 (bits .or .u8 (IntKind.u8.wrap (v1_2)) 128)) rfl rfl rfl rfl ?_
      refine AL.lit good (d := 11) (rows := [[.int .u8 (bits .or .u8 (IntKind.u8.wrap (v1_2)) 128)]]) rfl rfl rfl rfl rfl rfl rfl rfl rfl 2 rfl ?_
      obtain ⟨h4, hr⟩ := grd hr
      refine AL.aw2 good (d := 12) (rows := r_int_u8 v1_1) (news := [[.int .u8 (bits .or .u8 (IntKind.u8.wrap (v1_2)) 128)]]) (rows2 := r_int_u8 (v1_1 ++ [(bits .or .u8 (IntKind.u8.wrap (v1_2)) 128)])) rfl rfl rfl rfl rfl rfl rfl rfl rfl (by simp) rfl rfl rfl ⟨⟨Wv.refl _, trivial⟩, trivial⟩ (by simp [r_int_u8, rowF]) (by rw [r_int_u8_length, List.length_append]; exact h4) rfl ?_
      refine AL.v good (d := 0) (v := .sl (.own 1) 1 (r_int_u8 (v1_1 ++ [(bits .or .u8 (IntKind.u8.wrap (v1_2)) 128)]))) rfl rfl rfl rfl ?_
      refine AW.region (M := fun _ => true) ?_
      refine AL.v good (d := 13) (v := .int .u64 v1_2) rfl rfl rfl rfl ?_
      refine AL.v good (d := 14) (v := .int .u64 (v1_2.fdiv (2 ^ 7))) rfl rfl rfl rfl ?_
      refine AL.v good (d := 1) (v := .int .u64 (v1_2.fdiv (2 ^ 7))) rfl rfl rfl rfl ?_
      exact ⟨(m, (v1_1 ++ [(bits .or .u8 (IntKind.u8.wrap (v1_2)) 128)]), (v1_2.fdiv (2 ^ 7))), _, _, rfl, ⟨(idsIn_sub rfl), List.forall_mem_cons.2 ⟨⟨⟨_, rfl, Wv.refl _⟩, (by simp [pureA, pureL, pureR, inA, inL, inR, inO, idsIn, encs_pure, enxs_pure, enys_pure, valC_pure, exC_pure, tyC_pure, r_int_u8_pure])⟩, List.forall_mem_cons.2 ⟨⟨⟨_, rfl, Wv.refl _⟩, (by simp [pureA, pureL, pureR, inA, inL, inR, inO, idsIn, encs_pure, enxs_pure, enys_pure, valC_pure, exC_pure, tyC_pure, r_int_u8_pure])⟩, (fun _ h => by cases h)⟩⟩, List.forall_mem_cons.2 ⟨⟨⟨_, rfl, ⟨rfl, rfl, rfl⟩⟩, (by simp [pureA, pureL, pureR, inA, inL, inR, inO, idsIn, encs_pure, enxs_pure, enys_pure, valC_pure, exC_pure, tyC_pure, r_int_u8_pure])⟩, (fun _ h => by cases h)⟩⟩, ⟨hr, Nat.le_of_succ_le hm⟩, Nat.lt_succ_self _⟩
    · replace hr := cnd_f h3 hr
      refine AW.exit ?_
      refine AW.seq ?_
      refine AW.region (M := fun _ => true) ?_
      refine AL.v good (d := 15) (v := .sl (.own 1) 1 (r_int_u8 v1_1)) rfl rfl rfl rfl ?_
      refine AL.v good (d := 16) (v := .int .u64 v1_2) rfl rfl rfl rfl ?_
      refine AL.v good (d := 17) (v := .int .u8 (IntKind.u8.wrap (v1_2))) rfl rfl rfl rfl ?_
      refine AL.lit good (d := 18) (rows := [[.int .u8 (IntKind.u8.wrap (v1_2))]]) rfl rfl rfl rfl rfl rfl rfl rfl rfl 2 rfl ?_
      obtain ⟨h5, hr⟩ := grd hr
      refine AL.aw2 good (d := 19) (rows := r_int_u8 v1_1) (news := [[.int .u8 (IntKind.u8.wrap (v1_2))]]) (rows2 := r_int_u8 (v1_1 ++ [(IntKind.u8.wrap (v1_2))])) rfl rfl rfl rfl rfl rfl rfl rfl rfl (by simp) rfl rfl rfl ⟨⟨Wv.refl _, trivial⟩, trivial⟩ (by simp [r_int_u8, rowF]) (by rw [r_int_u8_length, List.length_append]; exact h5) rfl ?_
      refine AL.v good (d := 4) (v := .sl (.own 1) 1 (r_int_u8 (v1_1 ++ [(IntKind.u8.wrap (v1_2))]))) rfl rfl rfl rfl ?_
      refine AW.ret ?_
      obtain rfl := Option.some.inj hr
      exact RetH.w good (.inr rfl) rfl rfl (Wv.refl _) (List.forall_mem_cons.2 ⟨rfl, (fun _ h => by cases h)⟩)

def s_f82 (n : Nat) (a0 : List Int) (a1 : ByteArray) : Option (List Int) :=
  ((s_f81 n a0 (IntKind.u64.wrap ((a1.size : Int)))).bind fun q1 => (if q1.length + a1.size ≤ 1000000 then some (q1 ++ (bI8 a1)) else none))

theorem w_f82_1 (n : Nat) (a0 : List Int) (a1 : ByteArray) (r : List Int) (hr : s_f82 n a0 a1 = some r) : ACallH Try.prog 82 [.sl (.own 1) 1 (r_int_u8 a0), .str a1] [(1, .row 5 1 (r_int_u8 a0).length)] [(1, .row 5 1 (r_int_u8 r).length)] (.sl (.own 1) 1 (r_int_u8 r)) := by
  refine ACallH.go [(0, .sl (.own 1) 1 (r_int_u8 a0)), (1, .str a1)] [(1, .row 5 1 (r_int_u8 a0).length)] Try.func82 rfl Try.ntmps82 rfl rfl rfl (by simp [pureA, pureL, pureR, inA, inL, inR, inO, idsIn, encs_pure, enxs_pure, enys_pure, valC_pure, exC_pure, tyC_pure, r_int_u8_pure]) (List.forall_mem_cons.2 ⟨(by simp [pureA, pureL, pureR, inA, inL, inR, inO, idsIn, encs_pure, enxs_pure, enys_pure, valC_pure, exC_pure, tyC_pure, r_int_u8_pure]), (fun _ h => by cases h)⟩) (List.forall_mem_cons.2 ⟨⟨rfl, (by simp [pureA, pureL, pureR, inA, inL, inR, inO, idsIn, encs_pure, enxs_pure, enys_pure, valC_pure, exC_pure, tyC_pure, r_int_u8_pure])⟩, (fun _ h => by cases h)⟩) (by simp [pureA, pureL, pureR, inA, inL, inR, inO, idsIn, encs_pure, enxs_pure, enys_pure, valC_pure, exC_pure, tyC_pure, r_int_u8_pure]) ?_
  rw [s_f82] at hr
  refine AW.seq ?_
  refine AW.region (M := fun _ => true) ?_
  refine AL.v good (d := 4) (v := .sl .nil 0 []) rfl rfl rfl rfl ?_
  refine AW.seq ?_
  refine AW.region (M := fun _ => true) ?_
  refine AL.v good (d := 5) (v := .sl (.own 1) 1 (r_int_u8 a0)) rfl rfl rfl rfl ?_
  refine AL.v good (d := 6) (v := .str a1) rfl rfl rfl rfl ?_
  refine AL.v good (d := 7) (v := .int .i64 (a1.size : Int)) rfl rfl rfl rfl ?_
  refine AL.v good (d := 8) (v := .int .u64 (IntKind.u64.wrap ((a1.size : Int)))) rfl rfl rfl rfl ?_
  obtain ⟨q1, h2, hr⟩ := bnd1 hr
  refine AL.clW good (d := 9) (xs := [.sl (.own 1) 1 (r_int_u8 a0), .int .u64 (IntKind.u64.wrap ((a1.size : Int)))]) (rd := [(1, .row 5 1 (r_int_u8 a0).length)]) (up := [(1, .row 5 1 (r_int_u8 q1).length)]) (res := .sl (.own 1) 1 (r_int_u8 q1)) rfl rfl rfl rfl rfl rfl rfl (w_f81_1 _ _ _ _ h2) ⟨(Wv.refl _), (Wv.refl _), trivial⟩ (List.forall_mem_cons.2 ⟨rfl, (fun _ h => by cases h)⟩) (List.forall_mem_cons.2 ⟨⟨_, .head _⟩, (fun _ h => by cases h)⟩) rfl rfl ?_
  refine AL.v good (d := 10) (v := .str a1) rfl rfl rfl rfl ?_
  obtain ⟨h3, hr⟩ := grd hr
  refine AL.apS good (d := 11) (rows := r_int_u8 q1) (rows2 := r_int_u8 (q1 ++ (bI8 a1))) rfl rfl rfl rfl rfl (by kernel_rfl) rfl rfl rfl rfl rfl (bR8_eq _ _) (by rw [r_int_u8_length, List.length_append, bI8_length]; exact h3) ?_
  refine AL.v good (d := 4) (v := .sl (.own 1) 1 (r_int_u8 (q1 ++ (bI8 a1)))) rfl rfl rfl rfl ?_
  refine AW.ret ?_
  obtain rfl := Option.some.inj hr
  exact RetH.w good (.inr rfl) rfl rfl (Wv.refl _) (List.forall_mem_cons.2 ⟨rfl, (fun _ h => by cases h)⟩)

mutual
def s_f47 : Nat → (List Int) → Val → Option (List Int)
  | 0, _, _ => none
  | n + 1, a0, a1 => (if a0.length + 1 ≤ 1000000 then (bif (a1.kind == 1) then (bif (decide (a1.i < 0)) then ((s_f81 n (a0 ++ [(IntKind.u8.wrap (a1.kind))]) (bits .xor .u64 (if IntKind.u64.signed then -1 else IntKind.u64.max) (IntKind.u64.wrap ((IntKind.u64.wrap (a1.i)) * 2 ^ 1)))).bind fun q4 => some q4) else ((s_f81 n (a0 ++ [(IntKind.u8.wrap (a1.kind))]) (IntKind.u64.wrap ((IntKind.u64.wrap (a1.i)) * 2 ^ 1))).bind fun q6 => some q6)) else (bif (a1.kind == 2) then (bif a1.b then (if (a0 ++ [(IntKind.u8.wrap (a1.kind))]).length + 1 ≤ 1000000 then some ((a0 ++ [(IntKind.u8.wrap (a1.kind))]) ++ [1]) else none) else (if (a0 ++ [(IntKind.u8.wrap (a1.kind))]).length + 1 ≤ 1000000 then some ((a0 ++ [(IntKind.u8.wrap (a1.kind))]) ++ [0]) else none)) else (bif (a1.kind == 3) then ((s_f82 n (a0 ++ [(IntKind.u8.wrap (a1.kind))]) a1.s).bind fun q13 => some q13) else (if (a0 ++ [(IntKind.u8.wrap (a1.kind))]).length + 1 ≤ 1000000 then (s_f47_l1 n a1 ((a0 ++ [(IntKind.u8.wrap (a1.kind))]) ++ [(IntKind.u8.wrap ((a1.t.length : Int)))]) 0) else none)))) else none)
def s_f47_l1 : Nat → Val → (List Int) → Nat → Option (List Int)
  | 0, _, _, _ => none
  | n + 1, a1, v1_1, v1_2 => (bif (decide ((v1_2 : Int) < (a1.t.length : Int))) then ((a1.t[v1_2]?).bind fun x24 => ((s_f47 n v1_1 x24).bind fun q26 => (s_f47_l1 n a1 q26 (v1_2 + 1)))) else some v1_1)
end

theorem w_f47_1_a (n : Nat) (ih : ∀ (m : Nat) (a0 : List Int) (a1 : Val) (r : List Int), s_f47 m a0 a1 = some r → m < n → ACallH Try.prog 47 [.sl (.own 1) 1 (r_int_u8 a0), .agg (valC a1)] [(1, .row 5 1 (r_int_u8 a0).length)] [(1, .row 5 1 (r_int_u8 r).length)] (.sl (.own 1) 1 (r_int_u8 r))) (a0 : List Int) (a1 : Val) (r : List Int) (hr : s_f47 n a0 a1 = some r) : ACallH Try.prog 47 [.sl (.own 1) 1 (r_int_u8 a0), .agg (valC a1)] [(1, .row 5 1 (r_int_u8 a0).length)] [(1, .row 5 1 (r_int_u8 r).length)] (.sl (.own 1) 1 (r_int_u8 r)) := by
  refine ACallH.go [(0, .sl (.own 1) 1 (r_int_u8 a0)), (1, .agg (valC a1))] [(1, .row 5 1 (r_int_u8 a0).length)] Try.func47 rfl Try.ntmps47 rfl rfl rfl (by simp [pureA, pureL, pureR, inA, inL, inR, inO, idsIn, encs_pure, enxs_pure, enys_pure, valC_pure, exC_pure, tyC_pure, r_int_u8_pure]) (List.forall_mem_cons.2 ⟨(by simp [pureA, pureL, pureR, inA, inL, inR, inO, idsIn, encs_pure, enxs_pure, enys_pure, valC_pure, exC_pure, tyC_pure, r_int_u8_pure]), (fun _ h => by cases h)⟩) (List.forall_mem_cons.2 ⟨⟨rfl, (by simp [pureA, pureL, pureR, inA, inL, inR, inO, idsIn, encs_pure, enxs_pure, enys_pure, valC_pure, exC_pure, tyC_pure, r_int_u8_pure])⟩, (fun _ h => by cases h)⟩) (by simp [pureA, pureL, pureR, inA, inL, inR, inO, idsIn, encs_pure, enxs_pure, enys_pure, valC_pure, exC_pure, tyC_pure, r_int_u8_pure]) ?_
  cases n with
  | zero => rw [s_f47] at hr; cases hr
  | succ n =>
    rw [s_f47] at hr
    refine AW.seq ?_
    refine AW.region (M := fun _ => true) ?_
    refine AL.bx good (d := 3) (l := [.int .i64 a1.kind, .int .i64 a1.i, .bool a1.b, .str a1.s, .sl .ro 5 (encs a1.t)]) rfl rfl rfl rfl rfl rfl 2 rfl ?_
    refine AL.v good (d := 4) (v := .sl .nil 0 []) rfl rfl rfl rfl ?_
    refine AW.seq ?_
    refine AW.region (M := fun _ => true) ?_
    refine AL.v good (d := 7) (v := .sl (.own 1) 1 (r_int_u8 a0)) rfl rfl rfl rfl ?_
    refine AL.v good (d := 8) (v := .ptr 2 0) rfl rfl rfl rfl ?_
    refine AL.v good (d := 9) (v := .int .i64 a1.kind) rfl rfl rfl rfl ?_
    refine AL.v good (d := 10) (v := .int .u8 (IntKind.u8.wrap (a1.kind))) rfl rfl rfl rfl ?_
    refine AL.lit good (d := 11) (rows := [[.int .u8 (IntKind.u8.wrap (a1.kind))]]) rfl rfl rfl rfl rfl rfl rfl rfl rfl 3 rfl ?_
    obtain ⟨h1, hr⟩ := grd hr
    refine AL.aw2 good (d := 12) (rows := r_int_u8 a0) (news := [[.int .u8 (IntKind.u8.wrap (a1.kind))]]) (rows2 := r_int_u8 (a0 ++ [(IntKind.u8.wrap (a1.kind))])) rfl rfl rfl rfl rfl rfl rfl rfl rfl (by simp) rfl rfl rfl ⟨⟨Wv.refl _, trivial⟩, trivial⟩ (by simp [r_int_u8, rowF]) (by rw [r_int_u8_length, List.length_append]; exact h1) rfl ?_
    refine AL.v good (d := 0) (v := .sl (.own 1) 1 (r_int_u8 (a0 ++ [(IntKind.u8.wrap (a1.kind))]))) rfl rfl rfl rfl ?_
    refine AW.seq ?_
    refine AW.seq ?_
    refine AW.region (M := fun _ => true) ?_
    refine AL.v good (d := 13) (v := .ptr 2 0) rfl rfl rfl rfl ?_
    refine AL.v good (d := 14) (v := .int .i64 a1.kind) rfl rfl rfl rfl ?_
    refine AW.block ?_
    refine AW.seq ?_
    refine AW.region (M := fun _ => true) ?_
    refine AL.v good (d := 16) (v := .bool (a1.kind == 1)) rfl rfl rfl rfl ?_
    refine AL.v good (d := 15) (v := .bool (a1.kind == 1)) rfl rfl rfl rfl ?_
    refine AW.if rfl (fun h2 => ?_) (fun h2 => ?_)
    · replace hr := cnd_t h2 hr
      refine AW.seq ?_
      refine AW.region (M := fun _ => true) ?_
      refine AL.v good (d := 17) (v := .ptr 2 1) rfl rfl rfl rfl ?_
      refine AL.v good (d := 18) (v := .int .i64 a1.i) rfl rfl rfl rfl ?_
      refine AL.v good (d := 19) (v := .int .u64 (IntKind.u64.wrap (a1.i))) rfl rfl rfl rfl ?_
      refine AL.v good (d := 20) (v := .int .u64 (IntKind.u64.wrap ((IntKind.u64.wrap (a1.i)) * 2 ^ 1))) rfl rfl rfl rfl ?_
      refine AL.v good (d := 5) (v := .int .u64 (IntKind.u64.wrap ((IntKind.u64.wrap (a1.i)) * 2 ^ 1))) rfl rfl rfl rfl ?_
      refine AW.seq ?_
      refine AW.seq ?_
      refine AW.region (M := fun _ => true) ?_
      refine AL.v good (d := 21) (v := .ptr 2 1) rfl rfl rfl rfl ?_
      refine AL.v good (d := 22) (v := .int .i64 a1.i) rfl rfl rfl rfl ?_
      refine AL.v good (d := 23) (v := .bool (decide (a1.i < 0))) rfl rfl rfl rfl ?_
      refine AW.if rfl (fun h3 => ?_) (fun h3 => ?_)
      · replace hr := cnd_t h3 hr
        refine AW.region (M := fun _ => true) ?_
        refine AL.v good (d := 24) (v := .int .u64 (IntKind.u64.wrap ((IntKind.u64.wrap (a1.i)) * 2 ^ 1))) rfl rfl rfl rfl ?_
        refine AL.v good (d := 25) (v := .int .u64 (bits .xor .u64 (if IntKind.u64.signed then -1 else IntKind.u64.max) (IntKind.u64.wrap ((IntKind.u64.wrap (a1.i)) * 2 ^ 1)))) rfl rfl rfl rfl ?_
        refine AL.v good (d := 5) (v := .int .u64 (bits .xor .u64 (if IntKind.u64.signed then -1 else IntKind.u64.max) (IntKind.u64.wrap ((IntKind.u64.wrap (a1.i)) * 2 ^ 1)))) rfl rfl rfl rfl ?_
        refine AW.seq ?_
        refine AW.region (M := fun _ => true) ?_
        refine AL.v good (d := 26) (v := .sl (.own 1) 1 (r_int_u8 (a0 ++ [(IntKind.u8.wrap (a1.kind))]))) rfl rfl rfl rfl ?_
        refine AL.v good (d := 27) (v := .int .u64 (bits .xor .u64 (if IntKind.u64.signed then -1 else IntKind.u64.max) (IntKind.u64.wrap ((IntKind.u64.wrap (a1.i)) * 2 ^ 1)))) rfl rfl rfl rfl ?_
        obtain ⟨q4, h5, hr⟩ := bnd1 hr
        refine AL.clW good (d := 28) (xs := [.sl (.own 1) 1 (r_int_u8 (a0 ++ [(IntKind.u8.wrap (a1.kind))])), .int .u64 (bits .xor .u64 (if IntKind.u64.signed then -1 else IntKind.u64.max) (IntKind.u64.wrap ((IntKind.u64.wrap (a1.i)) * 2 ^ 1)))]) (rd := [(1, .row 5 1 (r_int_u8 (a0 ++ [(IntKind.u8.wrap (a1.kind))])).length)]) (up := [(1, .row 5 1 (r_int_u8 q4).length)]) (res := .sl (.own 1) 1 (r_int_u8 q4)) rfl rfl rfl rfl rfl rfl rfl (w_f81_1 _ _ _ _ h5) ⟨(Wv.refl _), (Wv.refl _), trivial⟩ (List.forall_mem_cons.2 ⟨rfl, (fun _ h => by cases h)⟩) (List.forall_mem_cons.2 ⟨⟨_, .head _⟩, (fun _ h => by cases h)⟩) rfl rfl ?_
        refine AL.v good (d := 4) (v := .sl (.own 1) 1 (r_int_u8 q4)) rfl rfl rfl rfl ?_
        refine AW.ret ?_
        obtain rfl := Option.some.inj hr
        exact RetH.w good (.inr rfl) rfl rfl (Wv.refl _) (List.forall_mem_cons.2 ⟨rfl, (fun _ h => by cases h)⟩)
      · replace hr := cnd_f h3 hr
        refine AW.skip ?_
        refine AW.seq ?_
        refine AW.region (M := fun _ => true) ?_
        refine AL.v good (d := 26) (v := .sl (.own 1) 1 (r_int_u8 (a0 ++ [(IntKind.u8.wrap (a1.kind))]))) rfl rfl rfl rfl ?_
        refine AL.v good (d := 27) (v := .int .u64 (IntKind.u64.wrap ((IntKind.u64.wrap (a1.i)) * 2 ^ 1))) rfl rfl rfl rfl ?_
        obtain ⟨q6, h7, hr⟩ := bnd1 hr
        refine AL.clW good (d := 28) (xs := [.sl (.own 1) 1 (r_int_u8 (a0 ++ [(IntKind.u8.wrap (a1.kind))])), .int .u64 (IntKind.u64.wrap ((IntKind.u64.wrap (a1.i)) * 2 ^ 1))]) (rd := [(1, .row 5 1 (r_int_u8 (a0 ++ [(IntKind.u8.wrap (a1.kind))])).length)]) (up := [(1, .row 5 1 (r_int_u8 q6).length)]) (res := .sl (.own 1) 1 (r_int_u8 q6)) rfl rfl rfl rfl rfl rfl rfl (w_f81_1 _ _ _ _ h7) ⟨(Wv.refl _), (Wv.refl _), trivial⟩ (List.forall_mem_cons.2 ⟨rfl, (fun _ h => by cases h)⟩) (List.forall_mem_cons.2 ⟨⟨_, .head _⟩, (fun _ h => by cases h)⟩) rfl rfl ?_
        refine AL.v good (d := 4) (v := .sl (.own 1) 1 (r_int_u8 q6)) rfl rfl rfl rfl ?_
        refine AW.ret ?_
        obtain rfl := Option.some.inj hr
        exact RetH.w good (.inr rfl) rfl rfl (Wv.refl _) (List.forall_mem_cons.2 ⟨rfl, (fun _ h => by cases h)⟩)
    · replace hr := cnd_f h2 hr
      refine AW.seq ?_
      refine AW.region (M := fun _ => true) ?_
      refine AL.v good (d := 30) (v := .bool (a1.kind == 2)) rfl rfl rfl rfl ?_
      refine AL.v good (d := 29) (v := .bool (a1.kind == 2)) rfl rfl rfl rfl ?_
      refine AW.if rfl (fun h8 => ?_) (fun h8 => ?_)
      · replace hr := cnd_t h8 hr
        refine AW.seq ?_
        refine AW.seq ?_
        refine AW.region (M := fun _ => true) ?_
        refine AL.v good (d := 31) (v := .ptr 2 2) rfl rfl rfl rfl ?_
        refine AL.v good (d := 32) (v := .bool a1.b) rfl rfl rfl rfl ?_
        refine AW.if rfl (fun h9 => ?_) (fun h9 => ?_)
        · replace hr := cnd_t h9 hr
          refine AW.seq ?_
          refine AW.region (M := fun _ => true) ?_
          refine AL.v good (d := 33) (v := .sl (.own 1) 1 (r_int_u8 (a0 ++ [(IntKind.u8.wrap (a1.kind))]))) rfl rfl rfl rfl ?_
          refine AL.lit good (d := 34) (rows := [[.int .u8 1]]) rfl rfl rfl rfl rfl rfl rfl rfl rfl 4 rfl ?_
          obtain ⟨h10, hr⟩ := grd hr
          refine AL.aw2 good (d := 35) (rows := r_int_u8 (a0 ++ [(IntKind.u8.wrap (a1.kind))])) (news := [[.int .u8 1]]) (rows2 := r_int_u8 ((a0 ++ [(IntKind.u8.wrap (a1.kind))]) ++ [1])) rfl rfl rfl rfl rfl rfl rfl rfl rfl (by simp) rfl rfl rfl ⟨⟨Wv.refl _, trivial⟩, trivial⟩ (by simp [r_int_u8, rowF]) (by rw [r_int_u8_length, List.length_append]; exact h10) rfl ?_
          refine AL.v good (d := 4) (v := .sl (.own 1) 1 (r_int_u8 ((a0 ++ [(IntKind.u8.wrap (a1.kind))]) ++ [1]))) rfl rfl rfl rfl ?_
          refine AW.ret ?_
          obtain rfl := Option.some.inj hr
          exact RetH.w good (.inr rfl) rfl rfl (Wv.refl _) (List.forall_mem_cons.2 ⟨rfl, (fun _ h => by cases h)⟩)
        · replace hr := cnd_f h9 hr
          refine AW.skip ?_
          refine AW.seq ?_
          refine AW.region (M := fun _ => true) ?_
          refine AL.v good (d := 36) (v := .sl (.own 1) 1 (r_int_u8 (a0 ++ [(IntKind.u8.wrap (a1.kind))]))) rfl rfl rfl rfl ?_
          refine AL.lit good (d := 37) (rows := [[.int .u8 0]]) rfl rfl rfl rfl rfl rfl rfl rfl rfl 4 rfl ?_
          obtain ⟨h11, hr⟩ := grd hr
          refine AL.aw2 good (d := 38) (rows := r_int_u8 (a0 ++ [(IntKind.u8.wrap (a1.kind))])) (news := [[.int .u8 0]]) (rows2 := r_int_u8 ((a0 ++ [(IntKind.u8.wrap (a1.kind))]) ++ [0])) rfl rfl rfl rfl rfl rfl rfl rfl rfl (by simp) rfl rfl rfl ⟨⟨Wv.refl _, trivial⟩, trivial⟩ (by simp [r_int_u8, rowF]) (by rw [r_int_u8_length, List.length_append]; exact h11) rfl ?_
          refine AL.v good (d := 4) (v := .sl (.own 1) 1 (r_int_u8 ((a0 ++ [(IntKind.u8.wrap (a1.kind))]) ++ [0]))) rfl rfl rfl rfl ?_
          refine AW.ret ?_
          obtain rfl := Option.some.inj hr
          exact RetH.w good (.inr rfl) rfl rfl (Wv.refl _) (List.forall_mem_cons.2 ⟨rfl, (fun _ h => by cases h)⟩)
      · replace hr := cnd_f h8 hr
        refine AW.seq ?_
        refine AW.region (M := fun _ => true) ?_
        refine AL.v good (d := 40) (v := .bool (a1.kind == 3)) rfl rfl rfl rfl ?_
        refine AL.v good (d := 39) (v := .bool (a1.kind == 3)) rfl rfl rfl rfl ?_
        refine AW.if rfl (fun h12 => ?_) (fun h12 => ?_)
        · replace hr := cnd_t h12 hr
          refine AW.seq ?_
          refine AW.region (M := fun _ => true) ?_
          refine AL.v good (d := 41) (v := .sl (.own 1) 1 (r_int_u8 (a0 ++ [(IntKind.u8.wrap (a1.kind))]))) rfl rfl rfl rfl ?_
          refine AL.v good (d := 42) (v := .ptr 2 3) rfl rfl rfl rfl ?_
          refine AL.v good (d := 43) (v := .str a1.s) rfl rfl rfl rfl ?_
          obtain ⟨q13, h14, hr⟩ := bnd1 hr
          refine AL.clW good (d := 44) (xs := [.sl (.own 1) 1 (r_int_u8 (a0 ++ [(IntKind.u8.wrap (a1.kind))])), .str a1.s]) (rd := [(1, .row 5 1 (r_int_u8 (a0 ++ [(IntKind.u8.wrap (a1.kind))])).length)]) (up := [(1, .row 5 1 (r_int_u8 q13).length)]) (res := .sl (.own 1) 1 (r_int_u8 q13)) rfl rfl rfl rfl rfl rfl rfl (w_f82_1 _ _ _ _ h14) ⟨(Wv.refl _), (Wv.refl _), trivial⟩ (List.forall_mem_cons.2 ⟨rfl, (fun _ h => by cases h)⟩) (List.forall_mem_cons.2 ⟨⟨_, .head _⟩, (fun _ h => by cases h)⟩) rfl rfl ?_
          refine AL.v good (d := 4) (v := .sl (.own 1) 1 (r_int_u8 q13)) rfl rfl rfl rfl ?_
          refine AW.ret ?_
          obtain rfl := Option.some.inj hr
          exact RetH.w good (.inr rfl) rfl rfl (Wv.refl _) (List.forall_mem_cons.2 ⟨rfl, (fun _ h => by cases h)⟩)
        · replace hr := cnd_f h12 hr
          refine AW.skip ?_
          refine AW.seq ?_
          refine AW.region (M := fun _ => true) ?_
          refine AL.v good (d := 45) (v := .sl (.own 1) 1 (r_int_u8 (a0 ++ [(IntKind.u8.wrap (a1.kind))]))) rfl rfl rfl rfl ?_
          refine AL.v good (d := 46) (v := .ptr 2 4) rfl rfl rfl rfl ?_
          refine AL.v good (d := 47) (v := .sl .ro 5 (encs a1.t)) rfl rfl rfl rfl ?_
          refine AL.ln good (d := 48) (m := a1.t.length) rfl rfl rfl rfl rfl rfl (encs_length _) ?_
          refine AL.v good (d := 49) (v := .int .u8 (IntKind.u8.wrap ((a1.t.length : Int)))) rfl rfl rfl rfl ?_
          refine AL.lit good (d := 50) (rows := [[.int .u8 (IntKind.u8.wrap ((a1.t.length : Int)))]]) rfl rfl rfl rfl rfl rfl rfl rfl rfl 4 rfl ?_
          obtain ⟨h15, hr⟩ := grd hr
          refine AL.aw2 good (d := 51) (rows := r_int_u8 (a0 ++ [(IntKind.u8.wrap (a1.kind))])) (news := [[.int .u8 (IntKind.u8.wrap ((a1.t.length : Int)))]]) (rows2 := r_int_u8 ((a0 ++ [(IntKind.u8.wrap (a1.kind))]) ++ [(IntKind.u8.wrap ((a1.t.length : Int)))])) rfl rfl rfl rfl rfl rfl rfl rfl rfl (by simp) rfl rfl rfl ⟨⟨Wv.refl _, trivial⟩, trivial⟩ (by simp [r_int_u8, rowF]) (by rw [r_int_u8_length, List.length_append]; exact h15) rfl ?_
          refine AL.v good (d := 0) (v := .sl (.own 1) 1 (r_int_u8 ((a0 ++ [(IntKind.u8.wrap (a1.kind))]) ++ [(IntKind.u8.wrap ((a1.t.length : Int)))]))) rfl rfl rfl rfl ?_
          refine AW.seq ?_
          refine AW.seq ?_
          refine AW.region (M := fun _ => true) ?_
          refine AL.v good (d := 6) (v := .int .i64 0) rfl rfl rfl rfl ?_
          refine AW.block ?_
          refine AW.lensB 2 rfl (fun hl22 => ?_)
          replace hl22 : a1.t.length ≤ 9223372036854775807 := by rw [← encs_length a1.t]; exact hl22.2.2.2.2.1
          refine AW.lpw (fun x : Nat × (List Int) × Nat => [(0, .sl (.own 1) 1 (r_int_u8 x.2.1)), (3, .ptr 2 0), (6, .int .i64 (x.2.2 : Int))]) (fun x => [(1, .row 5 1 (r_int_u8 x.2.1).length), (2, .box 33 [.int .i64 a1.kind, .int .i64 a1.i, .bool a1.b, .str a1.s, .sl .ro 5 (encs a1.t)])]) (fun x => s_f47_l1 x.1 a1 x.2.1 x.2.2 = some r ∧ x.1 ≤ n) (fun x => x.1) (n, ((a0 ++ [(IntKind.u8.wrap (a1.kind))]) ++ [(IntKind.u8.wrap ((a1.t.length : Int)))]), 0) ⟨(idsIn_sub rfl), List.forall_mem_cons.2 ⟨⟨⟨_, rfl, Wv.refl _⟩, (by simp [pureA, pureL, pureR, inA, inL, inR, inO, idsIn, encs_pure, enxs_pure, enys_pure, valC_pure, exC_pure, tyC_pure, r_int_u8_pure])⟩, List.forall_mem_cons.2 ⟨⟨⟨_, rfl, Wv.refl _⟩, (by simp [pureA, pureL, pureR, inA, inL, inR, inO, idsIn, encs_pure, enxs_pure, enys_pure, valC_pure, exC_pure, tyC_pure, r_int_u8_pure])⟩, List.forall_mem_cons.2 ⟨⟨⟨_, rfl, Wv.refl _⟩, (by simp [pureA, pureL, pureR, inA, inL, inR, inO, idsIn, encs_pure, enxs_pure, enys_pure, valC_pure, exC_pure, tyC_pure, r_int_u8_pure])⟩, (fun _ h => by cases h)⟩⟩⟩, List.forall_mem_cons.2 ⟨⟨⟨_, rfl, ⟨rfl, rfl, rfl⟩⟩, (by simp [pureA, pureL, pureR, inA, inL, inR, inO, idsIn, encs_pure, enxs_pure, enys_pure, valC_pure, exC_pure, tyC_pure, r_int_u8_pure])⟩, List.forall_mem_cons.2 ⟨⟨⟨_, rfl, ⟨rfl, ⟨Wv.refl _, Wv.refl _, Wv.refl _, Wv.refl _, Wv.refl _, trivial⟩⟩⟩, (by simp [pureA, pureL, pureR, inA, inL, inR, inO, idsIn, encs_pure, enxs_pure, enys_pure, valC_pure, exC_pure, tyC_pure, r_int_u8_pure])⟩, (fun _ h => by cases h)⟩⟩⟩ ⟨hr, Nat.le_refl _⟩ (fun ⟨m, v1_1, v1_2⟩ hx => ?_)
          obtain ⟨hr, hm⟩ := hx
          try dsimp only at hr hm
          cases m with
          | zero => rw [s_f47_l1] at hr; cases hr
          | succ m =>
            rw [s_f47_l1] at hr
            show AW Try.prog _ _ _ (mkS 67 [(0, .sl (.own 1) 1 (r_int_u8 v1_1)), (3, .ptr 2 0), (6, .int .i64 (v1_2 : Int))] [(1, .row 5 1 (r_int_u8 v1_1).length), (2, .box 33 [.int .i64 a1.kind, .int .i64 a1.i, .bool a1.b, .str a1.s, .sl .ro 5 (encs a1.t)])])
            refine AW.seq ?_
            refine AW.seq ?_
            refine AW.region (M := fun _ => true) ?_
            refine AL.v good (d := 52) (v := .int .i64 (v1_2 : Int)) rfl rfl rfl rfl ?_
            refine AL.v good (d := 53) (v := .ptr 2 4) rfl rfl rfl rfl ?_
            refine AL.v good (d := 54) (v := .sl .ro 5 (encs a1.t)) rfl rfl rfl rfl ?_
            refine AL.ln good (d := 55) (m := a1.t.length) rfl rfl rfl rfl rfl rfl (encs_length _) ?_
            refine AL.v good (d := 56) (v := .bool (decide ((v1_2 : Int) < (a1.t.length : Int)))) rfl rfl rfl rfl ?_
            refine AW.if rfl (fun h23 => ?_) (fun h23 => ?_)
            · replace hr := cnd_t h23 hr
              refine AW.skip ?_
              refine AW.seq ?_
              refine AW.block ?_
              refine AW.region (M := fun _ => true) ?_
              refine AL.v good (d := 59) (v := .sl (.own 1) 1 (r_int_u8 v1_1)) rfl rfl rfl rfl ?_
              refine AL.v good (d := 60) (v := .ptr 2 4) rfl rfl rfl rfl ?_
              refine AL.v good (d := 61) (v := .sl .ro 5 (encs a1.t)) rfl rfl rfl rfl ?_
              refine AL.v good (d := 62) (v := .int .i64 (v1_2 : Int)) rfl rfl rfl rfl ?_
              obtain ⟨x24, h25, hr⟩ := bnd1 hr
              refine AL.ix good (d := 63) (r := [.int .i64 x24.kind, .int .i64 x24.i, .bool x24.b, .str x24.s, .sl .ro 5 (encs x24.t)]) rfl rfl rfl rfl rfl rfl rfl (Int.natCast_nonneg _) (encs_get h25) ?_
              refine AL.v good (d := 64) (v := .agg [.int .i64 x24.kind, .int .i64 x24.i, .bool x24.b, .str x24.s, .sl .ro 5 (encs x24.t)]) rfl rfl rfl rfl ?_
              obtain ⟨q26, h27, hr⟩ := bnd1 hr
              refine AL.clW good (d := 65) (xs := [.sl (.own 1) 1 (r_int_u8 v1_1), .agg (valC x24)]) (rd := [(1, .row 5 1 (r_int_u8 v1_1).length)]) (up := [(1, .row 5 1 (r_int_u8 q26).length)]) (res := .sl (.own 1) 1 (r_int_u8 q26)) rfl rfl rfl rfl rfl rfl rfl (ih _ _ _ _ h27 (by omega)) ⟨(Wv.refl _), (Wv.refl _), trivial⟩ (List.forall_mem_cons.2 ⟨rfl, (fun _ h => by cases h)⟩) (List.forall_mem_cons.2 ⟨⟨_, .head _⟩, (fun _ h => by cases h)⟩) rfl rfl ?_
              refine AL.v good (d := 0) (v := .sl (.own 1) 1 (r_int_u8 q26)) rfl rfl rfl rfl ?_
              refine AW.region (M := fun _ => true) ?_
              refine AL.v good (d := 57) (v := .int .i64 (v1_2 : Int)) rfl rfl rfl rfl ?_
              refine AL.v good (d := 58) (v := .int .i64 (IntKind.i64.wrap ((v1_2 : Int) + 1))) rfl rfl rfl rfl ?_
              refine AL.v good (d := 6) (v := .int .i64 (IntKind.i64.wrap ((v1_2 : Int) + 1))) rfl rfl rfl rfl ?_
              exact ⟨(m, q26, (v1_2 + 1)), _, _, rfl, ⟨(idsIn_sub rfl), List.forall_mem_cons.2 ⟨⟨⟨_, rfl, Wv.refl _⟩, (by simp [pureA, pureL, pureR, inA, inL, inR, inO, idsIn, encs_pure, enxs_pure, enys_pure, valC_pure, exC_pure, tyC_pure, r_int_u8_pure])⟩, List.forall_mem_cons.2 ⟨⟨⟨_, rfl, Wv.refl _⟩, (by simp [pureA, pureL, pureR, inA, inL, inR, inO, idsIn, encs_pure, enxs_pure, enys_pure, valC_pure, exC_pure, tyC_pure, r_int_u8_pure])⟩, List.forall_mem_cons.2 ⟨⟨⟨_, rfl, (wnx h23 hl22)⟩, (by simp [pureA, pureL, pureR, inA, inL, inR, inO, idsIn, encs_pure, enxs_pure, enys_pure, valC_pure, exC_pure, tyC_pure, r_int_u8_pure])⟩, (fun _ h => by cases h)⟩⟩⟩, List.forall_mem_cons.2 ⟨⟨⟨_, rfl, ⟨rfl, rfl, rfl⟩⟩, (by simp [pureA, pureL, pureR, inA, inL, inR, inO, idsIn, encs_pure, enxs_pure, enys_pure, valC_pure, exC_pure, tyC_pure, r_int_u8_pure])⟩, List.forall_mem_cons.2 ⟨⟨⟨_, rfl, ⟨rfl, ⟨Wv.refl _, Wv.refl _, Wv.refl _, Wv.refl _, Wv.refl _, trivial⟩⟩⟩, (by simp [pureA, pureL, pureR, inA, inL, inR, inO, idsIn, encs_pure, enxs_pure, enys_pure, valC_pure, exC_pure, tyC_pure, r_int_u8_pure])⟩, (fun _ h => by cases h)⟩⟩⟩, ⟨hr, Nat.le_of_succ_le hm⟩, Nat.lt_succ_self _⟩
            · replace hr := cnd_f h23 hr
              refine AW.exit ?_
              refine AW.seq ?_
              refine AW.region (M := fun _ => true) ?_
              refine AL.v good (d := 66) (v := .sl (.own 1) 1 (r_int_u8 v1_1)) rfl rfl rfl rfl ?_
              refine AL.v good (d := 4) (v := .sl (.own 1) 1 (r_int_u8 v1_1)) rfl rfl rfl rfl ?_
              refine AW.ret ?_
              obtain rfl := Option.some.inj hr
              exact RetH.w good (.inr rfl) rfl rfl (Wv.refl _) (List.forall_mem_cons.2 ⟨rfl, (fun _ h => by cases h)⟩)
theorem w_f47_1 (n : Nat) : ∀ (a0 : List Int) (a1 : Val) (r : List Int) (hr : s_f47 n a0 a1 = some r), ACallH Try.prog 47 [.sl (.own 1) 1 (r_int_u8 a0), .agg (valC a1)] [(1, .row 5 1 (r_int_u8 a0).length)] [(1, .row 5 1 (r_int_u8 r).length)] (.sl (.own 1) 1 (r_int_u8 r)) := by
  induction n using Nat.strongRecOn with
  | _ n ih =>
    intro a0 a1 r hr
    exact w_f47_1_a n (fun m a0 a1 r h hm => ih m hm a0 a1 r h) a0 a1 r hr

end Go.Proofs.Ytbcjcekoonebiaa.Tl
