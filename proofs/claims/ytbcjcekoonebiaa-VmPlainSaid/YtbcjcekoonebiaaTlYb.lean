/- Definitions and walks: numbers, texts read. Conditions: none. -/
import Derived.Test.YtbcjcekoonebiaaTlYa
set_option linter.unusedVariables false
set_option linter.unusedSimpArgs false
namespace Go.Proofs.Ytbcjcekoonebiaa.Tl
open Go Go.RowKit




theorem w_f113 (a0 : Int) : ACall Try.prog 113 [.int .u64 a0] (.func 143 [] [.ep [.int .u64 a0]]) := by
  refine ACall.go [(0, .int .u64 a0)] Try.func113 rfl Try.ntmps113 rfl rfl (by simp [pureA, pureL, pureR, inA, inL, inR, inO, idsIn, encs_pure, enxs_pure, enys_pure, valC_pure, exC_pure, tyC_pure, r_int_u8_pure]) ?_
  refine AW.seq ?_
  refine AW.region (M := fun _ => true) ?_
  refine AL.bx good (d := 1) (l := [.int .u64 a0]) rfl rfl rfl rfl rfl rfl 0 rfl ?_
  refine AL.v good (d := 2) (v := .nilf) rfl rfl rfl rfl ?_
  refine AW.seq ?_
  refine AW.region (M := fun _ => true) ?_
  refine AL.v good (d := 3) (v := .func 143 [] [.ptr 0 0]) rfl rfl rfl rfl ?_
  refine AL.v good (d := 2) (v := .func 143 [] [.ptr 0 0]) rfl rfl rfl rfl ?_
  refine AW.ret ?_
  refine RetQ.mk good (.inr rfl) rfl rfl ?_
  exact rfl

mutual
def s_f78_l1 : Nat → (List Int) → Int → Nat → Option (Int × Int × Int)
  | 0, _, _, _ => none
  | n + 1, a0, v1_1, v1_2 => (bif (decide ((v1_2 : Int) < (a0.length : Int))) then ((a0[v1_2]?).bind fun x15 => (bif (((v1_2 : Int) == 9) && (decide (x15 > 1))) then some (0, 0, 2) else (if 0 ≤ (IntKind.i64.wrap (7 * (v1_2 : Int))) then (bif (decide (x15 ≥ 128)) then (s_f78_l1 n a0 (bits .or .u64 v1_1 (IntKind.u64.wrap ((IntKind.u64.wrap ((bits .and .u8 x15 127))) * 2 ^ (min (IntKind.i64.wrap (7 * (v1_2 : Int))).toNat 64)))) (v1_2 + 1)) else (bif ((x15 == 0) && (decide ((v1_2 : Int) > 0))) then some (0, 0, 2) else some ((bits .or .u64 v1_1 (IntKind.u64.wrap ((IntKind.u64.wrap ((bits .and .u8 x15 127))) * 2 ^ (min (IntKind.i64.wrap (7 * (v1_2 : Int))).toNat 64)))), (IntKind.i64.wrap ((v1_2 : Int) + 1)), 0))) else none))) else some (0, 0, 3))
end
def s_f78 (n : Nat) (a0 : List Int) : Option (Int × Int × Int) :=
  (s_f78_l1 n a0 0 0)

theorem w_f78 (n : Nat) (a0 : List Int) (r : Int × Int × Int) (hr : s_f78 n a0 = some r) : ACall Try.prog 78 [.sl .ro 1 (r_int_u8 a0)] (.tup [.int .u64 r.1, .int .i64 r.2.1, .int .i64 r.2.2]) := by
  refine ACall.go [(0, .sl .ro 1 (r_int_u8 a0))] Try.func78 rfl Try.ntmps78 rfl rfl (by simp [pureA, pureL, pureR, inA, inL, inR, inO, idsIn, encs_pure, enxs_pure, enys_pure, valC_pure, exC_pure, tyC_pure, r_int_u8_pure]) ?_
  rw [s_f78] at hr
  refine AW.seq ?_
  refine AW.region (M := fun _ => true) ?_
  refine AL.v good (d := 2) (v := .int .u64 0) rfl rfl rfl rfl ?_
  refine AL.v good (d := 3) (v := .int .i64 0) rfl rfl rfl rfl ?_
  refine AL.v good (d := 4) (v := .int .i64 0) rfl rfl rfl rfl ?_
  refine AW.seq ?_
  refine AW.region (M := fun _ => true) ?_
  refine AL.v good (d := 5) (v := .int .u64 0) rfl rfl rfl rfl ?_
  refine AW.seq ?_
  refine AW.seq ?_
  refine AW.region (M := fun _ => true) ?_
  refine AL.v good (d := 8) (v := .sl .ro 1 (r_int_u8 a0)) rfl rfl rfl rfl ?_
  refine AL.ln good (d := 9) (m := a0.length) rfl rfl rfl rfl rfl rfl (r_int_u8_length _) ?_
  refine AL.v good (d := 10) (v := .int .i64 0) rfl rfl rfl rfl ?_
  refine AW.block ?_
  refine AW.lens 8 rfl (fun hl13 => ?_)
  replace hl13 : a0.length ≤ 9223372036854775807 := by rw [← r_int_u8_length a0]; exact hl13
  refine AW.lpw (fun x : Nat × Int × Nat => [(5, .int .u64 x.2.1), (8, .sl .ro 1 (r_int_u8 a0)), (9, .int .i64 (a0.length : Int)), (10, .int .i64 (x.2.2 : Int))]) (fun x => []) (fun x => s_f78_l1 x.1 a0 x.2.1 x.2.2 = some r ∧ x.1 ≤ n) (fun x => x.1) (n, 0, 0) ⟨(fun _ h => by cases h), List.forall_mem_cons.2 ⟨⟨⟨_, rfl, Wv.refl _⟩, (by simp [pureA, pureL, pureR, inA, inL, inR, inO, idsIn, encs_pure, enxs_pure, enys_pure, valC_pure, exC_pure, tyC_pure, r_int_u8_pure])⟩, List.forall_mem_cons.2 ⟨⟨⟨_, rfl, Wv.refl _⟩, (by simp [pureA, pureL, pureR, inA, inL, inR, inO, idsIn, encs_pure, enxs_pure, enys_pure, valC_pure, exC_pure, tyC_pure, r_int_u8_pure])⟩, List.forall_mem_cons.2 ⟨⟨⟨_, rfl, Wv.refl _⟩, (by simp [pureA, pureL, pureR, inA, inL, inR, inO, idsIn, encs_pure, enxs_pure, enys_pure, valC_pure, exC_pure, tyC_pure, r_int_u8_pure])⟩, List.forall_mem_cons.2 ⟨⟨⟨_, rfl, Wv.refl _⟩, (by simp [pureA, pureL, pureR, inA, inL, inR, inO, idsIn, encs_pure, enxs_pure, enys_pure, valC_pure, exC_pure, tyC_pure, r_int_u8_pure])⟩, (fun _ h => by cases h)⟩⟩⟩⟩, (fun _ h => by cases h)⟩ ⟨hr, Nat.le_refl _⟩ (fun ⟨m, v1_1, v1_2⟩ hx => ?_)
  obtain ⟨hr, hm⟩ := hx
  try dsimp only at hr hm
  cases m with
  | zero => rw [s_f78_l1] at hr; cases hr
  | succ m =>
    rw [s_f78_l1] at hr
    show AW Try.prog _ _ _ (mkS 41 [(5, .int .u64 v1_1), (8, .sl .ro 1 (r_int_u8 a0)), (9, .int .i64 (a0.length : Int)), (10, .int .i64 (v1_2 : Int))] [])
    refine AW.seq ?_
    refine AW.region (M := fun _ => true) ?_
    refine AL.v good (d := 11) (v := .bool (decide ((v1_2 : Int) < (a0.length : Int)))) rfl rfl rfl rfl ?_
    refine AW.seq ?_
    refine AW.if rfl (fun h14 => ?_) (fun h14 => ?_)
    · replace hr := cnd_t h14 hr
      refine AW.skip ?_
      refine AW.seq ?_
      refine AW.block ?_
      refine AW.seq ?_
      refine AW.region (M := fun _ => true) ?_
      refine AL.v good (d := 12) (v := .int .i64 (v1_2 : Int)) rfl rfl rfl rfl ?_
      obtain ⟨x15, h16, hr⟩ := bnd1 hr
      refine AL.ix good (d := 13) (r := [.int .u8 x15]) rfl rfl rfl rfl rfl rfl rfl (Int.natCast_nonneg _) (r_int_u8_get h16) ?_
      refine AL.v good (d := 14) (v := .int .u8 x15) rfl rfl rfl rfl ?_
      refine AL.v good (d := 6) (v := .int .i64 (v1_2 : Int)) rfl rfl rfl rfl ?_
      refine AL.v good (d := 7) (v := .int .u8 x15) rfl rfl rfl rfl ?_
      refine AW.seq ?_
      refine AW.seq ?_
      refine AW.region (M := fun _ => true) ?_
      refine AL.v good (d := 15) (v := .int .i64 (v1_2 : Int)) rfl rfl rfl rfl ?_
      refine AL.v good (d := 16) (v := .bool ((v1_2 : Int) == 9)) rfl rfl rfl rfl ?_
      refine AL.vb good (d := 17) (b := ((v1_2 : Int) == 9)) rfl rfl rfl rfl (fun g17 h18 => ?_)
      refine AL.gv good (d := 18) (c := g17) (v := .int .u8 x15) (rd := []) rfl rfl (by cases g17 <;> rfl) (fun h => by cases g17 <;> first | rfl | exact absurd h (by decide)) ?_
      refine AL.gv good (d := 19) (c := g17) (v := .bool (decide (x15 > 1))) (rd := []) rfl rfl (by cases g17 <;> rfl) (fun h => by cases g17 <;> first | rfl | exact absurd h (by decide)) ?_
      refine AL.v good (d := 20) (v := .bool (g17 && (decide (x15 > 1)))) (rd := []) rfl rfl rfl (by cases g17 <;> rfl) ?_
      subst h18
      refine AW.if rfl (fun h19 => ?_) (fun h19 => ?_)
      · replace hr := cnd_t h19 hr
        refine AW.seq ?_
        refine AW.region (M := fun _ => true) ?_
        refine AL.v good (d := 2) (v := .int .u64 0) rfl rfl rfl rfl ?_
        refine AL.v good (d := 3) (v := .int .i64 0) rfl rfl rfl rfl ?_
        refine AL.v good (d := 4) (v := .int .i64 2) rfl rfl rfl rfl ?_
        refine AW.ret ?_
        obtain rfl := Option.some.inj hr
        exact RetQ.w good (.inr rfl) rfl rfl (Wv.refl _) (by simp [pureA, pureL, pureR, inA, inL, inR, inO, idsIn, encs_pure, enxs_pure, enys_pure, valC_pure, exC_pure, tyC_pure, r_int_u8_pure])
      · replace hr := cnd_f h19 hr
        refine AW.skip ?_
        refine AW.seq ?_
        refine AW.region (M := fun _ => true) ?_
        refine AL.v good (d := 21) (v := .int .u64 v1_1) rfl rfl rfl rfl ?_
        refine AL.v good (d := 22) (v := .int .u8 x15) rfl rfl rfl rfl ?_
        refine AL.v good (d := 23) (v := .int .u8 (bits .and .u8 x15 127)) rfl rfl rfl rfl ?_
        refine AL.v good (d := 24) (v := .int .u64 (IntKind.u64.wrap ((bits .and .u8 x15 127)))) rfl rfl rfl rfl ?_
        refine AL.v good (d := 25) (v := .int .i64 (v1_2 : Int)) rfl rfl rfl rfl ?_
        refine AL.v good (d := 26) (v := .int .i64 (IntKind.i64.wrap (7 * (v1_2 : Int)))) rfl rfl rfl rfl ?_
        obtain ⟨h20, hr⟩ := grd hr
        refine AL.v good (d := 27) (v := .int .u64 (IntKind.u64.wrap ((IntKind.u64.wrap ((bits .and .u8 x15 127))) * 2 ^ (min (IntKind.i64.wrap (7 * (v1_2 : Int))).toNat 64)))) rfl rfl rfl (by simp only [aval]; exact avs_shl h20) ?_
        refine AL.v good (d := 28) (v := .int .u64 (bits .or .u64 v1_1 (IntKind.u64.wrap ((IntKind.u64.wrap ((bits .and .u8 x15 127))) * 2 ^ (min (IntKind.i64.wrap (7 * (v1_2 : Int))).toNat 64))))) rfl rfl rfl rfl ?_
        refine AL.v good (d := 5) (v := .int .u64 (bits .or .u64 v1_1 (IntKind.u64.wrap ((IntKind.u64.wrap ((bits .and .u8 x15 127))) * 2 ^ (min (IntKind.i64.wrap (7 * (v1_2 : Int))).toNat 64))))) rfl rfl rfl rfl ?_
        refine AW.seq ?_
        refine AW.seq ?_
        refine AW.region (M := fun _ => true) ?_
        refine AL.v good (d := 29) (v := .int .u8 x15) rfl rfl rfl rfl ?_
        refine AL.v good (d := 30) (v := .bool (decide (x15 ≥ 128))) rfl rfl rfl rfl ?_
        refine AW.if rfl (fun h21 => ?_) (fun h21 => ?_)
        · replace hr := cnd_t h21 hr
          refine AW.exit ?_
          refine AW.region (M := fun _ => true) ?_
          refine AL.v good (d := 40) (v := .int .i64 (IntKind.i64.wrap ((v1_2 : Int) + 1))) rfl rfl rfl rfl ?_
          refine AL.v good (d := 10) (v := .int .i64 (IntKind.i64.wrap ((v1_2 : Int) + 1))) rfl rfl rfl rfl ?_
          exact ⟨(m, (bits .or .u64 v1_1 (IntKind.u64.wrap ((IntKind.u64.wrap ((bits .and .u8 x15 127))) * 2 ^ (min (IntKind.i64.wrap (7 * (v1_2 : Int))).toNat 64)))), (v1_2 + 1)), _, _, rfl, ⟨(fun _ h => by cases h), List.forall_mem_cons.2 ⟨⟨⟨_, rfl, Wv.refl _⟩, (by simp [pureA, pureL, pureR, inA, inL, inR, inO, idsIn, encs_pure, enxs_pure, enys_pure, valC_pure, exC_pure, tyC_pure, r_int_u8_pure])⟩, List.forall_mem_cons.2 ⟨⟨⟨_, rfl, Wv.refl _⟩, (by simp [pureA, pureL, pureR, inA, inL, inR, inO, idsIn, encs_pure, enxs_pure, enys_pure, valC_pure, exC_pure, tyC_pure, r_int_u8_pure])⟩, List.forall_mem_cons.2 ⟨⟨⟨_, rfl, Wv.refl _⟩, (by simp [pureA, pureL, pureR, inA, inL, inR, inO, idsIn, encs_pure, enxs_pure, enys_pure, valC_pure, exC_pure, tyC_pure, r_int_u8_pure])⟩, List.forall_mem_cons.2 ⟨⟨⟨_, rfl, (wnx h14 hl13)⟩, (by simp [pureA, pureL, pureR, inA, inL, inR, inO, idsIn, encs_pure, enxs_pure, enys_pure, valC_pure, exC_pure, tyC_pure, r_int_u8_pure])⟩, (fun _ h => by cases h)⟩⟩⟩⟩, (fun _ h => by cases h)⟩, ⟨hr, Nat.le_of_succ_le hm⟩, Nat.lt_succ_self _⟩
        · replace hr := cnd_f h21 hr
          refine AW.skip ?_
          refine AW.seq ?_
          refine AW.seq ?_
          refine AW.region (M := fun _ => true) ?_
          refine AL.v good (d := 31) (v := .int .u8 x15) rfl rfl rfl rfl ?_
          refine AL.v good (d := 32) (v := .bool (x15 == 0)) rfl rfl rfl rfl ?_
          refine AL.vb good (d := 33) (b := (x15 == 0)) rfl rfl rfl rfl (fun g22 h23 => ?_)
          refine AL.gv good (d := 34) (c := g22) (v := .int .i64 (v1_2 : Int)) (rd := []) rfl rfl (by cases g22 <;> rfl) (fun h => by cases g22 <;> first | rfl | exact absurd h (by decide)) ?_
          refine AL.gv good (d := 35) (c := g22) (v := .bool (decide ((v1_2 : Int) > 0))) (rd := []) rfl rfl (by cases g22 <;> rfl) (fun h => by cases g22 <;> first | rfl | exact absurd h (by decide)) ?_
          refine AL.v good (d := 36) (v := .bool (g22 && (decide ((v1_2 : Int) > 0)))) (rd := []) rfl rfl rfl (by cases g22 <;> rfl) ?_
          subst h23
          refine AW.if rfl (fun h24 => ?_) (fun h24 => ?_)
          · replace hr := cnd_t h24 hr
            refine AW.seq ?_
            refine AW.region (M := fun _ => true) ?_
            refine AL.v good (d := 2) (v := .int .u64 0) rfl rfl rfl rfl ?_
            refine AL.v good (d := 3) (v := .int .i64 0) rfl rfl rfl rfl ?_
            refine AL.v good (d := 4) (v := .int .i64 2) rfl rfl rfl rfl ?_
            refine AW.ret ?_
            obtain rfl := Option.some.inj hr
            exact RetQ.w good (.inr rfl) rfl rfl (Wv.refl _) (by simp [pureA, pureL, pureR, inA, inL, inR, inO, idsIn, encs_pure, enxs_pure, enys_pure, valC_pure, exC_pure, tyC_pure, r_int_u8_pure])
          · replace hr := cnd_f h24 hr
            refine AW.skip ?_
            refine AW.seq ?_
            refine AW.region (M := fun _ => true) ?_
            refine AL.v good (d := 37) (v := .int .u64 (bits .or .u64 v1_1 (IntKind.u64.wrap ((IntKind.u64.wrap ((bits .and .u8 x15 127))) * 2 ^ (min (IntKind.i64.wrap (7 * (v1_2 : Int))).toNat 64))))) rfl rfl rfl rfl ?_
            refine AL.v good (d := 38) (v := .int .i64 (v1_2 : Int)) rfl rfl rfl rfl ?_
            refine AL.v good (d := 39) (v := .int .i64 (IntKind.i64.wrap ((v1_2 : Int) + 1))) rfl rfl rfl rfl ?_
            refine AL.v good (d := 2) (v := .int .u64 (bits .or .u64 v1_1 (IntKind.u64.wrap ((IntKind.u64.wrap ((bits .and .u8 x15 127))) * 2 ^ (min (IntKind.i64.wrap (7 * (v1_2 : Int))).toNat 64))))) rfl rfl rfl rfl ?_
            refine AL.v good (d := 3) (v := .int .i64 (IntKind.i64.wrap ((v1_2 : Int) + 1))) rfl rfl rfl rfl ?_
            refine AL.v good (d := 4) (v := .int .i64 0) rfl rfl rfl rfl ?_
            refine AW.ret ?_
            obtain rfl := Option.some.inj hr
            exact RetQ.w good (.inr rfl) rfl rfl (Wv.refl _) (by simp [pureA, pureL, pureR, inA, inL, inR, inO, idsIn, encs_pure, enxs_pure, enys_pure, valC_pure, exC_pure, tyC_pure, r_int_u8_pure])
    · replace hr := cnd_f h14 hr
      refine AW.exit ?_
      refine AW.seq ?_
      refine AW.region (M := fun _ => true) ?_
      refine AL.v good (d := 2) (v := .int .u64 0) rfl rfl rfl rfl ?_
      refine AL.v good (d := 3) (v := .int .i64 0) rfl rfl rfl rfl ?_
      refine AL.v good (d := 4) (v := .int .i64 3) rfl rfl rfl rfl ?_
      refine AW.ret ?_
      obtain rfl := Option.some.inj hr
      exact RetQ.w good (.inr rfl) rfl rfl (Wv.refl _) (by simp [pureA, pureL, pureR, inA, inL, inR, inO, idsIn, encs_pure, enxs_pure, enys_pure, valC_pure, exC_pure, tyC_pure, r_int_u8_pure])

def s_f143 (n : Nat) (a0 : List Int) (a1 : Int) : Option (ByteArray × Int × Int) :=
  ((s_f78 n a0).bind fun q1 => (bif (q1.2.2 != 0) then some (⟨#[]⟩, 0, q1.2.2) else (bif (decide (q1.1 > a1)) then some (⟨#[]⟩, 0, 4) else (bif (decide (q1.1 > (IntKind.u64.wrap ((IntKind.i64.wrap ((a0.length : Int) - q1.2.1)))))) then some (⟨#[]⟩, 0, 3) else (if 0 ≤ (IntKind.i64.wrap (q1.2.1 + (IntKind.i64.wrap (q1.1)))) ∧ (IntKind.i64.wrap (q1.2.1 + (IntKind.i64.wrap (q1.1)))).toNat ≤ a0.length then (if 0 ≤ q1.2.1 ∧ q1.2.1.toNat ≤ (IntKind.i64.wrap (q1.2.1 + (IntKind.i64.wrap (q1.1)))).toNat then some ((strOfNums ((a0.take ((IntKind.i64.wrap (q1.2.1 + (IntKind.i64.wrap (q1.1)))).toNat)).drop q1.2.1.toNat)), (IntKind.i64.wrap (q1.2.1 + (IntKind.i64.wrap (q1.1)))), 0) else none) else none)))))

theorem w_f143 (n : Nat) (a0 : List Int) (a1 : Int) (r : ByteArray × Int × Int) (hr : s_f143 n a0 a1 = some r) : ACall Try.prog 143 [.sl .ro 1 (r_int_u8 a0), .ep [.int .u64 a1]] (.tup [.str r.1, .int .i64 r.2.1, .int .i64 r.2.2]) := by
  refine ACall.go [(0, .sl .ro 1 (r_int_u8 a0)), (1, .ep [.int .u64 a1])] Try.func143 rfl Try.ntmps143 rfl rfl (by simp [pureA, pureL, pureR, inA, inL, inR, inO, idsIn, encs_pure, enxs_pure, enys_pure, valC_pure, exC_pure, tyC_pure, r_int_u8_pure]) ?_
  rw [s_f143] at hr
  refine AW.seq ?_
  refine AW.region (M := fun _ => true) ?_
  refine AL.v good (d := 3) (v := .str ⟨#[]⟩) rfl rfl rfl rfl ?_
  refine AL.v good (d := 4) (v := .int .i64 0) rfl rfl rfl rfl ?_
  refine AL.v good (d := 5) (v := .int .i64 0) rfl rfl rfl rfl ?_
  refine AW.seq ?_
  refine AW.region (M := fun _ => true) ?_
  refine AL.v good (d := 10) (v := .sl .ro 1 (r_int_u8 a0)) rfl rfl rfl rfl ?_
  obtain ⟨q1, h2, hr⟩ := bnd1 hr
  refine AL.cw good (d := 11) (xs := [.sl .ro 1 (r_int_u8 a0)]) (res := .tup [.int .u64 q1.1, .int .i64 q1.2.1, .int .i64 q1.2.2]) rfl rfl rfl rfl rfl rfl rfl (w_f78 _ _ _ h2) ⟨(Wv.refl _), trivial⟩ (by simp [pureA, pureL, pureR, inA, inL, inR, inO, idsIn, encs_pure, enxs_pure, enys_pure, valC_pure, exC_pure, tyC_pure, r_int_u8_pure]) ?_
  refine AL.v good (d := 9) (v := .tup [.int .u64 q1.1, .int .i64 q1.2.1, .int .i64 q1.2.2]) rfl rfl rfl rfl ?_
  refine AL.v good (d := 12) (v := .int .u64 q1.1) rfl rfl rfl rfl ?_
  refine AL.v good (d := 13) (v := .int .i64 q1.2.1) rfl rfl rfl rfl ?_
  refine AL.v good (d := 14) (v := .int .i64 q1.2.2) rfl rfl rfl rfl ?_
  refine AL.v good (d := 6) (v := .int .u64 q1.1) rfl rfl rfl rfl ?_
  refine AL.v good (d := 7) (v := .int .i64 q1.2.1) rfl rfl rfl rfl ?_
  refine AL.v good (d := 8) (v := .int .i64 q1.2.2) rfl rfl rfl rfl ?_
  refine AW.seq ?_
  refine AW.block ?_
  refine AW.seq ?_
  refine AW.region (M := fun _ => true) ?_
  refine AL.v good (d := 16) (v := .int .i64 q1.2.2) rfl rfl rfl rfl ?_
  refine AL.v good (d := 17) (v := .bool (q1.2.2 != 0)) rfl rfl rfl rfl ?_
  refine AL.v good (d := 15) (v := .bool (q1.2.2 != 0)) rfl rfl rfl rfl ?_
  refine AW.if rfl (fun h3 => ?_) (fun h3 => ?_)
  · replace hr := cnd_t h3 hr
    refine AW.seq ?_
    refine AW.region (M := fun _ => true) ?_
    refine AL.v good (d := 18) (v := .int .i64 q1.2.2) rfl rfl rfl rfl ?_
    refine AL.v good (d := 3) (v := .str ⟨#[]⟩) rfl rfl rfl rfl ?_
    refine AL.v good (d := 4) (v := .int .i64 0) rfl rfl rfl rfl ?_
    refine AL.v good (d := 5) (v := .int .i64 q1.2.2) rfl rfl rfl rfl ?_
    refine AW.ret ?_
    obtain rfl := Option.some.inj hr
    exact RetQ.w good (.inr rfl) rfl rfl (Wv.refl _) (by simp [pureA, pureL, pureR, inA, inL, inR, inO, idsIn, encs_pure, enxs_pure, enys_pure, valC_pure, exC_pure, tyC_pure, r_int_u8_pure])
  · replace hr := cnd_f h3 hr
    refine AW.seq ?_
    refine AW.region (M := fun _ => true) ?_
    refine AL.v good (d := 20) (v := .int .u64 q1.1) rfl rfl rfl rfl ?_
    refine AL.v good (d := 21) (v := .int .u64 a1) rfl rfl rfl rfl ?_
    refine AL.v good (d := 22) (v := .bool (decide (q1.1 > a1))) rfl rfl rfl rfl ?_
    refine AL.v good (d := 19) (v := .bool (decide (q1.1 > a1))) rfl rfl rfl rfl ?_
    refine AW.if rfl (fun h4 => ?_) (fun h4 => ?_)
    · replace hr := cnd_t h4 hr
      refine AW.seq ?_
      refine AW.region (M := fun _ => true) ?_
      refine AL.v good (d := 3) (v := .str ⟨#[]⟩) rfl rfl rfl rfl ?_
      refine AL.v good (d := 4) (v := .int .i64 0) rfl rfl rfl rfl ?_
      refine AL.v good (d := 5) (v := .int .i64 4) rfl rfl rfl rfl ?_
      refine AW.ret ?_
      obtain rfl := Option.some.inj hr
      exact RetQ.w good (.inr rfl) rfl rfl (Wv.refl _) (by simp [pureA, pureL, pureR, inA, inL, inR, inO, idsIn, encs_pure, enxs_pure, enys_pure, valC_pure, exC_pure, tyC_pure, r_int_u8_pure])
    · replace hr := cnd_f h4 hr
      refine AW.seq ?_
      refine AW.region (M := fun _ => true) ?_
      refine AL.v good (d := 24) (v := .int .u64 q1.1) rfl rfl rfl rfl ?_
      refine AL.v good (d := 25) (v := .sl .ro 1 (r_int_u8 a0)) rfl rfl rfl rfl ?_
      refine AL.ln good (d := 26) (m := a0.length) rfl rfl rfl rfl rfl rfl (r_int_u8_length _) ?_
      refine AL.v good (d := 27) (v := .int .i64 q1.2.1) rfl rfl rfl rfl ?_
      refine AL.v good (d := 28) (v := .int .i64 (IntKind.i64.wrap ((a0.length : Int) - q1.2.1))) rfl rfl rfl rfl ?_
      refine AL.v good (d := 29) (v := .int .u64 (IntKind.u64.wrap ((IntKind.i64.wrap ((a0.length : Int) - q1.2.1))))) rfl rfl rfl rfl ?_
      refine AL.v good (d := 30) (v := .bool (decide (q1.1 > (IntKind.u64.wrap ((IntKind.i64.wrap ((a0.length : Int) - q1.2.1))))))) rfl rfl rfl rfl ?_
      refine AL.v good (d := 23) (v := .bool (decide (q1.1 > (IntKind.u64.wrap ((IntKind.i64.wrap ((a0.length : Int) - q1.2.1))))))) rfl rfl rfl rfl ?_
      refine AW.if rfl (fun h5 => ?_) (fun h5 => ?_)
      · replace hr := cnd_t h5 hr
        refine AW.seq ?_
        refine AW.region (M := fun _ => true) ?_
        refine AL.v good (d := 3) (v := .str ⟨#[]⟩) rfl rfl rfl rfl ?_
        refine AL.v good (d := 4) (v := .int .i64 0) rfl rfl rfl rfl ?_
        refine AL.v good (d := 5) (v := .int .i64 3) rfl rfl rfl rfl ?_
        refine AW.ret ?_
        obtain rfl := Option.some.inj hr
        exact RetQ.w good (.inr rfl) rfl rfl (Wv.refl _) (by simp [pureA, pureL, pureR, inA, inL, inR, inO, idsIn, encs_pure, enxs_pure, enys_pure, valC_pure, exC_pure, tyC_pure, r_int_u8_pure])
      · replace hr := cnd_f h5 hr
        refine AW.skip ?_
        refine AW.seq ?_
        refine AW.region (M := fun _ => true) ?_
        refine AL.v good (d := 31) (v := .sl .ro 1 (r_int_u8 a0)) rfl rfl rfl rfl ?_
        refine AL.v good (d := 32) (v := .int .i64 q1.2.1) rfl rfl rfl rfl ?_
        refine AL.v good (d := 33) (v := .int .i64 q1.2.1) rfl rfl rfl rfl ?_
        refine AL.v good (d := 34) (v := .int .u64 q1.1) rfl rfl rfl rfl ?_
        refine AL.v good (d := 35) (v := .int .i64 (IntKind.i64.wrap (q1.1))) rfl rfl rfl rfl ?_
        refine AL.v good (d := 36) (v := .int .i64 (IntKind.i64.wrap (q1.2.1 + (IntKind.i64.wrap (q1.1))))) rfl rfl rfl rfl ?_
        obtain ⟨h6, hr⟩ := grd hr
        obtain ⟨h7, hr⟩ := grd hr
        refine AL.sc good (d := 37) (rows := r_int_u8 a0) (rows2 := r_int_u8 ((a0.take ((IntKind.i64.wrap (q1.2.1 + (IntKind.i64.wrap (q1.1)))).toNat)).drop q1.2.1.toNat)) (m := a0.length) (l := q1.2.1.toNat) (h := (IntKind.i64.wrap (q1.2.1 + (IntKind.i64.wrap (q1.1)))).toNat) rfl rfl rfl rfl rfl rfl rfl (r_int_u8_length _) (bndS rfl h6.1 h6.2) (bndS rfl h7.1 h7.2) (by exact rowF_td _ _ _ _) ?_
        refine AL.tos good (d := 38) (l := ((a0.take ((IntKind.i64.wrap (q1.2.1 + (IntKind.i64.wrap (q1.1)))).toNat)).drop q1.2.1.toNat)) rfl rfl rfl rfl rfl rfl rfl rfl (bytesA_rw _) ?_
        refine AL.v good (d := 39) (v := .int .i64 q1.2.1) rfl rfl rfl rfl ?_
        refine AL.v good (d := 40) (v := .int .u64 q1.1) rfl rfl rfl rfl ?_
        refine AL.v good (d := 41) (v := .int .i64 (IntKind.i64.wrap (q1.1))) rfl rfl rfl rfl ?_
        refine AL.v good (d := 42) (v := .int .i64 (IntKind.i64.wrap (q1.2.1 + (IntKind.i64.wrap (q1.1))))) rfl rfl rfl rfl ?_
        refine AL.v good (d := 3) (v := .str (strOfNums ((a0.take ((IntKind.i64.wrap (q1.2.1 + (IntKind.i64.wrap (q1.1)))).toNat)).drop q1.2.1.toNat))) rfl rfl rfl rfl ?_
        refine AL.v good (d := 4) (v := .int .i64 (IntKind.i64.wrap (q1.2.1 + (IntKind.i64.wrap (q1.1))))) rfl rfl rfl rfl ?_
        refine AL.v good (d := 5) (v := .int .i64 0) rfl rfl rfl rfl ?_
        refine AW.ret ?_
        obtain rfl := Option.some.inj hr
        exact RetQ.w good (.inr rfl) rfl rfl (Wv.refl _) (by simp [pureA, pureL, pureR, inA, inL, inR, inO, idsIn, encs_pure, enxs_pure, enys_pure, valC_pure, exC_pure, tyC_pure, r_int_u8_pure])

def s_f79 (n : Nat) (a0 : List Int) : Option (ByteArray × Int × Int) :=
  ((s_f143 n a0 65535).bind fun q1 => some (q1.1, q1.2.1, q1.2.2))

theorem w_f79 (n : Nat) (a0 : List Int) (r : ByteArray × Int × Int) (hr : s_f79 n a0 = some r) : ACall Try.prog 79 [.sl .ro 1 (r_int_u8 a0)] (.tup [.str r.1, .int .i64 r.2.1, .int .i64 r.2.2]) := by
  refine ACall.go [(0, .sl .ro 1 (r_int_u8 a0))] Try.func79 rfl Try.ntmps79 rfl rfl (by simp [pureA, pureL, pureR, inA, inL, inR, inO, idsIn, encs_pure, enxs_pure, enys_pure, valC_pure, exC_pure, tyC_pure, r_int_u8_pure]) ?_
  rw [s_f79] at hr
  refine AW.seq ?_
  refine AW.region (M := fun _ => true) ?_
  refine AL.v good (d := 2) (v := .str ⟨#[]⟩) rfl rfl rfl rfl ?_
  refine AL.v good (d := 3) (v := .int .i64 0) rfl rfl rfl rfl ?_
  refine AL.v good (d := 4) (v := .int .i64 0) rfl rfl rfl rfl ?_
  refine AW.seq ?_
  refine AW.region (M := fun _ => true) ?_
  refine AL.cw good (d := 5) (xs := [.int .u64 65535]) (res := .func 143 [] [.ep [.int .u64 65535]]) rfl rfl rfl rfl rfl rfl rfl (w_f113 65535) ⟨(Wv.refl _), trivial⟩ (by simp [pureA, pureL, pureR, inA, inL, inR, inO, idsIn, encs_pure, enxs_pure, enys_pure, valC_pure, exC_pure, tyC_pure, r_int_u8_pure]) ?_
  refine AL.v good (d := 6) (v := .sl .ro 1 (r_int_u8 a0)) rfl rfl rfl rfl ?_
  obtain ⟨q1, h2, hr⟩ := bnd1 hr
  refine AL.cw good (d := 7) (xs := [.sl .ro 1 (r_int_u8 a0), .ep [.int .u64 65535]]) (res := .tup [.str q1.1, .int .i64 q1.2.1, .int .i64 q1.2.2]) rfl rfl rfl rfl rfl rfl rfl (w_f143 _ _ _ _ h2) ⟨(Wv.refl _), (Wv.refl _), trivial⟩ (by simp [pureA, pureL, pureR, inA, inL, inR, inO, idsIn, encs_pure, enxs_pure, enys_pure, valC_pure, exC_pure, tyC_pure, r_int_u8_pure]) ?_
  refine AL.v good (d := 8) (v := .str q1.1) rfl rfl rfl rfl ?_
  refine AL.v good (d := 9) (v := .int .i64 q1.2.1) rfl rfl rfl rfl ?_
  refine AL.v good (d := 10) (v := .int .i64 q1.2.2) rfl rfl rfl rfl ?_
  refine AL.v good (d := 2) (v := .str q1.1) rfl rfl rfl rfl ?_
  refine AL.v good (d := 3) (v := .int .i64 q1.2.1) rfl rfl rfl rfl ?_
  refine AL.v good (d := 4) (v := .int .i64 q1.2.2) rfl rfl rfl rfl ?_
  refine AW.ret ?_
  obtain rfl := Option.some.inj hr
  exact RetQ.w good (.inr rfl) rfl rfl (Wv.refl _) (by simp [pureA, pureL, pureR, inA, inL, inR, inO, idsIn, encs_pure, enxs_pure, enys_pure, valC_pure, exC_pure, tyC_pure, r_int_u8_pure])

def s_f145 (n : Nat) (a0 : List Int) : Option (Int × Int × Int) :=
  (bif ((a0.length : Int) == 0) then some (0, 0, 3) else ((a0[0]?).bind fun x2 => some (x2, 1, 0)))

theorem w_f145 (n : Nat) (a0 : List Int) (r : Int × Int × Int) (hr : s_f145 n a0 = some r) : ACall Try.prog 145 [.sl .ro 1 (r_int_u8 a0)] (.tup [.int .u8 r.1, .int .i64 r.2.1, .int .i64 r.2.2]) := by
  refine ACall.go [(0, .sl .ro 1 (r_int_u8 a0))] Try.func145 rfl Try.ntmps145 rfl rfl (by simp [pureA, pureL, pureR, inA, inL, inR, inO, idsIn, encs_pure, enxs_pure, enys_pure, valC_pure, exC_pure, tyC_pure, r_int_u8_pure]) ?_
  rw [s_f145] at hr
  refine AW.seq ?_
  refine AW.region (M := fun _ => true) ?_
  refine AL.v good (d := 2) (v := .int .u8 0) rfl rfl rfl rfl ?_
  refine AL.v good (d := 3) (v := .int .i64 0) rfl rfl rfl rfl ?_
  refine AL.v good (d := 4) (v := .int .i64 0) rfl rfl rfl rfl ?_
  refine AW.seq ?_
  refine AW.seq ?_
  refine AW.region (M := fun _ => true) ?_
  refine AL.v good (d := 5) (v := .sl .ro 1 (r_int_u8 a0)) rfl rfl rfl rfl ?_
  refine AL.ln good (d := 6) (m := a0.length) rfl rfl rfl rfl rfl rfl (r_int_u8_length _) ?_
  refine AL.v good (d := 7) (v := .bool ((a0.length : Int) == 0)) rfl rfl rfl rfl ?_
  refine AW.if rfl (fun h1 => ?_) (fun h1 => ?_)
  · replace hr := cnd_t h1 hr
    refine AW.seq ?_
    refine AW.region (M := fun _ => true) ?_
    refine AL.v good (d := 2) (v := .int .u8 0) rfl rfl rfl rfl ?_
    refine AL.v good (d := 3) (v := .int .i64 0) rfl rfl rfl rfl ?_
    refine AL.v good (d := 4) (v := .int .i64 3) rfl rfl rfl rfl ?_
    refine AW.ret ?_
    obtain rfl := Option.some.inj hr
    exact RetQ.w good (.inr rfl) rfl rfl (Wv.refl _) (by simp [pureA, pureL, pureR, inA, inL, inR, inO, idsIn, encs_pure, enxs_pure, enys_pure, valC_pure, exC_pure, tyC_pure, r_int_u8_pure])
  · replace hr := cnd_f h1 hr
    refine AW.skip ?_
    refine AW.seq ?_
    refine AW.region (M := fun _ => true) ?_
    refine AL.v good (d := 8) (v := .sl .ro 1 (r_int_u8 a0)) rfl rfl rfl rfl ?_
    obtain ⟨x2, h3, hr⟩ := bnd1 hr
    refine AL.ix good (d := 9) (r := [.int .u8 x2]) rfl rfl rfl rfl rfl rfl rfl (by decide) (r_int_u8_get h3) ?_
    refine AL.v good (d := 10) (v := .int .u8 x2) rfl rfl rfl rfl ?_
    refine AL.v good (d := 2) (v := .int .u8 x2) rfl rfl rfl rfl ?_
    refine AL.v good (d := 3) (v := .int .i64 1) rfl rfl rfl rfl ?_
    refine AL.v good (d := 4) (v := .int .i64 0) rfl rfl rfl rfl ?_
    refine AW.ret ?_
    obtain rfl := Option.some.inj hr
    exact RetQ.w good (.inr rfl) rfl rfl (Wv.refl _) (by simp [pureA, pureL, pureR, inA, inL, inR, inO, idsIn, encs_pure, enxs_pure, enys_pure, valC_pure, exC_pure, tyC_pure, r_int_u8_pure])

def s_f118 (n : Nat) (a0 : Int) (a1 : Int) : Option Int :=
  (bif (a0 == 0) then some 1 else (bif (decide (a0 > 8)) then some 10 else (bif (decide (a1 > 4)) then some 9 else some 0)))

theorem w_f118 (n : Nat) (a0 : Int) (a1 : Int) (r : Int) (hr : s_f118 n a0 a1 = some r) : ACall Try.prog 118 [.int .i64 a0, .int .i64 a1] (.int .i64 r) := by
  refine ACall.go [(0, .int .i64 a0), (1, .int .i64 a1)] Try.func118 rfl Try.ntmps118 rfl rfl (by simp [pureA, pureL, pureR, inA, inL, inR, inO, idsIn, encs_pure, enxs_pure, enys_pure, valC_pure, exC_pure, tyC_pure, r_int_u8_pure]) ?_
  rw [s_f118] at hr
  refine AW.seq ?_
  refine AW.region (M := fun _ => true) ?_
  refine AL.v good (d := 4) (v := .int .i64 0) rfl rfl rfl rfl ?_
  refine AW.seq ?_
  refine AW.block ?_
  refine AW.seq ?_
  refine AW.region (M := fun _ => true) ?_
  refine AL.v good (d := 6) (v := .int .i64 a0) rfl rfl rfl rfl ?_
  refine AL.v good (d := 7) (v := .bool (a0 == 0)) rfl rfl rfl rfl ?_
  refine AL.v good (d := 5) (v := .bool (a0 == 0)) rfl rfl rfl rfl ?_
  refine AW.if rfl (fun h1 => ?_) (fun h1 => ?_)
  · replace hr := cnd_t h1 hr
    refine AW.seq ?_
    refine AW.region (M := fun _ => true) ?_
    refine AL.v good (d := 4) (v := .int .i64 1) rfl rfl rfl rfl ?_
    refine AW.ret ?_
    obtain rfl := Option.some.inj hr
    exact RetQ.w good (.inr rfl) rfl rfl (Wv.refl _) (by simp [pureA, pureL, pureR, inA, inL, inR, inO, idsIn, encs_pure, enxs_pure, enys_pure, valC_pure, exC_pure, tyC_pure, r_int_u8_pure])
  · replace hr := cnd_f h1 hr
    refine AW.seq ?_
    refine AW.region (M := fun _ => true) ?_
    refine AL.v good (d := 9) (v := .int .i64 a0) rfl rfl rfl rfl ?_
    refine AL.v good (d := 10) (v := .bool (decide (a0 > 8))) rfl rfl rfl rfl ?_
    refine AL.v good (d := 8) (v := .bool (decide (a0 > 8))) rfl rfl rfl rfl ?_
    refine AW.if rfl (fun h2 => ?_) (fun h2 => ?_)
    · replace hr := cnd_t h2 hr
      refine AW.seq ?_
      refine AW.region (M := fun _ => true) ?_
      refine AL.v good (d := 4) (v := .int .i64 10) rfl rfl rfl rfl ?_
      refine AW.ret ?_
      obtain rfl := Option.some.inj hr
      exact RetQ.w good (.inr rfl) rfl rfl (Wv.refl _) (by simp [pureA, pureL, pureR, inA, inL, inR, inO, idsIn, encs_pure, enxs_pure, enys_pure, valC_pure, exC_pure, tyC_pure, r_int_u8_pure])
    · replace hr := cnd_f h2 hr
      refine AW.seq ?_
      refine AW.region (M := fun _ => true) ?_
      refine AL.v good (d := 12) (v := .int .i64 a1) rfl rfl rfl rfl ?_
      refine AL.v good (d := 13) (v := .bool (decide (a1 > 4))) rfl rfl rfl rfl ?_
      refine AL.v good (d := 11) (v := .bool (decide (a1 > 4))) rfl rfl rfl rfl ?_
      refine AW.if rfl (fun h3 => ?_) (fun h3 => ?_)
      · replace hr := cnd_t h3 hr
        refine AW.seq ?_
        refine AW.region (M := fun _ => true) ?_
        refine AL.v good (d := 4) (v := .int .i64 9) rfl rfl rfl rfl ?_
        refine AW.ret ?_
        obtain rfl := Option.some.inj hr
        exact RetQ.w good (.inr rfl) rfl rfl (Wv.refl _) (by simp [pureA, pureL, pureR, inA, inL, inR, inO, idsIn, encs_pure, enxs_pure, enys_pure, valC_pure, exC_pure, tyC_pure, r_int_u8_pure])
      · replace hr := cnd_f h3 hr
        refine AW.skip ?_
        refine AW.seq ?_
        refine AW.region (M := fun _ => true) ?_
        refine AL.v good (d := 4) (v := .int .i64 0) rfl rfl rfl rfl ?_
        refine AW.ret ?_
        obtain rfl := Option.some.inj hr
        exact RetQ.w good (.inr rfl) rfl rfl (Wv.refl _) (by simp [pureA, pureL, pureR, inA, inL, inR, inO, idsIn, encs_pure, enxs_pure, enys_pure, valC_pure, exC_pure, tyC_pure, r_int_u8_pure])

end Go.Proofs.Ytbcjcekoonebiaa.Tl
