/- Definitions and walks: programs of expressions. Definitions and walks: programs of operators. What a definition with fuel comes to, once there is enough of it. A machine, as plain functions: what an instruction does, what a program lets out. Programs one behind the other; what is known of machines. What is known of machines. Values of the document, as plain functions: what may be, what is few, what is of a type. Values of the document compared, as plain functions. Types and expressions of the document, as plain functions. The document comes to the same: comparing, making, coming to values. The document's expressions come to what the program's do, of the type that is told. Definitions and walks: EvalAny. EvalAny, as a plain law. Programs of expressions, as plain functions; where they stand in others. Programs of operators, as plain functions. Definitions and walks: EvalNums, EvalTexts. The plain laws EvalNums and EvalTexts. What a machine does with an expression's program is what the expression comes to. Conditions: none. -/
import Derived.Test.YtbcjcekoonebiaaTlZVmFused3
set_option linter.unusedVariables false
set_option linter.unusedSimpArgs false
namespace Go.Proofs.Ytbcjcekoonebiaa.Tl
open Go Go.RowKit
theorem w_f86 (a0 : ByteArray) (a1 : Int) : ACall Try.prog 86 [.str a0, .int .i64 a1] (.agg [.str a0, .int .i64 0, .int .i64 0, .bool false, .str ⟨#[]⟩, .sl .ro 5 (encs []), .int .i64 a1]) := by
  refine ACall.go [(0, .str a0), (1, .int .i64 a1)] Try.func86 rfl Try.ntmps86 rfl rfl (by simp [pureA, pureL, pureR, inA, inL, inR, inO, idsIn, encs_pure, enxs_pure, enys_pure, valC_pure, exC_pure, tyC_pure, r_int_u8_pure, r_st_GInst_pure, r_sl_st_GInst_pure, r_st_GMiss_pure]) ?_
  refine AW.seq ?_
  refine AW.region (M := fun _ => true) ?_
  refine AL.alc good (d := 4) rfl rfl rfl rfl rfl 0 rfl ?_
  refine AW.seq ?_
  refine AW.region (M := fun _ => true) ?_
  refine AL.v good (d := 5) (v := .str a0) rfl rfl rfl rfl ?_
  refine AL.v good (d := 6) (v := .int .i64 a1) rfl rfl rfl rfl ?_
  refine AL.bld good (d := 7) (l := [.str a0, .int .i64 0, .int .i64 0, .bool false, .str ⟨#[]⟩, .sl .nil 0 [], .int .i64 a1]) rfl rfl rfl rfl rfl rfl rfl ?_
  refine AL.st2 good (c2 := [.str a0, .int .i64 0, .int .i64 0, .bool false, .str ⟨#[]⟩, .sl .nil 0 [], .int .i64 a1]) rfl rfl rfl rfl rfl rfl rfl rfl rfl rfl rfl rfl ?_
  refine AW.ret ?_
  exact RetQ.w good (.inr rfl) rfl rfl ⟨Wv.refl _, Wv.refl _, Wv.refl _, Wv.refl _, Wv.refl _, ⟨.inr rfl, trivial, .inr rfl⟩, Wv.refl _, trivial⟩ (by simp [pureA, pureL, pureR, inA, inL, inR, inO, idsIn, encs_pure, enxs_pure, enys_pure, valC_pure, exC_pure, tyC_pure, r_int_u8_pure, r_st_GInst_pure, r_sl_st_GInst_pure, r_st_GMiss_pure])


theorem w_f88 (a0 : Bool) : ACall Try.prog 88 [.bool a0] (.agg [.str ⟨#[112, 117, 115, 104]⟩, .int .i64 2, .int .i64 0, .bool a0, .str ⟨#[]⟩, .sl .ro 5 (encs []), .int .i64 0]) := by
  refine ACall.go [(0, .bool a0)] Try.func88 rfl Try.ntmps88 rfl rfl (by simp [pureA, pureL, pureR, inA, inL, inR, inO, idsIn, encs_pure, enxs_pure, enys_pure, valC_pure, exC_pure, tyC_pure, r_int_u8_pure, r_st_GInst_pure, r_sl_st_GInst_pure, r_st_GMiss_pure]) ?_
  refine AW.seq ?_
  refine AW.region (M := fun _ => true) ?_
  refine AL.alc good (d := 2) rfl rfl rfl rfl rfl 0 rfl ?_
  refine AW.seq ?_
  refine AW.region (M := fun _ => true) ?_
  refine AL.v good (d := 3) (v := .bool a0) rfl rfl rfl rfl ?_
  refine AL.cw good (d := 4) (xs := [.bool a0]) (res := .agg [.int .i64 2, .int .i64 0, .bool a0, .str ⟨#[]⟩, .sl .ro 5 (encs [])]) rfl rfl rfl rfl rfl rfl rfl (w_f99 a0) ⟨(Wv.refl _), trivial⟩ (by simp [pureA, pureL, pureR, inA, inL, inR, inO, idsIn, encs_pure, enxs_pure, enys_pure, valC_pure, exC_pure, tyC_pure, r_int_u8_pure, r_st_GInst_pure, r_sl_st_GInst_pure, r_st_GMiss_pure]) ?_
  refine AL.bld good (d := 5) (l := [.str ⟨#[112, 117, 115, 104]⟩, .int .i64 2, .int .i64 0, .bool a0, .str ⟨#[]⟩, .sl .ro 5 (encs []), .int .i64 0]) rfl rfl rfl rfl rfl rfl rfl ?_
  refine AL.st2 good (c2 := [.str ⟨#[112, 117, 115, 104]⟩, .int .i64 2, .int .i64 0, .bool a0, .str ⟨#[]⟩, .sl .ro 5 (encs []), .int .i64 0]) rfl rfl rfl rfl rfl rfl rfl rfl rfl rfl rfl rfl ?_
  refine AW.ret ?_
  exact RetQ.w good (.inr rfl) rfl rfl (Wv.refl _) (by simp [pureA, pureL, pureR, inA, inL, inR, inO, idsIn, encs_pure, enxs_pure, enys_pure, valC_pure, exC_pure, tyC_pure, r_int_u8_pure, r_st_GInst_pure, r_sl_st_GInst_pure, r_st_GMiss_pure])

mutual
def s_f85 : Nat → Val → Option Val
  | 0, _ => none
  | n + 1, a0 => (s_f85_l1 n a0 0 [])
def s_f85_l1 : Nat → Val → Nat → (List Val) → Option Val
  | 0, _, _, _ => none
  | n + 1, a0, v1_1, v1_2 => (bif (decide ((v1_1 : Int) < (a0.t.length : Int))) then ((a0.t[v1_1]?).bind fun x10 => ((s_f85 n x10).bind fun q12 => (if v1_2.length + 1 ≤ 1000000 then (s_f85_l1 n a0 (v1_1 + 1) (v1_2 ++ [q12])) else none))) else some (Val.mk a0.kind a0.i a0.b a0.s v1_2))
end

theorem w_f85_a (n : Nat) (ih : ∀ (m : Nat) (a0 : Val) (r : Val), s_f85 m a0 = some r → m < n → ACall Try.prog 85 [.agg (valC a0)] (.agg (valC r))) (a0 : Val) (r : Val) (hr : s_f85 n a0 = some r) : ACall Try.prog 85 [.agg (valC a0)] (.agg (valC r)) := by
  refine ACall.go [(0, .agg (valC a0))] Try.func85 rfl Try.ntmps85 rfl rfl (by simp [pureA, pureL, pureR, inA, inL, inR, inO, idsIn, encs_pure, enxs_pure, enys_pure, valC_pure, exC_pure, tyC_pure, r_int_u8_pure, r_st_GInst_pure, r_sl_st_GInst_pure, r_st_GMiss_pure]) ?_
  cases n with
  | zero => rw [s_f85] at hr; cases hr
  | succ n =>
    rw [s_f85] at hr
    refine AW.seq ?_
    refine AW.region (M := fun _ => true) ?_
    refine AL.bx good (d := 1) (l := [.int .i64 a0.kind, .int .i64 a0.i, .bool a0.b, .str a0.s, .sl .ro 5 (encs a0.t)]) rfl rfl rfl rfl rfl rfl 0 rfl ?_
    refine AL.alc good (d := 2) rfl rfl rfl rfl rfl 1 rfl ?_
    refine AW.seq ?_
    refine AW.region (M := fun _ => true) ?_
    refine AL.v good (d := 5) (v := .ptr 0 0) rfl rfl rfl rfl ?_
    refine AL.v good (d := 6) (v := .int .i64 a0.kind) rfl rfl rfl rfl ?_
    refine AL.v good (d := 7) (v := .ptr 0 1) rfl rfl rfl rfl ?_
    refine AL.v good (d := 8) (v := .int .i64 a0.i) rfl rfl rfl rfl ?_
    refine AL.v good (d := 9) (v := .ptr 0 2) rfl rfl rfl rfl ?_
    refine AL.v good (d := 10) (v := .bool a0.b) rfl rfl rfl rfl ?_
    refine AL.v good (d := 11) (v := .ptr 0 3) rfl rfl rfl rfl ?_
    refine AL.v good (d := 12) (v := .str a0.s) rfl rfl rfl rfl ?_
    refine AL.bld good (d := 13) (l := [.int .i64 a0.kind, .int .i64 a0.i, .bool a0.b, .str a0.s, .sl .nil 0 []]) rfl rfl rfl rfl rfl rfl rfl ?_
    refine AL.alc good (d := 3) rfl rfl rfl rfl rfl 2 rfl ?_
    refine AL.st2 good (c2 := [.int .i64 a0.kind, .int .i64 a0.i, .bool a0.b, .str a0.s, .sl .nil 0 []]) rfl rfl rfl rfl rfl rfl rfl rfl rfl rfl rfl rfl ?_
    refine AW.seq ?_
    refine AW.seq ?_
    refine AW.region (M := fun _ => true) ?_
    refine AL.v good (d := 4) (v := .int .i64 0) rfl rfl rfl rfl ?_
    refine AW.block ?_
    refine AW.adoptB 2 rfl 4 rfl 3 5 24 rfl rfl ?_
    refine AW.lensB 0 rfl (fun hl8 => ?_)
    replace hl8 : a0.t.length ≤ 9223372036854775807 := by rw [← encs_length a0.t]; exact hl8.2.2.2.2.1
    refine AW.lpw (fun x : Nat × Nat × (List Val) => [(1, .ptr 0 0), (2, .ptr 1 0), (3, .ptr 2 0), (4, .int .i64 (x.2.1 : Int))]) (fun x => [(0, .box 33 [.int .i64 a0.kind, .int .i64 a0.i, .bool a0.b, .str a0.s, .sl .ro 5 (encs a0.t)]), (1, .box 24 [.int .i64 0, .int .i64 0, .bool false, .str ⟨#[]⟩, .sl .nil 0 []]), (2, .box 24 [.int .i64 a0.kind, .int .i64 a0.i, .bool a0.b, .str a0.s, .sl (.own 3) 5 (encs x.2.2)]), (3, .row 24 5 (encs x.2.2).length)]) (fun x => s_f85_l1 x.1 a0 x.2.1 x.2.2 = some r ∧ x.1 ≤ n) (fun x => x.1) (n, 0, []) ⟨(fun _ h => by cases h), List.forall_mem_cons.2 ⟨⟨⟨_, rfl, Wv.refl _⟩, (by simp [pureA, pureL, pureR, inA, inL, inR, inO, idsIn, encs_pure, enxs_pure, enys_pure, valC_pure, exC_pure, tyC_pure, r_int_u8_pure, r_st_GInst_pure, r_sl_st_GInst_pure, r_st_GMiss_pure])⟩, List.forall_mem_cons.2 ⟨⟨⟨_, rfl, Wv.refl _⟩, (by simp [pureA, pureL, pureR, inA, inL, inR, inO, idsIn, encs_pure, enxs_pure, enys_pure, valC_pure, exC_pure, tyC_pure, r_int_u8_pure, r_st_GInst_pure, r_sl_st_GInst_pure, r_st_GMiss_pure])⟩, List.forall_mem_cons.2 ⟨⟨⟨_, rfl, Wv.refl _⟩, (by simp [pureA, pureL, pureR, inA, inL, inR, inO, idsIn, encs_pure, enxs_pure, enys_pure, valC_pure, exC_pure, tyC_pure, r_int_u8_pure, r_st_GInst_pure, r_sl_st_GInst_pure, r_st_GMiss_pure])⟩, List.forall_mem_cons.2 ⟨⟨⟨_, rfl, Wv.refl _⟩, (by simp [pureA, pureL, pureR, inA, inL, inR, inO, idsIn, encs_pure, enxs_pure, enys_pure, valC_pure, exC_pure, tyC_pure, r_int_u8_pure, r_st_GInst_pure, r_sl_st_GInst_pure, r_st_GMiss_pure])⟩, (fun _ h => by cases h)⟩⟩⟩⟩, List.forall_mem_cons.2 ⟨⟨⟨_, rfl, ⟨rfl, ⟨Wv.refl _, Wv.refl _, Wv.refl _, Wv.refl _, Wv.refl _, trivial⟩⟩⟩, (by simp [pureA, pureL, pureR, inA, inL, inR, inO, idsIn, encs_pure, enxs_pure, enys_pure, valC_pure, exC_pure, tyC_pure, r_int_u8_pure, r_st_GInst_pure, r_sl_st_GInst_pure, r_st_GMiss_pure])⟩, List.forall_mem_cons.2 ⟨⟨⟨_, rfl, ⟨rfl, ⟨Wv.refl _, Wv.refl _, Wv.refl _, Wv.refl _, Wv.refl _, trivial⟩⟩⟩, (by simp [pureA, pureL, pureR, inA, inL, inR, inO, idsIn, encs_pure, enxs_pure, enys_pure, valC_pure, exC_pure, tyC_pure, r_int_u8_pure, r_st_GInst_pure, r_sl_st_GInst_pure, r_st_GMiss_pure])⟩, List.forall_mem_cons.2 ⟨⟨⟨_, rfl, ⟨rfl, ⟨Wv.refl _, Wv.refl _, Wv.refl _, Wv.refl _, Wv.refl _, trivial⟩⟩⟩, (by simp [pureA, pureL, pureR, inA, inL, inR, inO, idsIn, encs_pure, enxs_pure, enys_pure, valC_pure, exC_pure, tyC_pure, r_int_u8_pure, r_st_GInst_pure, r_sl_st_GInst_pure, r_st_GMiss_pure])⟩, List.forall_mem_cons.2 ⟨⟨⟨_, rfl, ⟨rfl, rfl, rfl⟩⟩, (by simp [pureA, pureL, pureR, inA, inL, inR, inO, idsIn, encs_pure, enxs_pure, enys_pure, valC_pure, exC_pure, tyC_pure, r_int_u8_pure, r_st_GInst_pure, r_sl_st_GInst_pure, r_st_GMiss_pure])⟩, (fun _ h => by cases h)⟩⟩⟩⟩⟩ ⟨hr, Nat.le_refl _⟩ (fun ⟨m, v1_1, v1_2⟩ hx => ?_)
    obtain ⟨hr, hm⟩ := hx
    try dsimp only at hr hm
    cases m with
    | zero => rw [s_f85_l1] at hr; cases hr
    | succ m =>
      rw [s_f85_l1] at hr
      show AW Try.prog _ _ _ (mkS 33 [(1, .ptr 0 0), (2, .ptr 1 0), (3, .ptr 2 0), (4, .int .i64 (v1_1 : Int))] [(0, .box 33 [.int .i64 a0.kind, .int .i64 a0.i, .bool a0.b, .str a0.s, .sl .ro 5 (encs a0.t)]), (1, .box 24 [.int .i64 0, .int .i64 0, .bool false, .str ⟨#[]⟩, .sl .nil 0 []]), (2, .box 24 [.int .i64 a0.kind, .int .i64 a0.i, .bool a0.b, .str a0.s, .sl (.own 3) 5 (encs v1_2)]), (3, .row 24 5 (encs v1_2).length)])
      refine AW.seq ?_
      refine AW.seq ?_
      refine AW.region (M := fun _ => true) ?_
      refine AL.v good (d := 14) (v := .int .i64 (v1_1 : Int)) rfl rfl rfl rfl ?_
      refine AL.v good (d := 15) (v := .ptr 0 4) rfl rfl rfl rfl ?_
      refine AL.v good (d := 16) (v := .sl .ro 5 (encs a0.t)) rfl rfl rfl rfl ?_
      refine AL.ln good (d := 17) (m := a0.t.length) rfl rfl rfl rfl rfl rfl (encs_length _) ?_
      refine AL.v good (d := 18) (v := .bool (decide ((v1_1 : Int) < (a0.t.length : Int)))) rfl rfl rfl rfl ?_
      refine AW.if rfl (fun h9 => ?_) (fun h9 => ?_)
      · replace hr := cnd_t h9 hr
        refine AW.skip ?_
        refine AW.seq ?_
        refine AW.block ?_
        refine AW.drawc (M := fun i => ⟨Nat.beq i 9 || Nat.beq i 11, bif Nat.beq i 1 then some { ids := [2] } else bif Nat.beq i 3 then some { ids := [0] } else bif Nat.beq i 6 then some { ids := [] } else bif Nat.beq i 8 then some { ids := [4] } else bif Nat.beq i 9 then some { ids := [3] } else bif Nat.beq i 11 then some { ids := [2] } else none⟩) good.wide (by kernel_rfl) ?_
        refine AL.v (nc := ⟨rfl⟩) good (d := 21) (v := .ptr 2 4) rfl rfl rfl rfl ?_
        refine AL.vc good (d := 22) (v := .sl (.own 3) 5 (encs v1_2)) rfl rfl rfl rfl rfl rfl (List.forall_mem_cons.2 ⟨.head _, (fun _ h => by cases h)⟩) ?_
        refine AL.v (nc := ⟨rfl⟩) good (d := 23) (v := .ptr 0 4) rfl rfl rfl rfl ?_
        refine AL.vc good (d := 24) (v := .sl .ro 5 (encs a0.t)) rfl rfl rfl rfl rfl rfl (List.forall_mem_cons.2 ⟨.head _, (fun _ h => by cases h)⟩) ?_
        refine AL.v (nc := ⟨rfl⟩) good (d := 25) (v := .int .i64 (v1_1 : Int)) rfl rfl rfl rfl ?_
        obtain ⟨x10, h11, hr⟩ := bnd1 hr
        refine AL.ix (nc := ⟨rfl⟩) good (d := 26) (r := [.int .i64 x10.kind, .int .i64 x10.i, .bool x10.b, .str x10.s, .sl .ro 5 (encs x10.t)]) rfl rfl rfl rfl rfl rfl rfl (Int.natCast_nonneg _) (encs_get h11) ?_
        refine AL.vc good (d := 27) (v := .agg [.int .i64 x10.kind, .int .i64 x10.i, .bool x10.b, .str x10.s, .sl .ro 5 (encs x10.t)]) rfl rfl rfl rfl rfl rfl (fun _ h => by cases h) ?_
        obtain ⟨q12, h13, hr⟩ := bnd1 hr
        refine AL.cw (nc := ⟨rfl⟩) good (d := 28) (xs := [.agg (valC x10)]) (res := .agg [.int .i64 q12.kind, .int .i64 q12.i, .bool q12.b, .str q12.s, .sl .ro 5 (encs q12.t)]) rfl rfl rfl rfl rfl rfl rfl (ih _ _ _ h13 (by omega)) ⟨(Wv.refl _), trivial⟩ (by simp [pureA, pureL, pureR, inA, inL, inR, inO, idsIn, encs_pure, enxs_pure, enys_pure, valC_pure, exC_pure, tyC_pure, r_int_u8_pure, r_st_GInst_pure, r_sl_st_GInst_pure, r_st_GMiss_pure]) ?_
        refine AL.litC good (d := 29) (rows := [[.int .i64 q12.kind, .int .i64 q12.i, .bool q12.b, .str q12.s, .sl .ro 5 (encs q12.t)]]) rfl rfl rfl rfl rfl rfl rfl rfl rfl 4 rfl (ColN.mk rfl rfl (fun _ h => by cases h) (List.forall_mem_cons.2 ⟨.head _, (fun _ h => by cases h)⟩) (fun _ h => by cases h)) ?_
        obtain ⟨h14, hr⟩ := grd hr
        refine AL.aw2c good (d := 30) (rows := encs v1_2) (news := [(valC q12)]) (rows2 := encs (v1_2 ++ [q12])) rfl rfl rfl rfl rfl rfl rfl rfl rfl (by simp) rfl rfl rfl rfl ⟨⟨Wv.refl _, Wv.refl _, Wv.refl _, Wv.refl _, Wv.refl _, trivial⟩, trivial⟩ (by simp [encs_map]) (by rw [encs_length, List.length_append]; exact h14) rfl ?_
        refine AL.v (nc := ⟨rfl⟩) good (d := 31) (v := .ptr 2 4) rfl rfl rfl rfl ?_
        refine AL.st2c good (c2 := [.int .i64 a0.kind, .int .i64 a0.i, .bool a0.b, .str a0.s, .sl (.own 3) 5 (encs (v1_2 ++ [q12]))]) rfl rfl rfl rfl rfl rfl rfl rfl rfl rfl rfl rfl rfl ?_
        refine AW.region (M := fun _ => true) ?_
        refine AL.v good (d := 19) (v := .int .i64 (v1_1 : Int)) rfl rfl rfl rfl ?_
        refine AL.v good (d := 20) (v := .int .i64 (IntKind.i64.wrap ((v1_1 : Int) + 1))) rfl rfl rfl rfl ?_
        refine AL.v good (d := 4) (v := .int .i64 (IntKind.i64.wrap ((v1_1 : Int) + 1))) rfl rfl rfl rfl ?_
        exact ⟨(m, (v1_1 + 1), (v1_2 ++ [q12])), _, _, rfl, ⟨(fun _ h => by cases h), List.forall_mem_cons.2 ⟨⟨⟨_, rfl, Wv.refl _⟩, (by simp [pureA, pureL, pureR, inA, inL, inR, inO, idsIn, encs_pure, enxs_pure, enys_pure, valC_pure, exC_pure, tyC_pure, r_int_u8_pure, r_st_GInst_pure, r_sl_st_GInst_pure, r_st_GMiss_pure])⟩, List.forall_mem_cons.2 ⟨⟨⟨_, rfl, Wv.refl _⟩, (by simp [pureA, pureL, pureR, inA, inL, inR, inO, idsIn, encs_pure, enxs_pure, enys_pure, valC_pure, exC_pure, tyC_pure, r_int_u8_pure, r_st_GInst_pure, r_sl_st_GInst_pure, r_st_GMiss_pure])⟩, List.forall_mem_cons.2 ⟨⟨⟨_, rfl, Wv.refl _⟩, (by simp [pureA, pureL, pureR, inA, inL, inR, inO, idsIn, encs_pure, enxs_pure, enys_pure, valC_pure, exC_pure, tyC_pure, r_int_u8_pure, r_st_GInst_pure, r_sl_st_GInst_pure, r_st_GMiss_pure])⟩, List.forall_mem_cons.2 ⟨⟨⟨_, rfl, (wnx h9 hl8)⟩, (by simp [pureA, pureL, pureR, inA, inL, inR, inO, idsIn, encs_pure, enxs_pure, enys_pure, valC_pure, exC_pure, tyC_pure, r_int_u8_pure, r_st_GInst_pure, r_sl_st_GInst_pure, r_st_GMiss_pure])⟩, (fun _ h => by cases h)⟩⟩⟩⟩, List.forall_mem_cons.2 ⟨⟨⟨_, rfl, ⟨rfl, ⟨Wv.refl _, Wv.refl _, Wv.refl _, Wv.refl _, Wv.refl _, trivial⟩⟩⟩, (by simp [pureA, pureL, pureR, inA, inL, inR, inO, idsIn, encs_pure, enxs_pure, enys_pure, valC_pure, exC_pure, tyC_pure, r_int_u8_pure, r_st_GInst_pure, r_sl_st_GInst_pure, r_st_GMiss_pure])⟩, List.forall_mem_cons.2 ⟨⟨⟨_, rfl, ⟨rfl, ⟨Wv.refl _, Wv.refl _, Wv.refl _, Wv.refl _, Wv.refl _, trivial⟩⟩⟩, (by simp [pureA, pureL, pureR, inA, inL, inR, inO, idsIn, encs_pure, enxs_pure, enys_pure, valC_pure, exC_pure, tyC_pure, r_int_u8_pure, r_st_GInst_pure, r_sl_st_GInst_pure, r_st_GMiss_pure])⟩, List.forall_mem_cons.2 ⟨⟨⟨_, rfl, ⟨rfl, ⟨Wv.refl _, Wv.refl _, Wv.refl _, Wv.refl _, Wv.refl _, trivial⟩⟩⟩, (by simp [pureA, pureL, pureR, inA, inL, inR, inO, idsIn, encs_pure, enxs_pure, enys_pure, valC_pure, exC_pure, tyC_pure, r_int_u8_pure, r_st_GInst_pure, r_sl_st_GInst_pure, r_st_GMiss_pure])⟩, List.forall_mem_cons.2 ⟨⟨⟨_, rfl, ⟨rfl, rfl, rfl⟩⟩, (by simp [pureA, pureL, pureR, inA, inL, inR, inO, idsIn, encs_pure, enxs_pure, enys_pure, valC_pure, exC_pure, tyC_pure, r_int_u8_pure, r_st_GInst_pure, r_sl_st_GInst_pure, r_st_GMiss_pure])⟩, (fun _ h => by cases h)⟩⟩⟩⟩⟩, ⟨hr, Nat.le_of_succ_le hm⟩, Nat.lt_succ_self _⟩
      · replace hr := cnd_f h9 hr
        refine AW.exit ?_
        refine AW.seq ?_
        refine AW.region (M := fun _ => true) ?_
        refine AL.v good (d := 32) (v := .agg [.int .i64 a0.kind, .int .i64 a0.i, .bool a0.b, .str a0.s, .sl (.own 3) 5 (encs v1_2)]) rfl rfl rfl rfl ?_
        refine AL.st2 good (c2 := [.int .i64 a0.kind, .int .i64 a0.i, .bool a0.b, .str a0.s, .sl (.own 3) 5 (encs v1_2)]) rfl rfl rfl rfl rfl rfl rfl rfl rfl rfl rfl rfl ?_
        refine AW.ret ?_
        obtain rfl := Option.some.inj hr
        exact RetQ.w good (.inr rfl) rfl rfl ⟨Wv.refl _, Wv.refl _, Wv.refl _, Wv.refl _, ⟨.inr rfl, WvR.refl _, .inl rfl⟩, trivial⟩ (by simp [pureA, pureL, pureR, inA, inL, inR, inO, idsIn, encs_pure, enxs_pure, enys_pure, valC_pure, exC_pure, tyC_pure, r_int_u8_pure, r_st_GInst_pure, r_sl_st_GInst_pure, r_st_GMiss_pure])
theorem w_f85 (n : Nat) : ∀ (a0 : Val) (r : Val) (hr : s_f85 n a0 = some r), ACall Try.prog 85 [.agg (valC a0)] (.agg (valC r)) := by
  induction n using Nat.strongRecOn with
  | _ n ih =>
    intro a0 r hr
    exact w_f85_a n (fun m a0 r h hm => ih m hm a0 r h) a0 r hr

mutual
def s_f51_l1 : Nat → (List GInst) → (List GInst) → Nat → Option (List GInst)
  | 0, _, _, _ => none
  | n + 1, a0, v1_1, v1_2 => (bif (decide ((v1_2 : Int) < (a0.length : Int))) then ((a0[v1_2]?).bind fun x16 => ((a0[v1_2]?).bind fun x18 => ((s_f85 n x18.f1).bind fun q20 => ((a0[v1_2]?).bind fun x22 => (if v1_1.length + 1 ≤ 1000000 then (s_f51_l1 n a0 (v1_1 ++ [(GInst.mk x16.f0 q20 x22.f2)]) (v1_2 + 1)) else none))))) else some v1_1)
end
def s_f51 (n : Nat) (a0 : List GInst) : Option (List GInst) :=
  (s_f51_l1 n a0 [] 0)

theorem w_f51 (n : Nat) (a0 : List GInst) (r : List GInst) (hr : s_f51 n a0 = some r) (id : Nat) : ACallN Try.prog 51 [.sl .ro 7 (r_st_GInst a0)] id (.row 109 7 (r_st_GInst r).length) (.sl (.own id) 7 (r_st_GInst r)) := by
  refine ACallN.go (rows := r_st_GInst r) [(0, .sl .ro 7 (r_st_GInst a0))] Try.func51 rfl Try.ntmps51 rfl rfl (by simp [pureA, pureL, pureR, inA, inL, inR, inO, idsIn, encs_pure, enxs_pure, enys_pure, valC_pure, exC_pure, tyC_pure, r_int_u8_pure, r_st_GInst_pure, r_sl_st_GInst_pure, r_st_GMiss_pure]) (by simp [pureA, pureL, pureR, inA, inL, inR, inO, idsIn, encs_pure, enxs_pure, enys_pure, valC_pure, exC_pure, tyC_pure, r_int_u8_pure, r_st_GInst_pure, r_sl_st_GInst_pure, r_st_GMiss_pure]) ?_ id
  rw [s_f51] at hr
  refine AW.seq ?_
  refine AW.region (M := fun _ => true) ?_
  refine AL.v good (d := 2) (v := .sl .nil 0 []) rfl rfl rfl rfl ?_
  refine AW.seq ?_
  refine AW.region (M := fun _ => true) ?_
  refine AL.v good (d := 3) (v := .sl .nil 0 []) rfl rfl rfl rfl ?_
  refine AW.seq ?_
  refine AW.seq ?_
  refine AW.region (M := fun _ => true) ?_
  refine AL.v good (d := 4) (v := .int .i64 0) rfl rfl rfl rfl ?_
  refine AW.block ?_
  refine AW.adopt 3 rfl 0 7 109 rfl rfl ?_
  refine AW.lens 0 rfl (fun hl14 => ?_)
  replace hl14 : a0.length ≤ 9223372036854775807 := by rw [← r_st_GInst_length a0]; exact hl14
  refine AW.lpw (fun x : Nat × (List GInst) × Nat => [(0, .sl .ro 7 (r_st_GInst a0)), (3, .sl (.own 0) 7 (r_st_GInst x.2.1)), (4, .int .i64 (x.2.2 : Int))]) (fun x => [(0, .row 109 7 (r_st_GInst x.2.1).length)]) (fun x => s_f51_l1 x.1 a0 x.2.1 x.2.2 = some r ∧ x.1 ≤ n) (fun x => x.1) (n, [], 0) ⟨(fun _ h => by cases h), List.forall_mem_cons.2 ⟨⟨⟨_, rfl, Wv.refl _⟩, (by simp [pureA, pureL, pureR, inA, inL, inR, inO, idsIn, encs_pure, enxs_pure, enys_pure, valC_pure, exC_pure, tyC_pure, r_int_u8_pure, r_st_GInst_pure, r_sl_st_GInst_pure, r_st_GMiss_pure])⟩, List.forall_mem_cons.2 ⟨⟨⟨_, rfl, Wv.refl _⟩, (by simp [pureA, pureL, pureR, inA, inL, inR, inO, idsIn, encs_pure, enxs_pure, enys_pure, valC_pure, exC_pure, tyC_pure, r_int_u8_pure, r_st_GInst_pure, r_sl_st_GInst_pure, r_st_GMiss_pure])⟩, List.forall_mem_cons.2 ⟨⟨⟨_, rfl, Wv.refl _⟩, (by simp [pureA, pureL, pureR, inA, inL, inR, inO, idsIn, encs_pure, enxs_pure, enys_pure, valC_pure, exC_pure, tyC_pure, r_int_u8_pure, r_st_GInst_pure, r_sl_st_GInst_pure, r_st_GMiss_pure])⟩, (fun _ h => by cases h)⟩⟩⟩, List.forall_mem_cons.2 ⟨⟨⟨_, rfl, ⟨rfl, rfl, rfl⟩⟩, (by simp [pureA, pureL, pureR, inA, inL, inR, inO, idsIn, encs_pure, enxs_pure, enys_pure, valC_pure, exC_pure, tyC_pure, r_int_u8_pure, r_st_GInst_pure, r_sl_st_GInst_pure, r_st_GMiss_pure])⟩, (fun _ h => by cases h)⟩⟩ ⟨hr, Nat.le_refl _⟩ (fun ⟨m, v1_1, v1_2⟩ hx => ?_)
  obtain ⟨hr, hm⟩ := hx
  try dsimp only at hr hm
  cases m with
  | zero => rw [s_f51_l1] at hr; cases hr
  | succ m =>
    rw [s_f51_l1] at hr
    show AW Try.prog _ _ _ (mkS 32 [(0, .sl .ro 7 (r_st_GInst a0)), (3, .sl (.own 0) 7 (r_st_GInst v1_1)), (4, .int .i64 (v1_2 : Int))] [(0, .row 109 7 (r_st_GInst v1_1).length)])
    refine AW.seq ?_
    refine AW.seq ?_
    refine AW.region (M := fun _ => true) ?_
    refine AL.v good (d := 5) (v := .int .i64 (v1_2 : Int)) rfl rfl rfl rfl ?_
    refine AL.v good (d := 6) (v := .sl .ro 7 (r_st_GInst a0)) rfl rfl rfl rfl ?_
    refine AL.ln good (d := 7) (m := a0.length) rfl rfl rfl rfl rfl rfl (r_st_GInst_length _) ?_
    refine AL.v good (d := 8) (v := .bool (decide ((v1_2 : Int) < (a0.length : Int)))) rfl rfl rfl rfl ?_
    refine AW.if rfl (fun h15 => ?_) (fun h15 => ?_)
    · replace hr := cnd_t h15 hr
      refine AW.skip ?_
      refine AW.seq ?_
      refine AW.block ?_
      refine AW.drawc (M := fun i => ⟨Nat.beq i 19, bif Nat.beq i 5 then some { ids := [] } else bif Nat.beq i 10 then some { ids := [] } else bif Nat.beq i 16 then some { ids := [] } else bif Nat.beq i 18 then some { ids := [1] } else bif Nat.beq i 19 then some { ids := [0] } else none⟩) good.wide (by kernel_rfl) ?_
      refine AL.v (nc := ⟨rfl⟩) good (d := 11) (v := .sl (.own 0) 7 (r_st_GInst v1_1)) rfl rfl rfl rfl ?_
      refine AL.v (nc := ⟨rfl⟩) good (d := 12) (v := .sl .ro 7 (r_st_GInst a0)) rfl rfl rfl rfl ?_
      refine AL.v (nc := ⟨rfl⟩) good (d := 13) (v := .int .i64 (v1_2 : Int)) rfl rfl rfl rfl ?_
      obtain ⟨x16, h17, hr⟩ := bnd1 hr
      refine AL.ix (nc := ⟨rfl⟩) good (d := 14) (r := [.str x16.f0, .int .i64 x16.f1.kind, .int .i64 x16.f1.i, .bool x16.f1.b, .str x16.f1.s, .sl .ro 5 (encs x16.f1.t), .int .i64 x16.f2]) rfl rfl rfl rfl rfl rfl rfl (Int.natCast_nonneg _) (r_st_GInst_get h17) ?_
      refine AL.v (nc := ⟨rfl⟩) good (d := 15) (v := .ep [.str x16.f0, .int .i64 x16.f1.kind, .int .i64 x16.f1.i, .bool x16.f1.b, .str x16.f1.s, .sl .ro 5 (encs x16.f1.t), .int .i64 x16.f2]) rfl rfl rfl rfl ?_
      refine AL.vc good (d := 16) (v := .str x16.f0) rfl rfl rfl rfl rfl rfl (fun _ h => by cases h) ?_
      refine AL.v (nc := ⟨rfl⟩) good (d := 17) (v := .sl .ro 7 (r_st_GInst a0)) rfl rfl rfl rfl ?_
      refine AL.v (nc := ⟨rfl⟩) good (d := 18) (v := .int .i64 (v1_2 : Int)) rfl rfl rfl rfl ?_
      obtain ⟨x18, h19, hr⟩ := bnd1 hr
      refine AL.ix (nc := ⟨rfl⟩) good (d := 19) (r := [.str x18.f0, .int .i64 x18.f1.kind, .int .i64 x18.f1.i, .bool x18.f1.b, .str x18.f1.s, .sl .ro 5 (encs x18.f1.t), .int .i64 x18.f2]) rfl rfl rfl rfl rfl rfl rfl (Int.natCast_nonneg _) (r_st_GInst_get h19) ?_
      refine AL.v (nc := ⟨rfl⟩) good (d := 20) (v := .ep [.int .i64 x18.f1.kind, .int .i64 x18.f1.i, .bool x18.f1.b, .str x18.f1.s, .sl .ro 5 (encs x18.f1.t), .int .i64 x18.f2]) rfl rfl rfl rfl ?_
      refine AL.vc good (d := 21) (v := .agg [.int .i64 x18.f1.kind, .int .i64 x18.f1.i, .bool x18.f1.b, .str x18.f1.s, .sl .ro 5 (encs x18.f1.t)]) rfl rfl rfl rfl rfl rfl (fun _ h => by cases h) ?_
      obtain ⟨q20, h21, hr⟩ := bnd1 hr
      refine AL.cw (nc := ⟨rfl⟩) good (d := 22) (xs := [.agg (valC x18.f1)]) (res := .agg [.int .i64 q20.kind, .int .i64 q20.i, .bool q20.b, .str q20.s, .sl .ro 5 (encs q20.t)]) rfl rfl rfl rfl rfl rfl rfl (w_f85 _ _ _ h21) ⟨(Wv.refl _), trivial⟩ (by simp [pureA, pureL, pureR, inA, inL, inR, inO, idsIn, encs_pure, enxs_pure, enys_pure, valC_pure, exC_pure, tyC_pure, r_int_u8_pure, r_st_GInst_pure, r_sl_st_GInst_pure, r_st_GMiss_pure]) ?_
      refine AL.v (nc := ⟨rfl⟩) good (d := 23) (v := .sl .ro 7 (r_st_GInst a0)) rfl rfl rfl rfl ?_
      refine AL.v (nc := ⟨rfl⟩) good (d := 24) (v := .int .i64 (v1_2 : Int)) rfl rfl rfl rfl ?_
      obtain ⟨x22, h23, hr⟩ := bnd1 hr
      refine AL.ix (nc := ⟨rfl⟩) good (d := 25) (r := [.str x22.f0, .int .i64 x22.f1.kind, .int .i64 x22.f1.i, .bool x22.f1.b, .str x22.f1.s, .sl .ro 5 (encs x22.f1.t), .int .i64 x22.f2]) rfl rfl rfl rfl rfl rfl rfl (Int.natCast_nonneg _) (r_st_GInst_get h23) ?_
      refine AL.v (nc := ⟨rfl⟩) good (d := 26) (v := .ep [.int .i64 x22.f2]) rfl rfl rfl rfl ?_
      refine AL.vc good (d := 27) (v := .int .i64 x22.f2) rfl rfl rfl rfl rfl rfl (fun _ h => by cases h) ?_
      refine AL.bld (nc := ⟨rfl⟩) good (d := 28) (l := [.str x16.f0, .int .i64 q20.kind, .int .i64 q20.i, .bool q20.b, .str q20.s, .sl .ro 5 (encs q20.t), .int .i64 x22.f2]) rfl rfl rfl rfl rfl rfl rfl ?_
      refine AL.litC good (d := 29) (rows := [[.str x16.f0, .int .i64 q20.kind, .int .i64 q20.i, .bool q20.b, .str q20.s, .sl .ro 5 (encs q20.t), .int .i64 x22.f2]]) rfl rfl rfl rfl rfl rfl rfl rfl rfl 1 rfl (ColN.mk rfl rfl (fun _ h => by cases h) (List.forall_mem_cons.2 ⟨.head _, (fun _ h => by cases h)⟩) (fun _ h => by cases h)) ?_
      obtain ⟨h24, hr⟩ := grd hr
      refine AL.aw2c good (d := 30) (rows := r_st_GInst v1_1) (news := [[.str (((GInst.mk x16.f0 q20 x22.f2)).f0), .int .i64 ((((GInst.mk x16.f0 q20 x22.f2)).f1).kind), .int .i64 ((((GInst.mk x16.f0 q20 x22.f2)).f1).i), .bool ((((GInst.mk x16.f0 q20 x22.f2)).f1).b), .str ((((GInst.mk x16.f0 q20 x22.f2)).f1).s), .sl .ro 5 (encs ((((GInst.mk x16.f0 q20 x22.f2)).f1).t)), .int .i64 (((GInst.mk x16.f0 q20 x22.f2)).f2)]]) (rows2 := r_st_GInst (v1_1 ++ [(GInst.mk x16.f0 q20 x22.f2)])) rfl rfl rfl rfl rfl rfl rfl rfl rfl (by simp) rfl rfl rfl rfl ⟨⟨Wv.refl _, Wv.refl _, Wv.refl _, Wv.refl _, Wv.refl _, Wv.refl _, Wv.refl _, trivial⟩, trivial⟩ (by simp [r_st_GInst, rowF]) (by rw [r_st_GInst_length, List.length_append]; exact h24) rfl ?_
      refine AL.v (nc := ⟨rfl⟩) good (d := 3) (v := .sl (.own 0) 7 (r_st_GInst (v1_1 ++ [(GInst.mk x16.f0 q20 x22.f2)]))) rfl rfl rfl rfl ?_
      refine AW.region (M := fun _ => true) ?_
      refine AL.v good (d := 9) (v := .int .i64 (v1_2 : Int)) rfl rfl rfl rfl ?_
      refine AL.v good (d := 10) (v := .int .i64 (IntKind.i64.wrap ((v1_2 : Int) + 1))) rfl rfl rfl rfl ?_
      refine AL.v good (d := 4) (v := .int .i64 (IntKind.i64.wrap ((v1_2 : Int) + 1))) rfl rfl rfl rfl ?_
      exact ⟨(m, (v1_1 ++ [(GInst.mk x16.f0 q20 x22.f2)]), (v1_2 + 1)), _, _, rfl, ⟨(fun _ h => by cases h), List.forall_mem_cons.2 ⟨⟨⟨_, rfl, Wv.refl _⟩, (by simp [pureA, pureL, pureR, inA, inL, inR, inO, idsIn, encs_pure, enxs_pure, enys_pure, valC_pure, exC_pure, tyC_pure, r_int_u8_pure, r_st_GInst_pure, r_sl_st_GInst_pure, r_st_GMiss_pure])⟩, List.forall_mem_cons.2 ⟨⟨⟨_, rfl, Wv.refl _⟩, (by simp [pureA, pureL, pureR, inA, inL, inR, inO, idsIn, encs_pure, enxs_pure, enys_pure, valC_pure, exC_pure, tyC_pure, r_int_u8_pure, r_st_GInst_pure, r_sl_st_GInst_pure, r_st_GMiss_pure])⟩, List.forall_mem_cons.2 ⟨⟨⟨_, rfl, (wnx h15 hl14)⟩, (by simp [pureA, pureL, pureR, inA, inL, inR, inO, idsIn, encs_pure, enxs_pure, enys_pure, valC_pure, exC_pure, tyC_pure, r_int_u8_pure, r_st_GInst_pure, r_sl_st_GInst_pure, r_st_GMiss_pure])⟩, (fun _ h => by cases h)⟩⟩⟩, List.forall_mem_cons.2 ⟨⟨⟨_, rfl, ⟨rfl, rfl, rfl⟩⟩, (by simp [pureA, pureL, pureR, inA, inL, inR, inO, idsIn, encs_pure, enxs_pure, enys_pure, valC_pure, exC_pure, tyC_pure, r_int_u8_pure, r_st_GInst_pure, r_sl_st_GInst_pure, r_st_GMiss_pure])⟩, (fun _ h => by cases h)⟩⟩, ⟨hr, Nat.le_of_succ_le hm⟩, Nat.lt_succ_self _⟩
    · replace hr := cnd_f h15 hr
      refine AW.exit ?_
      refine AW.seq ?_
      refine AW.region (M := fun _ => true) ?_
      refine AL.v good (d := 31) (v := .sl (.own 0) 7 (r_st_GInst v1_1)) rfl rfl rfl rfl ?_
      refine AL.v good (d := 2) (v := .sl (.own 0) 7 (r_st_GInst v1_1)) rfl rfl rfl rfl ?_
      refine AW.ret ?_
      obtain rfl := Option.some.inj hr
      exact RetN.w good (.inr rfl) rfl rfl (WvR.refl _) rfl

mutual
def s_f120_l1 : Nat → (List GInst) → Int → (List GInst) → Nat → Option (List GInst)
  | 0, _, _, _, _ => none
  | n + 1, a0, a1, v1_1, v1_2 => (bif (decide ((v1_2 : Int) < (a0.length : Int))) then ((a0[v1_2]?).bind fun x12 => (bif ((x12.f0.data.toList == [106, 109, 112]) || (x12.f0.data.toList == [106, 102])) then (if v1_1.length + 1 ≤ 1000000 then (s_f120_l1 n a0 a1 (v1_1 ++ [(GInst.mk x12.f0 x12.f1 (IntKind.i64.wrap (x12.f2 + a1)))]) (v1_2 + 1)) else none) else (if v1_1.length + 1 ≤ 1000000 then (s_f120_l1 n a0 a1 (v1_1 ++ [x12]) (v1_2 + 1)) else none))) else some v1_1)
end
def s_f120 (n : Nat) (a0 : List GInst) (a1 : Int) : Option (List GInst) :=
  (s_f120_l1 n a0 a1 [] 0)

theorem w_f120 (n : Nat) (a0 : List GInst) (a1 : Int) (r : List GInst) (hr : s_f120 n a0 a1 = some r) (id : Nat) : ACallN Try.prog 120 [.sl .ro 7 (r_st_GInst a0), .int .i64 a1] id (.row 132 7 (r_st_GInst r).length) (.sl (.own id) 7 (r_st_GInst r)) := by
  refine ACallN.go (rows := r_st_GInst r) [(0, .sl .ro 7 (r_st_GInst a0)), (1, .int .i64 a1)] Try.func120 rfl Try.ntmps120 rfl rfl (by simp [pureA, pureL, pureR, inA, inL, inR, inO, idsIn, encs_pure, enxs_pure, enys_pure, valC_pure, exC_pure, tyC_pure, r_int_u8_pure, r_st_GInst_pure, r_sl_st_GInst_pure, r_st_GMiss_pure]) (by simp [pureA, pureL, pureR, inA, inL, inR, inO, idsIn, encs_pure, enxs_pure, enys_pure, valC_pure, exC_pure, tyC_pure, r_int_u8_pure, r_st_GInst_pure, r_sl_st_GInst_pure, r_st_GMiss_pure]) ?_ id
  rw [s_f120] at hr
  refine AW.seq ?_
  refine AW.region (M := fun _ => true) ?_
  refine AL.v good (d := 4) (v := .sl .nil 0 []) rfl rfl rfl rfl ?_
  refine AW.seq ?_
  refine AW.region (M := fun _ => true) ?_
  refine AL.v good (d := 5) (v := .sl .nil 0 []) rfl rfl rfl rfl ?_
  refine AW.seq ?_
  refine AW.seq ?_
  refine AW.region (M := fun _ => true) ?_
  refine AL.v good (d := 6) (v := .int .i64 0) rfl rfl rfl rfl ?_
  refine AW.block ?_
  refine AW.adopt 5 rfl 0 7 132 rfl rfl ?_
  refine AW.lens 0 rfl (fun hl10 => ?_)
  replace hl10 : a0.length ≤ 9223372036854775807 := by rw [← r_st_GInst_length a0]; exact hl10
  refine AW.lpw (fun x : Nat × (List GInst) × Nat => [(0, .sl .ro 7 (r_st_GInst a0)), (1, .int .i64 a1), (5, .sl (.own 0) 7 (r_st_GInst x.2.1)), (6, .int .i64 (x.2.2 : Int))]) (fun x => [(0, .row 132 7 (r_st_GInst x.2.1).length)]) (fun x => s_f120_l1 x.1 a0 a1 x.2.1 x.2.2 = some r ∧ x.1 ≤ n) (fun x => x.1) (n, [], 0) ⟨(fun _ h => by cases h), List.forall_mem_cons.2 ⟨⟨⟨_, rfl, Wv.refl _⟩, (by simp [pureA, pureL, pureR, inA, inL, inR, inO, idsIn, encs_pure, enxs_pure, enys_pure, valC_pure, exC_pure, tyC_pure, r_int_u8_pure, r_st_GInst_pure, r_sl_st_GInst_pure, r_st_GMiss_pure])⟩, List.forall_mem_cons.2 ⟨⟨⟨_, rfl, Wv.refl _⟩, (by simp [pureA, pureL, pureR, inA, inL, inR, inO, idsIn, encs_pure, enxs_pure, enys_pure, valC_pure, exC_pure, tyC_pure, r_int_u8_pure, r_st_GInst_pure, r_sl_st_GInst_pure, r_st_GMiss_pure])⟩, List.forall_mem_cons.2 ⟨⟨⟨_, rfl, Wv.refl _⟩, (by simp [pureA, pureL, pureR, inA, inL, inR, inO, idsIn, encs_pure, enxs_pure, enys_pure, valC_pure, exC_pure, tyC_pure, r_int_u8_pure, r_st_GInst_pure, r_sl_st_GInst_pure, r_st_GMiss_pure])⟩, List.forall_mem_cons.2 ⟨⟨⟨_, rfl, Wv.refl _⟩, (by simp [pureA, pureL, pureR, inA, inL, inR, inO, idsIn, encs_pure, enxs_pure, enys_pure, valC_pure, exC_pure, tyC_pure, r_int_u8_pure, r_st_GInst_pure, r_sl_st_GInst_pure, r_st_GMiss_pure])⟩, (fun _ h => by cases h)⟩⟩⟩⟩, List.forall_mem_cons.2 ⟨⟨⟨_, rfl, ⟨rfl, rfl, rfl⟩⟩, (by simp [pureA, pureL, pureR, inA, inL, inR, inO, idsIn, encs_pure, enxs_pure, enys_pure, valC_pure, exC_pure, tyC_pure, r_int_u8_pure, r_st_GInst_pure, r_sl_st_GInst_pure, r_st_GMiss_pure])⟩, (fun _ h => by cases h)⟩⟩ ⟨hr, Nat.le_refl _⟩ (fun ⟨m, v1_1, v1_2⟩ hx => ?_)
  obtain ⟨hr, hm⟩ := hx
  try dsimp only at hr hm
  cases m with
  | zero => rw [s_f120_l1] at hr; cases hr
  | succ m =>
    rw [s_f120_l1] at hr
    show AW Try.prog _ _ _ (mkS 36 [(0, .sl .ro 7 (r_st_GInst a0)), (1, .int .i64 a1), (5, .sl (.own 0) 7 (r_st_GInst v1_1)), (6, .int .i64 (v1_2 : Int))] [(0, .row 132 7 (r_st_GInst v1_1).length)])
    refine AW.seq ?_
    refine AW.seq ?_
    refine AW.region (M := fun _ => true) ?_
    refine AL.v good (d := 8) (v := .int .i64 (v1_2 : Int)) rfl rfl rfl rfl ?_
    refine AL.v good (d := 9) (v := .sl .ro 7 (r_st_GInst a0)) rfl rfl rfl rfl ?_
    refine AL.ln good (d := 10) (m := a0.length) rfl rfl rfl rfl rfl rfl (r_st_GInst_length _) ?_
    refine AL.v good (d := 11) (v := .bool (decide ((v1_2 : Int) < (a0.length : Int)))) rfl rfl rfl rfl ?_
    refine AW.if rfl (fun h11 => ?_) (fun h11 => ?_)
    · replace hr := cnd_t h11 hr
      refine AW.skip ?_
      refine AW.seq ?_
      refine AW.block ?_
      refine AW.seq ?_
      refine AW.region (M := fun _ => true) ?_
      refine AL.v good (d := 14) (v := .sl .ro 7 (r_st_GInst a0)) rfl rfl rfl rfl ?_
      refine AL.v good (d := 15) (v := .int .i64 (v1_2 : Int)) rfl rfl rfl rfl ?_
      obtain ⟨x12, h13, hr⟩ := bnd1 hr
      refine AL.ix good (d := 16) (r := [.str x12.f0, .int .i64 x12.f1.kind, .int .i64 x12.f1.i, .bool x12.f1.b, .str x12.f1.s, .sl .ro 5 (encs x12.f1.t), .int .i64 x12.f2]) rfl rfl rfl rfl rfl rfl rfl (Int.natCast_nonneg _) (r_st_GInst_get h13) ?_
      refine AL.v good (d := 17) (v := .agg [.str x12.f0, .int .i64 x12.f1.kind, .int .i64 x12.f1.i, .bool x12.f1.b, .str x12.f1.s, .sl .ro 5 (encs x12.f1.t), .int .i64 x12.f2]) rfl rfl rfl rfl ?_
      refine AL.alc good (d := 7) rfl rfl rfl rfl rfl 1 rfl ?_
      refine AL.st2 good (c2 := [.str x12.f0, .int .i64 x12.f1.kind, .int .i64 x12.f1.i, .bool x12.f1.b, .str x12.f1.s, .sl .ro 5 (encs x12.f1.t), .int .i64 x12.f2]) rfl rfl rfl rfl rfl rfl rfl rfl rfl rfl rfl rfl ?_
      refine AW.seq ?_
      refine AW.seq ?_
      refine AW.region (M := fun _ => true) ?_
      refine AL.v good (d := 18) (v := .ptr 1 0) rfl rfl rfl rfl ?_
      refine AL.v good (d := 19) (v := .str x12.f0) rfl rfl rfl rfl ?_
      refine AL.sb good (d := 20) (b := (x12.f0.data.toList == [106, 109, 112])) rfl rfl rfl rfl rfl rfl rfl ?_
      refine AL.vb good (d := 21) (b := (x12.f0.data.toList == [106, 109, 112])) rfl rfl rfl rfl (fun g14 h15 => ?_)
      refine AL.gv good (d := 22) (c := (!g14)) (v := .ptr 1 0) (rd := []) rfl rfl (by cases g14 <;> rfl) (fun h => by cases g14 <;> first | rfl | exact absurd h (by decide)) ?_
      refine AL.gv good (d := 23) (c := (!g14)) (v := .str x12.f0) (rd := [(1, .box 132 [.str x12.f0, .int .i64 x12.f1.kind, .int .i64 x12.f1.i, .bool x12.f1.b, .str x12.f1.s, .sl .ro 5 (encs x12.f1.t), .int .i64 x12.f2])]) rfl rfl (by cases g14 <;> rfl) (fun h => by cases g14 <;> first | rfl | exact absurd h (by decide)) ?_
      refine AL.gsb good (d := 24) (c := (!g14)) (b := (x12.f0.data.toList == [106, 102])) rfl rfl (by cases g14 <;> rfl) rfl (fun h => by cases g14 <;> first | rfl | exact absurd h (by decide)) (fun h => by cases g14 <;> first | rfl | exact absurd h (by decide)) rfl ?_
      refine AL.v good (d := 25) (v := .bool (g14 || (x12.f0.data.toList == [106, 102]))) (rd := []) rfl rfl rfl (by cases g14 <;> rfl) ?_
      subst h15
      refine AW.if rfl (fun h16 => ?_) (fun h16 => ?_)
      · replace hr := cnd_t h16 hr
        refine AW.region (M := fun _ => true) ?_
        refine AL.v good (d := 26) (v := .ptr 1 6) rfl rfl rfl rfl ?_
        refine AL.v good (d := 27) (v := .int .i64 x12.f2) rfl rfl rfl rfl ?_
        refine AL.v good (d := 28) (v := .int .i64 a1) rfl rfl rfl rfl ?_
        refine AL.v good (d := 29) (v := .int .i64 (IntKind.i64.wrap (x12.f2 + a1))) rfl rfl rfl rfl ?_
        refine AL.v good (d := 30) (v := .ptr 1 6) rfl rfl rfl rfl ?_
        refine AL.st2 good (c2 := [.str x12.f0, .int .i64 x12.f1.kind, .int .i64 x12.f1.i, .bool x12.f1.b, .str x12.f1.s, .sl .ro 5 (encs x12.f1.t), .int .i64 (IntKind.i64.wrap (x12.f2 + a1))]) rfl rfl rfl rfl rfl rfl rfl rfl rfl rfl rfl rfl ?_
        refine AW.region (M := fun _ => true) ?_
        refine AL.v good (d := 31) (v := .sl (.own 0) 7 (r_st_GInst v1_1)) rfl rfl rfl rfl ?_
        refine AL.v good (d := 32) (v := .agg [.str x12.f0, .int .i64 x12.f1.kind, .int .i64 x12.f1.i, .bool x12.f1.b, .str x12.f1.s, .sl .ro 5 (encs x12.f1.t), .int .i64 (IntKind.i64.wrap (x12.f2 + a1))]) rfl rfl rfl rfl ?_
        refine AL.lit good (d := 33) (rows := [[.str x12.f0, .int .i64 x12.f1.kind, .int .i64 x12.f1.i, .bool x12.f1.b, .str x12.f1.s, .sl .ro 5 (encs x12.f1.t), .int .i64 (IntKind.i64.wrap (x12.f2 + a1))]]) rfl rfl rfl rfl rfl rfl rfl rfl rfl 2 rfl ?_
        obtain ⟨h17, hr⟩ := grd hr
        refine AL.aw2 good (d := 34) (rows := r_st_GInst v1_1) (news := [[.str (((GInst.mk x12.f0 x12.f1 (IntKind.i64.wrap (x12.f2 + a1)))).f0), .int .i64 ((((GInst.mk x12.f0 x12.f1 (IntKind.i64.wrap (x12.f2 + a1)))).f1).kind), .int .i64 ((((GInst.mk x12.f0 x12.f1 (IntKind.i64.wrap (x12.f2 + a1)))).f1).i), .bool ((((GInst.mk x12.f0 x12.f1 (IntKind.i64.wrap (x12.f2 + a1)))).f1).b), .str ((((GInst.mk x12.f0 x12.f1 (IntKind.i64.wrap (x12.f2 + a1)))).f1).s), .sl .ro 5 (encs ((((GInst.mk x12.f0 x12.f1 (IntKind.i64.wrap (x12.f2 + a1)))).f1).t)), .int .i64 (((GInst.mk x12.f0 x12.f1 (IntKind.i64.wrap (x12.f2 + a1)))).f2)]]) (rows2 := r_st_GInst (v1_1 ++ [(GInst.mk x12.f0 x12.f1 (IntKind.i64.wrap (x12.f2 + a1)))])) rfl rfl rfl rfl rfl rfl rfl rfl rfl (by simp) rfl rfl rfl ⟨⟨Wv.refl _, Wv.refl _, Wv.refl _, Wv.refl _, Wv.refl _, Wv.refl _, Wv.refl _, trivial⟩, trivial⟩ (by simp [r_st_GInst, rowF]) (by rw [r_st_GInst_length, List.length_append]; exact h17) rfl ?_
        refine AL.v good (d := 5) (v := .sl (.own 0) 7 (r_st_GInst (v1_1 ++ [(GInst.mk x12.f0 x12.f1 (IntKind.i64.wrap (x12.f2 + a1)))]))) rfl rfl rfl rfl ?_
        refine AW.region (M := fun _ => true) ?_
        refine AL.v good (d := 12) (v := .int .i64 (v1_2 : Int)) rfl rfl rfl rfl ?_
        refine AL.v good (d := 13) (v := .int .i64 (IntKind.i64.wrap ((v1_2 : Int) + 1))) rfl rfl rfl rfl ?_
        refine AL.v good (d := 6) (v := .int .i64 (IntKind.i64.wrap ((v1_2 : Int) + 1))) rfl rfl rfl rfl ?_
        exact ⟨(m, (v1_1 ++ [(GInst.mk x12.f0 x12.f1 (IntKind.i64.wrap (x12.f2 + a1)))]), (v1_2 + 1)), _, _, rfl, ⟨(fun _ h => by cases h), List.forall_mem_cons.2 ⟨⟨⟨_, rfl, Wv.refl _⟩, (by simp [pureA, pureL, pureR, inA, inL, inR, inO, idsIn, encs_pure, enxs_pure, enys_pure, valC_pure, exC_pure, tyC_pure, r_int_u8_pure, r_st_GInst_pure, r_sl_st_GInst_pure, r_st_GMiss_pure])⟩, List.forall_mem_cons.2 ⟨⟨⟨_, rfl, Wv.refl _⟩, (by simp [pureA, pureL, pureR, inA, inL, inR, inO, idsIn, encs_pure, enxs_pure, enys_pure, valC_pure, exC_pure, tyC_pure, r_int_u8_pure, r_st_GInst_pure, r_sl_st_GInst_pure, r_st_GMiss_pure])⟩, List.forall_mem_cons.2 ⟨⟨⟨_, rfl, Wv.refl _⟩, (by simp [pureA, pureL, pureR, inA, inL, inR, inO, idsIn, encs_pure, enxs_pure, enys_pure, valC_pure, exC_pure, tyC_pure, r_int_u8_pure, r_st_GInst_pure, r_sl_st_GInst_pure, r_st_GMiss_pure])⟩, List.forall_mem_cons.2 ⟨⟨⟨_, rfl, (wnx h11 hl10)⟩, (by simp [pureA, pureL, pureR, inA, inL, inR, inO, idsIn, encs_pure, enxs_pure, enys_pure, valC_pure, exC_pure, tyC_pure, r_int_u8_pure, r_st_GInst_pure, r_sl_st_GInst_pure, r_st_GMiss_pure])⟩, (fun _ h => by cases h)⟩⟩⟩⟩, List.forall_mem_cons.2 ⟨⟨⟨_, rfl, ⟨rfl, rfl, rfl⟩⟩, (by simp [pureA, pureL, pureR, inA, inL, inR, inO, idsIn, encs_pure, enxs_pure, enys_pure, valC_pure, exC_pure, tyC_pure, r_int_u8_pure, r_st_GInst_pure, r_sl_st_GInst_pure, r_st_GMiss_pure])⟩, (fun _ h => by cases h)⟩⟩, ⟨hr, Nat.le_of_succ_le hm⟩, Nat.lt_succ_self _⟩
      · replace hr := cnd_f h16 hr
        refine AW.skip ?_
        refine AW.region (M := fun _ => true) ?_
        refine AL.v good (d := 31) (v := .sl (.own 0) 7 (r_st_GInst v1_1)) rfl rfl rfl rfl ?_
        refine AL.v good (d := 32) (v := .agg [.str x12.f0, .int .i64 x12.f1.kind, .int .i64 x12.f1.i, .bool x12.f1.b, .str x12.f1.s, .sl .ro 5 (encs x12.f1.t), .int .i64 x12.f2]) rfl rfl rfl rfl ?_
        refine AL.lit good (d := 33) (rows := [[.str x12.f0, .int .i64 x12.f1.kind, .int .i64 x12.f1.i, .bool x12.f1.b, .str x12.f1.s, .sl .ro 5 (encs x12.f1.t), .int .i64 x12.f2]]) rfl rfl rfl rfl rfl rfl rfl rfl rfl 2 rfl ?_
        obtain ⟨h18, hr⟩ := grd hr
        refine AL.aw2 good (d := 34) (rows := r_st_GInst v1_1) (news := [[.str x12.f0, .int .i64 x12.f1.kind, .int .i64 x12.f1.i, .bool x12.f1.b, .str x12.f1.s, .sl .ro 5 (encs x12.f1.t), .int .i64 x12.f2]]) (rows2 := r_st_GInst (v1_1 ++ [x12])) rfl rfl rfl rfl rfl rfl rfl rfl rfl (by simp) rfl rfl rfl ⟨⟨Wv.refl _, Wv.refl _, Wv.refl _, Wv.refl _, Wv.refl _, Wv.refl _, Wv.refl _, trivial⟩, trivial⟩ (by simp [r_st_GInst, rowF]) (by rw [r_st_GInst_length, List.length_append]; exact h18) rfl ?_
        refine AL.v good (d := 5) (v := .sl (.own 0) 7 (r_st_GInst (v1_1 ++ [x12]))) rfl rfl rfl rfl ?_
        refine AW.region (M := fun _ => true) ?_
        refine AL.v good (d := 12) (v := .int .i64 (v1_2 : Int)) rfl rfl rfl rfl ?_
        refine AL.v good (d := 13) (v := .int .i64 (IntKind.i64.wrap ((v1_2 : Int) + 1))) rfl rfl rfl rfl ?_
        refine AL.v good (d := 6) (v := .int .i64 (IntKind.i64.wrap ((v1_2 : Int) + 1))) rfl rfl rfl rfl ?_
        exact ⟨(m, (v1_1 ++ [x12]), (v1_2 + 1)), _, _, rfl, ⟨(fun _ h => by cases h), List.forall_mem_cons.2 ⟨⟨⟨_, rfl, Wv.refl _⟩, (by simp [pureA, pureL, pureR, inA, inL, inR, inO, idsIn, encs_pure, enxs_pure, enys_pure, valC_pure, exC_pure, tyC_pure, r_int_u8_pure, r_st_GInst_pure, r_sl_st_GInst_pure, r_st_GMiss_pure])⟩, List.forall_mem_cons.2 ⟨⟨⟨_, rfl, Wv.refl _⟩, (by simp [pureA, pureL, pureR, inA, inL, inR, inO, idsIn, encs_pure, enxs_pure, enys_pure, valC_pure, exC_pure, tyC_pure, r_int_u8_pure, r_st_GInst_pure, r_sl_st_GInst_pure, r_st_GMiss_pure])⟩, List.forall_mem_cons.2 ⟨⟨⟨_, rfl, Wv.refl _⟩, (by simp [pureA, pureL, pureR, inA, inL, inR, inO, idsIn, encs_pure, enxs_pure, enys_pure, valC_pure, exC_pure, tyC_pure, r_int_u8_pure, r_st_GInst_pure, r_sl_st_GInst_pure, r_st_GMiss_pure])⟩, List.forall_mem_cons.2 ⟨⟨⟨_, rfl, (wnx h11 hl10)⟩, (by simp [pureA, pureL, pureR, inA, inL, inR, inO, idsIn, encs_pure, enxs_pure, enys_pure, valC_pure, exC_pure, tyC_pure, r_int_u8_pure, r_st_GInst_pure, r_sl_st_GInst_pure, r_st_GMiss_pure])⟩, (fun _ h => by cases h)⟩⟩⟩⟩, List.forall_mem_cons.2 ⟨⟨⟨_, rfl, ⟨rfl, rfl, rfl⟩⟩, (by simp [pureA, pureL, pureR, inA, inL, inR, inO, idsIn, encs_pure, enxs_pure, enys_pure, valC_pure, exC_pure, tyC_pure, r_int_u8_pure, r_st_GInst_pure, r_sl_st_GInst_pure, r_st_GMiss_pure])⟩, (fun _ h => by cases h)⟩⟩, ⟨hr, Nat.le_of_succ_le hm⟩, Nat.lt_succ_self _⟩
    · replace hr := cnd_f h11 hr
      refine AW.exit ?_
      refine AW.seq ?_
      refine AW.region (M := fun _ => true) ?_
      refine AL.v good (d := 35) (v := .sl (.own 0) 7 (r_st_GInst v1_1)) rfl rfl rfl rfl ?_
      refine AL.v good (d := 4) (v := .sl (.own 0) 7 (r_st_GInst v1_1)) rfl rfl rfl rfl ?_
      refine AW.ret ?_
      obtain rfl := Option.some.inj hr
      exact RetN.w good (.inr rfl) rfl rfl (WvR.refl _) rfl

def s_f89 (n : Nat) (a0 : List GInst) (a1 : List GInst) : Option (List GInst) :=
  (if a0.length ≤ 1000000 then ((s_f120 n a1 (a0.length : Int)).bind fun q2 => (if a0.length + q2.length ≤ 1000000 then some (a0 ++ q2) else none)) else none)

theorem w_f89 (n : Nat) (a0 : List GInst) (a1 : List GInst) (r : List GInst) (hr : s_f89 n a0 a1 = some r) (id : Nat) : ACallN Try.prog 89 [.sl .ro 7 (r_st_GInst a0), .sl .ro 7 (r_st_GInst a1)] id (.row 132 7 (r_st_GInst r).length) (.sl (.own id) 7 (r_st_GInst r)) := by
  refine ACallN.go (rows := r_st_GInst r) [(0, .sl .ro 7 (r_st_GInst a0)), (1, .sl .ro 7 (r_st_GInst a1))] Try.func89 rfl Try.ntmps89 rfl rfl (by simp [pureA, pureL, pureR, inA, inL, inR, inO, idsIn, encs_pure, enxs_pure, enys_pure, valC_pure, exC_pure, tyC_pure, r_int_u8_pure, r_st_GInst_pure, r_sl_st_GInst_pure, r_st_GMiss_pure]) (by simp [pureA, pureL, pureR, inA, inL, inR, inO, idsIn, encs_pure, enxs_pure, enys_pure, valC_pure, exC_pure, tyC_pure, r_int_u8_pure, r_st_GInst_pure, r_sl_st_GInst_pure, r_st_GMiss_pure]) ?_ id
  rw [s_f89] at hr
  refine AW.seq ?_
  refine AW.region (M := fun _ => true) ?_
  refine AL.v good (d := 4) (v := .sl .nil 0 []) rfl rfl rfl rfl ?_
  refine AW.seq ?_
  refine AW.region (M := fun _ => true) ?_
  refine AL.lit good (d := 5) (rows := []) rfl rfl rfl rfl rfl rfl rfl rfl rfl 0 rfl ?_
  refine AL.v good (d := 6) (v := .sl .ro 7 (r_st_GInst a0)) rfl rfl rfl rfl ?_
  obtain ⟨h1, hr⟩ := grd hr
  refine AL.aw2 good (d := 7) (rows := r_st_GInst []) (news := r_st_GInst a0) (rows2 := r_st_GInst a0) rfl rfl rfl rfl rfl rfl rfl rfl rfl (by simp) rfl rfl rfl (WvR.refl _) (by simp [r_st_GInst, rowF]) (by rw [r_st_GInst_length]; exact h1) rfl ?_
  refine AL.v good (d := 8) (v := .sl .ro 7 (r_st_GInst a1)) rfl rfl rfl rfl ?_
  refine AL.v good (d := 9) (v := .sl .ro 7 (r_st_GInst a0)) rfl rfl rfl rfl ?_
  refine AL.ln good (d := 10) (m := a0.length) rfl rfl rfl rfl rfl rfl (r_st_GInst_length _) ?_
  obtain ⟨q2, h3, hr⟩ := bnd1 hr
  refine AL.clF good (d := 11) (xs := [.sl .ro 7 (r_st_GInst a1), .int .i64 (a0.length : Int)]) (ob := .row 132 7 (r_st_GInst q2).length) (res := .sl (.own 1) 7 (r_st_GInst q2)) rfl rfl rfl rfl rfl rfl rfl 1 rfl (w_f120 _ _ _ _ h3 1) ⟨(Wv.refl _), (Wv.refl _), trivial⟩ rfl ColN.no ?_
  obtain ⟨h4, hr⟩ := grd hr
  refine AL.aw2 good (d := 12) (rows := r_st_GInst a0) (news := r_st_GInst q2) (rows2 := r_st_GInst (a0 ++ q2)) rfl rfl rfl rfl rfl rfl rfl rfl rfl (by simp) rfl rfl rfl (WvR.refl _) (by simp [r_st_GInst, rowF]) (by rw [r_st_GInst_length, List.length_append]; exact h4) rfl ?_
  refine AL.v good (d := 4) (v := .sl (.own 0) 7 (r_st_GInst (a0 ++ q2))) rfl rfl rfl rfl ?_
  refine AW.ret ?_
  obtain rfl := Option.some.inj hr
  exact RetN.w good (.inr rfl) rfl rfl (WvR.refl _) rfl

def s_f87 (n : Nat) (a0 : List GInst) (a1 : List GInst) (a2 : List GInst) : Option (List GInst) :=
  (if a0.length ≤ 1000000 then (if a0.length + 1 ≤ 1000000 then ((s_f89 n (a0 ++ [(GInst.mk ⟨#[106, 102]⟩ (Val.mk 0 0 false ⟨#[]⟩ []) (IntKind.i64.wrap ((IntKind.i64.wrap ((IntKind.i64.wrap ((a0.length : Int) + 1)) + (a1.length : Int))) + 1)))]) a1).bind fun q3 => (if q3.length + 1 ≤ 1000000 then ((s_f89 n (q3 ++ [(GInst.mk ⟨#[106, 109, 112]⟩ (Val.mk 0 0 false ⟨#[]⟩ []) (IntKind.i64.wrap ((IntKind.i64.wrap ((IntKind.i64.wrap ((IntKind.i64.wrap ((a0.length : Int) + 1)) + (a1.length : Int))) + 1)) + (a2.length : Int))))]) a2).bind fun q6 => some q6) else none)) else none) else none)

theorem w_f87 (n : Nat) (a0 : List GInst) (a1 : List GInst) (a2 : List GInst) (r : List GInst) (hr : s_f87 n a0 a1 a2 = some r) (id : Nat) : ACallN Try.prog 87 [.sl .ro 7 (r_st_GInst a0), .sl .ro 7 (r_st_GInst a1), .sl .ro 7 (r_st_GInst a2)] id (.row 132 7 (r_st_GInst r).length) (.sl (.own id) 7 (r_st_GInst r)) := by
  refine ACallN.go (rows := r_st_GInst r) [(0, .sl .ro 7 (r_st_GInst a0)), (1, .sl .ro 7 (r_st_GInst a1)), (2, .sl .ro 7 (r_st_GInst a2))] Try.func87 rfl Try.ntmps87 rfl rfl (by simp [pureA, pureL, pureR, inA, inL, inR, inO, idsIn, encs_pure, enxs_pure, enys_pure, valC_pure, exC_pure, tyC_pure, r_int_u8_pure, r_st_GInst_pure, r_sl_st_GInst_pure, r_st_GMiss_pure]) (by simp [pureA, pureL, pureR, inA, inL, inR, inO, idsIn, encs_pure, enxs_pure, enys_pure, valC_pure, exC_pure, tyC_pure, r_int_u8_pure, r_st_GInst_pure, r_sl_st_GInst_pure, r_st_GMiss_pure]) ?_ id
  rw [s_f87] at hr
  refine AW.seq ?_
  refine AW.region (M := fun _ => true) ?_
  refine AL.v good (d := 6) (v := .sl .nil 0 []) rfl rfl rfl rfl ?_
  refine AW.seq ?_
  refine AW.region (M := fun _ => true) ?_
  refine AL.v good (d := 9) (v := .sl .ro 7 (r_st_GInst a0)) rfl rfl rfl rfl ?_
  refine AL.ln good (d := 10) (m := a0.length) rfl rfl rfl rfl rfl rfl (r_st_GInst_length _) ?_
  refine AL.v good (d := 11) (v := .int .i64 (IntKind.i64.wrap ((a0.length : Int) + 1))) rfl rfl rfl rfl ?_
  refine AL.v good (d := 12) (v := .sl .ro 7 (r_st_GInst a1)) rfl rfl rfl rfl ?_
  refine AL.ln good (d := 13) (m := a1.length) rfl rfl rfl rfl rfl rfl (r_st_GInst_length _) ?_
  refine AL.v good (d := 14) (v := .int .i64 (IntKind.i64.wrap ((IntKind.i64.wrap ((a0.length : Int) + 1)) + (a1.length : Int)))) rfl rfl rfl rfl ?_
  refine AL.v good (d := 15) (v := .int .i64 (IntKind.i64.wrap ((IntKind.i64.wrap ((IntKind.i64.wrap ((a0.length : Int) + 1)) + (a1.length : Int))) + 1))) rfl rfl rfl rfl ?_
  refine AL.v good (d := 7) (v := .int .i64 (IntKind.i64.wrap ((IntKind.i64.wrap ((IntKind.i64.wrap ((a0.length : Int) + 1)) + (a1.length : Int))) + 1))) rfl rfl rfl rfl ?_
  refine AW.seq ?_
  refine AW.region (M := fun _ => true) ?_
  refine AL.lit good (d := 16) (rows := []) rfl rfl rfl rfl rfl rfl rfl rfl rfl 0 rfl ?_
  refine AL.v good (d := 17) (v := .sl .ro 7 (r_st_GInst a0)) rfl rfl rfl rfl ?_
  obtain ⟨h1, hr⟩ := grd hr
  refine AL.aw2 good (d := 18) (rows := r_st_GInst []) (news := r_st_GInst a0) (rows2 := r_st_GInst a0) rfl rfl rfl rfl rfl rfl rfl rfl rfl (by simp) rfl rfl rfl (WvR.refl _) (by simp [r_st_GInst, rowF]) (by rw [r_st_GInst_length]; exact h1) rfl ?_
  refine AL.v good (d := 19) (v := .int .i64 (IntKind.i64.wrap ((IntKind.i64.wrap ((IntKind.i64.wrap ((a0.length : Int) + 1)) + (a1.length : Int))) + 1))) rfl rfl rfl rfl ?_
  refine AL.cw good (d := 20) (xs := [.str ⟨#[106, 102]⟩, .int .i64 (IntKind.i64.wrap ((IntKind.i64.wrap ((IntKind.i64.wrap ((a0.length : Int) + 1)) + (a1.length : Int))) + 1))]) (res := .agg [.str ⟨#[106, 102]⟩, .int .i64 0, .int .i64 0, .bool false, .str ⟨#[]⟩, .sl .ro 5 (encs []), .int .i64 (IntKind.i64.wrap ((IntKind.i64.wrap ((IntKind.i64.wrap ((a0.length : Int) + 1)) + (a1.length : Int))) + 1))]) rfl rfl rfl rfl rfl rfl rfl (w_f86 ⟨#[106, 102]⟩ (IntKind.i64.wrap ((IntKind.i64.wrap ((IntKind.i64.wrap ((a0.length : Int) + 1)) + (a1.length : Int))) + 1))) ⟨(Wv.refl _), (Wv.refl _), trivial⟩ (by simp [pureA, pureL, pureR, inA, inL, inR, inO, idsIn, encs_pure, enxs_pure, enys_pure, valC_pure, exC_pure, tyC_pure, r_int_u8_pure, r_st_GInst_pure, r_sl_st_GInst_pure, r_st_GMiss_pure]) ?_
  refine AL.lit good (d := 21) (rows := [[.str ⟨#[106, 102]⟩, .int .i64 0, .int .i64 0, .bool false, .str ⟨#[]⟩, .sl .ro 5 (encs []), .int .i64 (IntKind.i64.wrap ((IntKind.i64.wrap ((IntKind.i64.wrap ((a0.length : Int) + 1)) + (a1.length : Int))) + 1))]]) rfl rfl rfl rfl rfl rfl rfl rfl rfl 1 rfl ?_
  obtain ⟨h2, hr⟩ := grd hr
  refine AL.aw2 good (d := 22) (rows := r_st_GInst a0) (news := [[.str (((GInst.mk ⟨#[106, 102]⟩ (Val.mk 0 0 false ⟨#[]⟩ []) (IntKind.i64.wrap ((IntKind.i64.wrap ((IntKind.i64.wrap ((a0.length : Int) + 1)) + (a1.length : Int))) + 1)))).f0), .int .i64 ((((GInst.mk ⟨#[106, 102]⟩ (Val.mk 0 0 false ⟨#[]⟩ []) (IntKind.i64.wrap ((IntKind.i64.wrap ((IntKind.i64.wrap ((a0.length : Int) + 1)) + (a1.length : Int))) + 1)))).f1).kind), .int .i64 ((((GInst.mk ⟨#[106, 102]⟩ (Val.mk 0 0 false ⟨#[]⟩ []) (IntKind.i64.wrap ((IntKind.i64.wrap ((IntKind.i64.wrap ((a0.length : Int) + 1)) + (a1.length : Int))) + 1)))).f1).i), .bool ((((GInst.mk ⟨#[106, 102]⟩ (Val.mk 0 0 false ⟨#[]⟩ []) (IntKind.i64.wrap ((IntKind.i64.wrap ((IntKind.i64.wrap ((a0.length : Int) + 1)) + (a1.length : Int))) + 1)))).f1).b), .str ((((GInst.mk ⟨#[106, 102]⟩ (Val.mk 0 0 false ⟨#[]⟩ []) (IntKind.i64.wrap ((IntKind.i64.wrap ((IntKind.i64.wrap ((a0.length : Int) + 1)) + (a1.length : Int))) + 1)))).f1).s), .sl .ro 5 (encs ((((GInst.mk ⟨#[106, 102]⟩ (Val.mk 0 0 false ⟨#[]⟩ []) (IntKind.i64.wrap ((IntKind.i64.wrap ((IntKind.i64.wrap ((a0.length : Int) + 1)) + (a1.length : Int))) + 1)))).f1).t)), .int .i64 (((GInst.mk ⟨#[106, 102]⟩ (Val.mk 0 0 false ⟨#[]⟩ []) (IntKind.i64.wrap ((IntKind.i64.wrap ((IntKind.i64.wrap ((a0.length : Int) + 1)) + (a1.length : Int))) + 1)))).f2)]]) (rows2 := r_st_GInst (a0 ++ [(GInst.mk ⟨#[106, 102]⟩ (Val.mk 0 0 false ⟨#[]⟩ []) (IntKind.i64.wrap ((IntKind.i64.wrap ((IntKind.i64.wrap ((a0.length : Int) + 1)) + (a1.length : Int))) + 1)))])) rfl rfl rfl rfl rfl rfl rfl rfl rfl (by simp) rfl rfl rfl ⟨⟨Wv.refl _, Wv.refl _, Wv.refl _, Wv.refl _, Wv.refl _, Wv.refl _, Wv.refl _, trivial⟩, trivial⟩ (by simp [r_st_GInst, rowF]) (by rw [r_st_GInst_length, List.length_append]; exact h2) rfl ?_
  refine AL.v good (d := 8) (v := .sl (.own 0) 7 (r_st_GInst (a0 ++ [(GInst.mk ⟨#[106, 102]⟩ (Val.mk 0 0 false ⟨#[]⟩ []) (IntKind.i64.wrap ((IntKind.i64.wrap ((IntKind.i64.wrap ((a0.length : Int) + 1)) + (a1.length : Int))) + 1)))]))) rfl rfl rfl rfl ?_
  refine AW.seq ?_
  refine AW.region (M := fun _ => true) ?_
  refine AL.v good (d := 23) (v := .sl (.own 0) 7 (r_st_GInst (a0 ++ [(GInst.mk ⟨#[106, 102]⟩ (Val.mk 0 0 false ⟨#[]⟩ []) (IntKind.i64.wrap ((IntKind.i64.wrap ((IntKind.i64.wrap ((a0.length : Int) + 1)) + (a1.length : Int))) + 1)))]))) rfl rfl rfl rfl ?_
  refine AL.v good (d := 24) (v := .sl .ro 7 (r_st_GInst a1)) rfl rfl rfl rfl ?_
  obtain ⟨q3, h4, hr⟩ := bnd1 hr
  refine AL.clF good (d := 25) (xs := [.sl .ro 7 (r_st_GInst (a0 ++ [(GInst.mk ⟨#[106, 102]⟩ (Val.mk 0 0 false ⟨#[]⟩ []) (IntKind.i64.wrap ((IntKind.i64.wrap ((IntKind.i64.wrap ((a0.length : Int) + 1)) + (a1.length : Int))) + 1)))])), .sl .ro 7 (r_st_GInst a1)]) (ob := .row 132 7 (r_st_GInst q3).length) (res := .sl (.own 2) 7 (r_st_GInst q3)) rfl rfl rfl rfl rfl rfl rfl 2 rfl (w_f89 _ _ _ _ h4 2) ⟨⟨.inr rfl, WvR.refl _, .inl rfl⟩, (Wv.refl _), trivial⟩ rfl ColN.no ?_
  refine AL.v good (d := 8) (v := .sl (.own 2) 7 (r_st_GInst q3)) rfl rfl rfl rfl ?_
  refine AW.ren 2 0 8 rfl rfl [(2, .sl .ro 7 (r_st_GInst a2)), (7, .int .i64 (IntKind.i64.wrap ((IntKind.i64.wrap ((IntKind.i64.wrap ((a0.length : Int) + 1)) + (a1.length : Int))) + 1)))] [] (List.forall_mem_cons.2 ⟨⟨rfl, (by simp [pureA, pureL, pureR, inA, inL, inR, inO, idsIn, encs_pure, enxs_pure, enys_pure, valC_pure, exC_pure, tyC_pure, r_int_u8_pure, r_st_GInst_pure, r_sl_st_GInst_pure, r_st_GMiss_pure])⟩, List.forall_mem_cons.2 ⟨⟨rfl, (by simp [pureA, pureL, pureR, inA, inL, inR, inO, idsIn, encs_pure, enxs_pure, enys_pure, valC_pure, exC_pure, tyC_pure, r_int_u8_pure, r_st_GInst_pure, r_sl_st_GInst_pure, r_st_GMiss_pure])⟩, (fun _ h => by cases h)⟩⟩) ((fun _ h => by cases h)) rfl rfl (fun _ h => by cases h) (r_st_GInst_pure _ _) ?_
  refine AW.seq ?_
  refine AW.region (M := fun _ => true) ?_
  refine AL.v good (d := 26) (v := .sl (.own 0) 7 (r_st_GInst q3)) rfl rfl rfl rfl ?_
  refine AL.v good (d := 27) (v := .int .i64 (IntKind.i64.wrap ((IntKind.i64.wrap ((IntKind.i64.wrap ((a0.length : Int) + 1)) + (a1.length : Int))) + 1))) rfl rfl rfl rfl ?_
  refine AL.v good (d := 28) (v := .sl .ro 7 (r_st_GInst a2)) rfl rfl rfl rfl ?_
  refine AL.ln good (d := 29) (m := a2.length) rfl rfl rfl rfl rfl rfl (r_st_GInst_length _) ?_
  refine AL.v good (d := 30) (v := .int .i64 (IntKind.i64.wrap ((IntKind.i64.wrap ((IntKind.i64.wrap ((IntKind.i64.wrap ((a0.length : Int) + 1)) + (a1.length : Int))) + 1)) + (a2.length : Int)))) rfl rfl rfl rfl ?_
  refine AL.cw good (d := 31) (xs := [.str ⟨#[106, 109, 112]⟩, .int .i64 (IntKind.i64.wrap ((IntKind.i64.wrap ((IntKind.i64.wrap ((IntKind.i64.wrap ((a0.length : Int) + 1)) + (a1.length : Int))) + 1)) + (a2.length : Int)))]) (res := .agg [.str ⟨#[106, 109, 112]⟩, .int .i64 0, .int .i64 0, .bool false, .str ⟨#[]⟩, .sl .ro 5 (encs []), .int .i64 (IntKind.i64.wrap ((IntKind.i64.wrap ((IntKind.i64.wrap ((IntKind.i64.wrap ((a0.length : Int) + 1)) + (a1.length : Int))) + 1)) + (a2.length : Int)))]) rfl rfl rfl rfl rfl rfl rfl (w_f86 ⟨#[106, 109, 112]⟩ (IntKind.i64.wrap ((IntKind.i64.wrap ((IntKind.i64.wrap ((IntKind.i64.wrap ((a0.length : Int) + 1)) + (a1.length : Int))) + 1)) + (a2.length : Int)))) ⟨(Wv.refl _), (Wv.refl _), trivial⟩ (by simp [pureA, pureL, pureR, inA, inL, inR, inO, idsIn, encs_pure, enxs_pure, enys_pure, valC_pure, exC_pure, tyC_pure, r_int_u8_pure, r_st_GInst_pure, r_sl_st_GInst_pure, r_st_GMiss_pure]) ?_
  refine AL.lit good (d := 32) (rows := [[.str ⟨#[106, 109, 112]⟩, .int .i64 0, .int .i64 0, .bool false, .str ⟨#[]⟩, .sl .ro 5 (encs []), .int .i64 (IntKind.i64.wrap ((IntKind.i64.wrap ((IntKind.i64.wrap ((IntKind.i64.wrap ((a0.length : Int) + 1)) + (a1.length : Int))) + 1)) + (a2.length : Int)))]]) rfl rfl rfl rfl rfl rfl rfl rfl rfl 3 rfl ?_
  obtain ⟨h5, hr⟩ := grd hr
  refine AL.aw2 good (d := 33) (rows := r_st_GInst q3) (news := [[.str (((GInst.mk ⟨#[106, 109, 112]⟩ (Val.mk 0 0 false ⟨#[]⟩ []) (IntKind.i64.wrap ((IntKind.i64.wrap ((IntKind.i64.wrap ((IntKind.i64.wrap ((a0.length : Int) + 1)) + (a1.length : Int))) + 1)) + (a2.length : Int))))).f0), .int .i64 ((((GInst.mk ⟨#[106, 109, 112]⟩ (Val.mk 0 0 false ⟨#[]⟩ []) (IntKind.i64.wrap ((IntKind.i64.wrap ((IntKind.i64.wrap ((IntKind.i64.wrap ((a0.length : Int) + 1)) + (a1.length : Int))) + 1)) + (a2.length : Int))))).f1).kind), .int .i64 ((((GInst.mk ⟨#[106, 109, 112]⟩ (Val.mk 0 0 false ⟨#[]⟩ []) (IntKind.i64.wrap ((IntKind.i64.wrap ((IntKind.i64.wrap ((IntKind.i64.wrap ((a0.length : Int) + 1)) + (a1.length : Int))) + 1)) + (a2.length : Int))))).f1).i), .bool ((((GInst.mk ⟨#[106, 109, 112]⟩ (Val.mk 0 0 false ⟨#[]⟩ []) (IntKind.i64.wrap ((IntKind.i64.wrap ((IntKind.i64.wrap ((IntKind.i64.wrap ((a0.length : Int) + 1)) + (a1.length : Int))) + 1)) + (a2.length : Int))))).f1).b), .str ((((GInst.mk ⟨#[106, 109, 112]⟩ (Val.mk 0 0 false ⟨#[]⟩ []) (IntKind.i64.wrap ((IntKind.i64.wrap ((IntKind.i64.wrap ((IntKind.i64.wrap ((a0.length : Int) + 1)) + (a1.length : Int))) + 1)) + (a2.length : Int))))).f1).s), .sl .ro 5 (encs ((((GInst.mk ⟨#[106, 109, 112]⟩ (Val.mk 0 0 false ⟨#[]⟩ []) (IntKind.i64.wrap ((IntKind.i64.wrap ((IntKind.i64.wrap ((IntKind.i64.wrap ((a0.length : Int) + 1)) + (a1.length : Int))) + 1)) + (a2.length : Int))))).f1).t)), .int .i64 (((GInst.mk ⟨#[106, 109, 112]⟩ (Val.mk 0 0 false ⟨#[]⟩ []) (IntKind.i64.wrap ((IntKind.i64.wrap ((IntKind.i64.wrap ((IntKind.i64.wrap ((a0.length : Int) + 1)) + (a1.length : Int))) + 1)) + (a2.length : Int))))).f2)]]) (rows2 := r_st_GInst (q3 ++ [(GInst.mk ⟨#[106, 109, 112]⟩ (Val.mk 0 0 false ⟨#[]⟩ []) (IntKind.i64.wrap ((IntKind.i64.wrap ((IntKind.i64.wrap ((IntKind.i64.wrap ((a0.length : Int) + 1)) + (a1.length : Int))) + 1)) + (a2.length : Int))))])) rfl rfl rfl rfl rfl rfl rfl rfl rfl (by simp) rfl rfl rfl ⟨⟨Wv.refl _, Wv.refl _, Wv.refl _, Wv.refl _, Wv.refl _, Wv.refl _, Wv.refl _, trivial⟩, trivial⟩ (by simp [r_st_GInst, rowF]) (by rw [r_st_GInst_length, List.length_append]; exact h5) rfl ?_
  refine AL.v good (d := 8) (v := .sl (.own 0) 7 (r_st_GInst (q3 ++ [(GInst.mk ⟨#[106, 109, 112]⟩ (Val.mk 0 0 false ⟨#[]⟩ []) (IntKind.i64.wrap ((IntKind.i64.wrap ((IntKind.i64.wrap ((IntKind.i64.wrap ((a0.length : Int) + 1)) + (a1.length : Int))) + 1)) + (a2.length : Int))))]))) rfl rfl rfl rfl ?_
  refine AW.seq ?_
  refine AW.region (M := fun _ => true) ?_
  refine AL.v good (d := 34) (v := .sl (.own 0) 7 (r_st_GInst (q3 ++ [(GInst.mk ⟨#[106, 109, 112]⟩ (Val.mk 0 0 false ⟨#[]⟩ []) (IntKind.i64.wrap ((IntKind.i64.wrap ((IntKind.i64.wrap ((IntKind.i64.wrap ((a0.length : Int) + 1)) + (a1.length : Int))) + 1)) + (a2.length : Int))))]))) rfl rfl rfl rfl ?_
  refine AL.v good (d := 35) (v := .sl .ro 7 (r_st_GInst a2)) rfl rfl rfl rfl ?_
  obtain ⟨q6, h7, hr⟩ := bnd1 hr
  refine AL.clF good (d := 36) (xs := [.sl .ro 7 (r_st_GInst (q3 ++ [(GInst.mk ⟨#[106, 109, 112]⟩ (Val.mk 0 0 false ⟨#[]⟩ []) (IntKind.i64.wrap ((IntKind.i64.wrap ((IntKind.i64.wrap ((IntKind.i64.wrap ((a0.length : Int) + 1)) + (a1.length : Int))) + 1)) + (a2.length : Int))))])), .sl .ro 7 (r_st_GInst a2)]) (ob := .row 132 7 (r_st_GInst q6).length) (res := .sl (.own 4) 7 (r_st_GInst q6)) rfl rfl rfl rfl rfl rfl rfl 4 rfl (w_f89 _ _ _ _ h7 4) ⟨⟨.inr rfl, WvR.refl _, .inl rfl⟩, (Wv.refl _), trivial⟩ rfl ColN.no ?_
  refine AL.v good (d := 6) (v := .sl (.own 4) 7 (r_st_GInst q6)) rfl rfl rfl rfl ?_
  refine AW.ret ?_
  obtain rfl := Option.some.inj hr
  exact RetN.w good (.inr rfl) rfl rfl (WvR.refl _) rfl

mutual
def s_f52 : Nat → Ex → Option (List GInst)
  | 0, _ => none
  | n + 1, a0 => (bif (a0.op.data.toList == [108, 105, 116]) then some [(GInst.mk ⟨#[112, 117, 115, 104]⟩ a0.v 0)] else (bif (a0.op.data.toList == [120]) then some [(GInst.mk ⟨#[120]⟩ (Val.mk 0 0 false ⟨#[]⟩ []) 0)] else (bif (a0.op.data.toList == [97, 110, 100]) then ((a0.a[0]?).bind fun x4 => ((s_f52 n x4).bind fun q6 => ((a0.a[1]?).bind fun x8 => ((s_f52 n x8).bind fun q10 => ((s_f87 n q6 q10 [(GInst.mk ⟨#[112, 117, 115, 104]⟩ (Val.mk 2 0 false ⟨#[]⟩ []) 0)]).bind fun q12 => some q12))))) else (bif (a0.op.data.toList == [111, 114]) then ((a0.a[0]?).bind fun x15 => ((s_f52 n x15).bind fun q17 => ((a0.a[1]?).bind fun x19 => ((s_f52 n x19).bind fun q21 => ((s_f87 n q17 [(GInst.mk ⟨#[112, 117, 115, 104]⟩ (Val.mk 2 0 true ⟨#[]⟩ []) 0)] q21).bind fun q23 => some q23))))) else (bif (a0.op.data.toList == [105, 102]) then ((a0.a[0]?).bind fun x26 => ((s_f52 n x26).bind fun q28 => ((a0.a[1]?).bind fun x30 => ((s_f52 n x30).bind fun q32 => ((a0.a[2]?).bind fun x34 => ((s_f52 n x34).bind fun q36 => ((s_f87 n q28 q32 q36).bind fun q38 => some q38))))))) else (s_f52_l1 n a0 [] 0))))))
def s_f52_l1 : Nat → Ex → (List GInst) → Nat → Option (List GInst)
  | 0, _, _, _ => none
  | n + 1, a0, v1_1, v1_2 => (bif (decide ((v1_2 : Int) < (a0.a.length : Int))) then ((a0.a[v1_2]?).bind fun x50 => ((s_f52 n x50).bind fun q52 => ((s_f89 n v1_1 q52).bind fun q54 => (s_f52_l1 n a0 q54 (v1_2 + 1))))) else (bif (a0.op.data.toList == [97, 116]) then (if v1_1.length + 1 ≤ 1000000 then some (v1_1 ++ [(GInst.mk ⟨#[97, 116]⟩ (Val.mk 0 0 false ⟨#[]⟩ []) a0.n)]) else none) else (bif (a0.op.data.toList == [116, 117, 112]) then (if v1_1.length + 1 ≤ 1000000 then some (v1_1 ++ [(GInst.mk ⟨#[116, 117, 112]⟩ (Val.mk 0 0 false ⟨#[]⟩ []) (a0.a.length : Int))]) else none) else (if v1_1.length + 1 ≤ 1000000 then some (v1_1 ++ [(GInst.mk a0.op (Val.mk 0 0 false ⟨#[]⟩ []) 0)]) else none))))
end

theorem w_f52_a (n : Nat) (ih : ∀ (m : Nat) (a0 : Ex) (r : List GInst), s_f52 m a0 = some r → m < n → ∀ id, ACallN Try.prog 52 [.agg (exC a0)] id (.row 132 7 (r_st_GInst r).length) (.sl (.own id) 7 (r_st_GInst r))) (a0 : Ex) (r : List GInst) (hr : s_f52 n a0 = some r) (id : Nat) : ACallN Try.prog 52 [.agg (exC a0)] id (.row 132 7 (r_st_GInst r).length) (.sl (.own id) 7 (r_st_GInst r)) := by
  refine ACallN.go (rows := r_st_GInst r) [(0, .agg (exC a0))] Try.func52 rfl Try.ntmps52 rfl rfl (by simp [pureA, pureL, pureR, inA, inL, inR, inO, idsIn, encs_pure, enxs_pure, enys_pure, valC_pure, exC_pure, tyC_pure, r_int_u8_pure, r_st_GInst_pure, r_sl_st_GInst_pure, r_st_GMiss_pure]) (by simp [pureA, pureL, pureR, inA, inL, inR, inO, idsIn, encs_pure, enxs_pure, enys_pure, valC_pure, exC_pure, tyC_pure, r_int_u8_pure, r_st_GInst_pure, r_sl_st_GInst_pure, r_st_GMiss_pure]) ?_ id
  cases n with
  | zero => rw [s_f52] at hr; cases hr
  | succ n =>
    rw [s_f52] at hr
    refine AW.seq ?_
    refine AW.region (M := fun _ => true) ?_
    refine AL.bx good (d := 1) (l := [.str a0.op, .int .i64 a0.v.kind, .int .i64 a0.v.i, .bool a0.v.b, .str a0.v.s, .sl .ro 5 (encs a0.v.t), .int .i64 a0.n, .sl .ro 8 (enxs a0.a)]) rfl rfl rfl rfl rfl rfl 0 rfl ?_
    refine AL.v good (d := 2) (v := .sl .nil 0 []) rfl rfl rfl rfl ?_
    refine AW.seq ?_
    refine AW.seq ?_
    refine AW.region (M := fun _ => true) ?_
    refine AL.v good (d := 5) (v := .ptr 0 0) rfl rfl rfl rfl ?_
    refine AL.v good (d := 6) (v := .str a0.op) rfl rfl rfl rfl ?_
    refine AW.block ?_
    refine AW.seq ?_
    refine AW.region (M := fun _ => true) ?_
    refine AL.sb good (d := 8) (b := (a0.op.data.toList == [108, 105, 116])) rfl rfl rfl rfl rfl rfl rfl ?_
    refine AL.v good (d := 7) (v := .bool (a0.op.data.toList == [108, 105, 116])) rfl rfl rfl rfl ?_
    refine AW.if rfl (fun h1 => ?_) (fun h1 => ?_)
    · replace hr := cnd_t h1 hr
      refine AW.seq ?_
      refine AW.region (M := fun _ => true) ?_
      refine AL.v good (d := 9) (v := .ptr 0 1) rfl rfl rfl rfl ?_
      refine AL.v good (d := 10) (v := .agg [.int .i64 a0.v.kind, .int .i64 a0.v.i, .bool a0.v.b, .str a0.v.s, .sl .ro 5 (encs a0.v.t)]) rfl rfl rfl rfl ?_
      refine AL.bld good (d := 11) (l := [.str ⟨#[112, 117, 115, 104]⟩, .int .i64 a0.v.kind, .int .i64 a0.v.i, .bool a0.v.b, .str a0.v.s, .sl .ro 5 (encs a0.v.t), .int .i64 0]) rfl rfl rfl rfl rfl rfl rfl ?_
      refine AL.lit good (d := 12) (rows := [[.str ⟨#[112, 117, 115, 104]⟩, .int .i64 a0.v.kind, .int .i64 a0.v.i, .bool a0.v.b, .str a0.v.s, .sl .ro 5 (encs a0.v.t), .int .i64 0]]) rfl rfl rfl rfl rfl rfl rfl rfl rfl 1 rfl ?_
      refine AL.v good (d := 2) (v := .sl (.own 1) 7 [[.str ⟨#[112, 117, 115, 104]⟩, .int .i64 a0.v.kind, .int .i64 a0.v.i, .bool a0.v.b, .str a0.v.s, .sl .ro 5 (encs a0.v.t), .int .i64 0]]) rfl rfl rfl rfl ?_
      refine AW.ret ?_
      obtain rfl := Option.some.inj hr
      exact RetN.w good (.inr rfl) rfl rfl (⟨⟨Wv.refl _, Wv.refl _, Wv.refl _, Wv.refl _, Wv.refl _, Wv.refl _, Wv.refl _, trivial⟩, trivial⟩) rfl
    · replace hr := cnd_f h1 hr
      refine AW.seq ?_
      refine AW.region (M := fun _ => true) ?_
      refine AL.sb good (d := 14) (b := (a0.op.data.toList == [120])) rfl rfl rfl rfl rfl rfl rfl ?_
      refine AL.v good (d := 13) (v := .bool (a0.op.data.toList == [120])) rfl rfl rfl rfl ?_
      refine AW.if rfl (fun h2 => ?_) (fun h2 => ?_)
      · replace hr := cnd_t h2 hr
        refine AW.seq ?_
        refine AW.region (M := fun _ => true) ?_
        refine AL.cw good (d := 15) (xs := [.str ⟨#[120]⟩, .int .i64 0]) (res := .agg [.str ⟨#[120]⟩, .int .i64 0, .int .i64 0, .bool false, .str ⟨#[]⟩, .sl .ro 5 (encs []), .int .i64 0]) rfl rfl rfl rfl rfl rfl rfl (w_f86 ⟨#[120]⟩ 0) ⟨(Wv.refl _), (Wv.refl _), trivial⟩ (by simp [pureA, pureL, pureR, inA, inL, inR, inO, idsIn, encs_pure, enxs_pure, enys_pure, valC_pure, exC_pure, tyC_pure, r_int_u8_pure, r_st_GInst_pure, r_sl_st_GInst_pure, r_st_GMiss_pure]) ?_
        refine AL.lit good (d := 16) (rows := [[.str ⟨#[120]⟩, .int .i64 0, .int .i64 0, .bool false, .str ⟨#[]⟩, .sl .ro 5 (encs []), .int .i64 0]]) rfl rfl rfl rfl rfl rfl rfl rfl rfl 1 rfl ?_
        refine AL.v good (d := 2) (v := .sl (.own 1) 7 [[.str ⟨#[120]⟩, .int .i64 0, .int .i64 0, .bool false, .str ⟨#[]⟩, .sl .ro 5 (encs []), .int .i64 0]]) rfl rfl rfl rfl ?_
        refine AW.ret ?_
        obtain rfl := Option.some.inj hr
        exact RetN.w good (.inr rfl) rfl rfl (⟨⟨Wv.refl _, Wv.refl _, Wv.refl _, Wv.refl _, Wv.refl _, Wv.refl _, Wv.refl _, trivial⟩, trivial⟩) rfl
      · replace hr := cnd_f h2 hr
        refine AW.seq ?_
        refine AW.region (M := fun _ => true) ?_
        refine AL.sb good (d := 18) (b := (a0.op.data.toList == [97, 110, 100])) rfl rfl rfl rfl rfl rfl rfl ?_
        refine AL.v good (d := 17) (v := .bool (a0.op.data.toList == [97, 110, 100])) rfl rfl rfl rfl ?_
        refine AW.if rfl (fun h3 => ?_) (fun h3 => ?_)
        · replace hr := cnd_t h3 hr
          refine AW.seq ?_
          refine AW.drawc (M := fun i => ⟨Nat.beq i 4 || Nat.beq i 9 || Nat.beq i 12, bif Nat.beq i 1 then some { ids := [0] } else bif Nat.beq i 3 then some { ids := [] } else bif Nat.beq i 4 then some { ids := [1] } else bif Nat.beq i 6 then some { ids := [0] } else bif Nat.beq i 8 then some { ids := [] } else bif Nat.beq i 9 then some { ids := [2] } else bif Nat.beq i 11 then some { ids := [3] } else bif Nat.beq i 12 then some { ids := [4] } else none⟩) good.wide (by kernel_rfl) ?_
          refine AL.v (nc := ⟨rfl⟩) good (d := 19) (v := .ptr 0 7) rfl rfl rfl rfl ?_
          refine AL.vc good (d := 20) (v := .sl .ro 8 (enxs a0.a)) rfl rfl rfl rfl rfl rfl (List.forall_mem_cons.2 ⟨.head _, (fun _ h => by cases h)⟩) ?_
          obtain ⟨x4, h5, hr⟩ := bnd1 hr
          refine AL.ix (nc := ⟨rfl⟩) good (d := 21) (r := [.str x4.op, .int .i64 x4.v.kind, .int .i64 x4.v.i, .bool x4.v.b, .str x4.v.s, .sl .ro 5 (encs x4.v.t), .int .i64 x4.n, .sl .ro 8 (enxs x4.a)]) rfl rfl rfl rfl rfl rfl rfl (by decide) (enxs_get h5) ?_
          refine AL.vc good (d := 22) (v := .agg [.str x4.op, .int .i64 x4.v.kind, .int .i64 x4.v.i, .bool x4.v.b, .str x4.v.s, .sl .ro 5 (encs x4.v.t), .int .i64 x4.n, .sl .ro 8 (enxs x4.a)]) rfl rfl rfl rfl rfl rfl (fun _ h => by cases h) ?_
          obtain ⟨q6, h7, hr⟩ := bnd1 hr
          refine AL.clF good (d := 23) (xs := [.agg (exC x4)]) (ob := .row 132 7 (r_st_GInst q6).length) (res := .sl (.own 1) 7 (r_st_GInst q6)) rfl rfl rfl rfl rfl rfl rfl 1 rfl (ih _ _ _ h7 (by omega) 1) ⟨(Wv.refl _), trivial⟩ rfl (ColN.mk rfl rfl (fun _ h => by cases h) (List.forall_mem_cons.2 ⟨.head _, (fun _ h => by cases h)⟩) (fun _ h => by cases h)) ?_
          refine AL.v (nc := ⟨rfl⟩) good (d := 24) (v := .ptr 0 7) rfl rfl rfl rfl ?_
          refine AL.vc good (d := 25) (v := .sl .ro 8 (enxs a0.a)) rfl rfl rfl rfl rfl rfl (List.forall_mem_cons.2 ⟨.head _, (fun _ h => by cases h)⟩) ?_
          obtain ⟨x8, h9, hr⟩ := bnd1 hr
          refine AL.ix (nc := ⟨rfl⟩) good (d := 26) (r := [.str x8.op, .int .i64 x8.v.kind, .int .i64 x8.v.i, .bool x8.v.b, .str x8.v.s, .sl .ro 5 (encs x8.v.t), .int .i64 x8.n, .sl .ro 8 (enxs x8.a)]) rfl rfl rfl rfl rfl rfl rfl (by decide) (enxs_get h9) ?_
          refine AL.vc good (d := 27) (v := .agg [.str x8.op, .int .i64 x8.v.kind, .int .i64 x8.v.i, .bool x8.v.b, .str x8.v.s, .sl .ro 5 (encs x8.v.t), .int .i64 x8.n, .sl .ro 8 (enxs x8.a)]) rfl rfl rfl rfl rfl rfl (fun _ h => by cases h) ?_
          obtain ⟨q10, h11, hr⟩ := bnd1 hr
          refine AL.clF good (d := 28) (xs := [.agg (exC x8)]) (ob := .row 132 7 (r_st_GInst q10).length) (res := .sl (.own 2) 7 (r_st_GInst q10)) rfl rfl rfl rfl rfl rfl rfl 2 rfl (ih _ _ _ h11 (by omega) 2) ⟨(Wv.refl _), trivial⟩ rfl (ColN.mk rfl rfl (fun _ h => by cases h) (List.forall_mem_cons.2 ⟨.head _, (fun _ h => by cases h)⟩) (fun _ h => by cases h)) ?_
          refine AL.cw (nc := ⟨rfl⟩) good (d := 29) (xs := [.bool false]) (res := .agg [.str ⟨#[112, 117, 115, 104]⟩, .int .i64 2, .int .i64 0, .bool false, .str ⟨#[]⟩, .sl .ro 5 (encs []), .int .i64 0]) rfl rfl rfl rfl rfl rfl rfl (w_f88 false) ⟨(Wv.refl _), trivial⟩ (by simp [pureA, pureL, pureR, inA, inL, inR, inO, idsIn, encs_pure, enxs_pure, enys_pure, valC_pure, exC_pure, tyC_pure, r_int_u8_pure, r_st_GInst_pure, r_sl_st_GInst_pure, r_st_GMiss_pure]) ?_
          refine AL.litC good (d := 30) (rows := [[.str ⟨#[112, 117, 115, 104]⟩, .int .i64 2, .int .i64 0, .bool false, .str ⟨#[]⟩, .sl .ro 5 (encs []), .int .i64 0]]) rfl rfl rfl rfl rfl rfl rfl rfl rfl 3 rfl (ColN.mk rfl rfl (fun _ h => by cases h) (List.forall_mem_cons.2 ⟨.head _, (fun _ h => by cases h)⟩) (fun _ h => by cases h)) ?_
          obtain ⟨q12, h13, hr⟩ := bnd1 hr
          refine AL.clF good (d := 31) (xs := [.sl .ro 7 (r_st_GInst q6), .sl .ro 7 (r_st_GInst q10), .sl .ro 7 (r_st_GInst [(GInst.mk ⟨#[112, 117, 115, 104]⟩ (Val.mk 2 0 false ⟨#[]⟩ []) 0)])]) (ob := .row 132 7 (r_st_GInst q12).length) (res := .sl (.own 4) 7 (r_st_GInst q12)) rfl rfl rfl rfl rfl rfl rfl 4 rfl (w_f87 _ _ _ _ _ h13 4) ⟨⟨.inr rfl, WvR.refl _, .inl rfl⟩, ⟨.inr rfl, WvR.refl _, .inl rfl⟩, ⟨.inr rfl, ⟨⟨Wv.refl _, Wv.refl _, Wv.refl _, Wv.refl _, Wv.refl _, Wv.refl _, Wv.refl _, trivial⟩, trivial⟩, .inl rfl⟩, trivial⟩ rfl (ColN.mk rfl rfl (fun _ h => by cases h) (List.forall_mem_cons.2 ⟨.head _, (fun _ h => by cases h)⟩) (fun _ h => by cases h)) ?_
          refine AL.v (nc := ⟨rfl⟩) good (d := 2) (v := .sl (.own 4) 7 (r_st_GInst q12)) rfl rfl rfl rfl ?_
          refine AW.ret ?_
          obtain rfl := Option.some.inj hr
          exact RetN.w good (.inr rfl) rfl rfl (WvR.refl _) rfl
        · replace hr := cnd_f h3 hr
          refine AW.seq ?_
          refine AW.region (M := fun _ => true) ?_
          refine AL.sb good (d := 33) (b := (a0.op.data.toList == [111, 114])) rfl rfl rfl rfl rfl rfl rfl ?_
          refine AL.v good (d := 32) (v := .bool (a0.op.data.toList == [111, 114])) rfl rfl rfl rfl ?_
          refine AW.if rfl (fun h14 => ?_) (fun h14 => ?_)
          · replace hr := cnd_t h14 hr
            refine AW.seq ?_
            refine AW.drawc (M := fun i => ⟨Nat.beq i 4 || Nat.beq i 11 || Nat.beq i 12, bif Nat.beq i 1 then some { ids := [0] } else bif Nat.beq i 3 then some { ids := [] } else bif Nat.beq i 4 then some { ids := [1] } else bif Nat.beq i 6 then some { ids := [2] } else bif Nat.beq i 8 then some { ids := [0] } else bif Nat.beq i 10 then some { ids := [] } else bif Nat.beq i 11 then some { ids := [3] } else bif Nat.beq i 12 then some { ids := [4] } else none⟩) good.wide (by kernel_rfl) ?_
            refine AL.v (nc := ⟨rfl⟩) good (d := 34) (v := .ptr 0 7) rfl rfl rfl rfl ?_
            refine AL.vc good (d := 35) (v := .sl .ro 8 (enxs a0.a)) rfl rfl rfl rfl rfl rfl (List.forall_mem_cons.2 ⟨.head _, (fun _ h => by cases h)⟩) ?_
            obtain ⟨x15, h16, hr⟩ := bnd1 hr
            refine AL.ix (nc := ⟨rfl⟩) good (d := 36) (r := [.str x15.op, .int .i64 x15.v.kind, .int .i64 x15.v.i, .bool x15.v.b, .str x15.v.s, .sl .ro 5 (encs x15.v.t), .int .i64 x15.n, .sl .ro 8 (enxs x15.a)]) rfl rfl rfl rfl rfl rfl rfl (by decide) (enxs_get h16) ?_
            refine AL.vc good (d := 37) (v := .agg [.str x15.op, .int .i64 x15.v.kind, .int .i64 x15.v.i, .bool x15.v.b, .str x15.v.s, .sl .ro 5 (encs x15.v.t), .int .i64 x15.n, .sl .ro 8 (enxs x15.a)]) rfl rfl rfl rfl rfl rfl (fun _ h => by cases h) ?_
            obtain ⟨q17, h18, hr⟩ := bnd1 hr
            refine AL.clF good (d := 38) (xs := [.agg (exC x15)]) (ob := .row 132 7 (r_st_GInst q17).length) (res := .sl (.own 1) 7 (r_st_GInst q17)) rfl rfl rfl rfl rfl rfl rfl 1 rfl (ih _ _ _ h18 (by omega) 1) ⟨(Wv.refl _), trivial⟩ rfl (ColN.mk rfl rfl (fun _ h => by cases h) (List.forall_mem_cons.2 ⟨.head _, (fun _ h => by cases h)⟩) (fun _ h => by cases h)) ?_
            refine AL.cw (nc := ⟨rfl⟩) good (d := 39) (xs := [.bool true]) (res := .agg [.str ⟨#[112, 117, 115, 104]⟩, .int .i64 2, .int .i64 0, .bool true, .str ⟨#[]⟩, .sl .ro 5 (encs []), .int .i64 0]) rfl rfl rfl rfl rfl rfl rfl (w_f88 true) ⟨(Wv.refl _), trivial⟩ (by simp [pureA, pureL, pureR, inA, inL, inR, inO, idsIn, encs_pure, enxs_pure, enys_pure, valC_pure, exC_pure, tyC_pure, r_int_u8_pure, r_st_GInst_pure, r_sl_st_GInst_pure, r_st_GMiss_pure]) ?_
            refine AL.litC good (d := 40) (rows := [[.str ⟨#[112, 117, 115, 104]⟩, .int .i64 2, .int .i64 0, .bool true, .str ⟨#[]⟩, .sl .ro 5 (encs []), .int .i64 0]]) rfl rfl rfl rfl rfl rfl rfl rfl rfl 2 rfl (ColN.mk rfl rfl (fun _ h => by cases h) (List.forall_mem_cons.2 ⟨.head _, (fun _ h => by cases h)⟩) (fun _ h => by cases h)) ?_
            refine AL.v (nc := ⟨rfl⟩) good (d := 41) (v := .ptr 0 7) rfl rfl rfl rfl ?_
            refine AL.vc good (d := 42) (v := .sl .ro 8 (enxs a0.a)) rfl rfl rfl rfl rfl rfl (List.forall_mem_cons.2 ⟨.head _, (fun _ h => by cases h)⟩) ?_
            obtain ⟨x19, h20, hr⟩ := bnd1 hr
            refine AL.ix (nc := ⟨rfl⟩) good (d := 43) (r := [.str x19.op, .int .i64 x19.v.kind, .int .i64 x19.v.i, .bool x19.v.b, .str x19.v.s, .sl .ro 5 (encs x19.v.t), .int .i64 x19.n, .sl .ro 8 (enxs x19.a)]) rfl rfl rfl rfl rfl rfl rfl (by decide) (enxs_get h20) ?_
            refine AL.vc good (d := 44) (v := .agg [.str x19.op, .int .i64 x19.v.kind, .int .i64 x19.v.i, .bool x19.v.b, .str x19.v.s, .sl .ro 5 (encs x19.v.t), .int .i64 x19.n, .sl .ro 8 (enxs x19.a)]) rfl rfl rfl rfl rfl rfl (fun _ h => by cases h) ?_
            obtain ⟨q21, h22, hr⟩ := bnd1 hr
            refine AL.clF good (d := 45) (xs := [.agg (exC x19)]) (ob := .row 132 7 (r_st_GInst q21).length) (res := .sl (.own 3) 7 (r_st_GInst q21)) rfl rfl rfl rfl rfl rfl rfl 3 rfl (ih _ _ _ h22 (by omega) 3) ⟨(Wv.refl _), trivial⟩ rfl (ColN.mk rfl rfl (fun _ h => by cases h) (List.forall_mem_cons.2 ⟨.head _, (fun _ h => by cases h)⟩) (fun _ h => by cases h)) ?_
            obtain ⟨q23, h24, hr⟩ := bnd1 hr
            refine AL.clF good (d := 46) (xs := [.sl .ro 7 (r_st_GInst q17), .sl .ro 7 (r_st_GInst [(GInst.mk ⟨#[112, 117, 115, 104]⟩ (Val.mk 2 0 true ⟨#[]⟩ []) 0)]), .sl .ro 7 (r_st_GInst q21)]) (ob := .row 132 7 (r_st_GInst q23).length) (res := .sl (.own 4) 7 (r_st_GInst q23)) rfl rfl rfl rfl rfl rfl rfl 4 rfl (w_f87 _ _ _ _ _ h24 4) ⟨⟨.inr rfl, WvR.refl _, .inl rfl⟩, ⟨.inr rfl, ⟨⟨Wv.refl _, Wv.refl _, Wv.refl _, Wv.refl _, Wv.refl _, Wv.refl _, Wv.refl _, trivial⟩, trivial⟩, .inl rfl⟩, ⟨.inr rfl, WvR.refl _, .inl rfl⟩, trivial⟩ rfl (ColN.mk rfl rfl (fun _ h => by cases h) (List.forall_mem_cons.2 ⟨.head _, (fun _ h => by cases h)⟩) (fun _ h => by cases h)) ?_
            refine AL.v (nc := ⟨rfl⟩) good (d := 2) (v := .sl (.own 4) 7 (r_st_GInst q23)) rfl rfl rfl rfl ?_
            refine AW.ret ?_
            obtain rfl := Option.some.inj hr
            exact RetN.w good (.inr rfl) rfl rfl (WvR.refl _) rfl
          · replace hr := cnd_f h14 hr
            refine AW.seq ?_
            refine AW.region (M := fun _ => true) ?_
            refine AL.sb good (d := 48) (b := (a0.op.data.toList == [105, 102])) rfl rfl rfl rfl rfl rfl rfl ?_
            refine AL.v good (d := 47) (v := .bool (a0.op.data.toList == [105, 102])) rfl rfl rfl rfl ?_
            refine AW.if rfl (fun h25 => ?_) (fun h25 => ?_)
            · replace hr := cnd_t h25 hr
              refine AW.seq ?_
              refine AW.drawc (M := fun i => ⟨Nat.beq i 4 || Nat.beq i 9 || Nat.beq i 14 || Nat.beq i 15, bif Nat.beq i 1 then some { ids := [0] } else bif Nat.beq i 3 then some { ids := [] } else bif Nat.beq i 4 then some { ids := [1] } else bif Nat.beq i 6 then some { ids := [0] } else bif Nat.beq i 8 then some { ids := [] } else bif Nat.beq i 9 then some { ids := [2] } else bif Nat.beq i 11 then some { ids := [0] } else bif Nat.beq i 13 then some { ids := [] } else bif Nat.beq i 14 then some { ids := [3] } else bif Nat.beq i 15 then some { ids := [4] } else none⟩) good.wide (by kernel_rfl) ?_
              refine AL.v (nc := ⟨rfl⟩) good (d := 49) (v := .ptr 0 7) rfl rfl rfl rfl ?_
              refine AL.vc good (d := 50) (v := .sl .ro 8 (enxs a0.a)) rfl rfl rfl rfl rfl rfl (List.forall_mem_cons.2 ⟨.head _, (fun _ h => by cases h)⟩) ?_
              obtain ⟨x26, h27, hr⟩ := bnd1 hr
              refine AL.ix (nc := ⟨rfl⟩) good (d := 51) (r := [.str x26.op, .int .i64 x26.v.kind, .int .i64 x26.v.i, .bool x26.v.b, .str x26.v.s, .sl .ro 5 (encs x26.v.t), .int .i64 x26.n, .sl .ro 8 (enxs x26.a)]) rfl rfl rfl rfl rfl rfl rfl (by decide) (enxs_get h27) ?_
              refine AL.vc good (d := 52) (v := .agg [.str x26.op, .int .i64 x26.v.kind, .int .i64 x26.v.i, .bool x26.v.b, .str x26.v.s, .sl .ro 5 (encs x26.v.t), .int .i64 x26.n, .sl .ro 8 (enxs x26.a)]) rfl rfl rfl rfl rfl rfl (fun _ h => by cases h) ?_
              obtain ⟨q28, h29, hr⟩ := bnd1 hr
              refine AL.clF good (d := 53) (xs := [.agg (exC x26)]) (ob := .row 132 7 (r_st_GInst q28).length) (res := .sl (.own 1) 7 (r_st_GInst q28)) rfl rfl rfl rfl rfl rfl rfl 1 rfl (ih _ _ _ h29 (by omega) 1) ⟨(Wv.refl _), trivial⟩ rfl (ColN.mk rfl rfl (fun _ h => by cases h) (List.forall_mem_cons.2 ⟨.head _, (fun _ h => by cases h)⟩) (fun _ h => by cases h)) ?_
              refine AL.v (nc := ⟨rfl⟩) good (d := 54) (v := .ptr 0 7) rfl rfl rfl rfl ?_
              refine AL.vc good (d := 55) (v := .sl .ro 8 (enxs a0.a)) rfl rfl rfl rfl rfl rfl (List.forall_mem_cons.2 ⟨.head _, (fun _ h => by cases h)⟩) ?_
              obtain ⟨x30, h31, hr⟩ := bnd1 hr
              refine AL.ix (nc := ⟨rfl⟩) good (d := 56) (r := [.str x30.op, .int .i64 x30.v.kind, .int .i64 x30.v.i, .bool x30.v.b, .str x30.v.s, .sl .ro 5 (encs x30.v.t), .int .i64 x30.n, .sl .ro 8 (enxs x30.a)]) rfl rfl rfl rfl rfl rfl rfl (by decide) (enxs_get h31) ?_
              refine AL.vc good (d := 57) (v := .agg [.str x30.op, .int .i64 x30.v.kind, .int .i64 x30.v.i, .bool x30.v.b, .str x30.v.s, .sl .ro 5 (encs x30.v.t), .int .i64 x30.n, .sl .ro 8 (enxs x30.a)]) rfl rfl rfl rfl rfl rfl (fun _ h => by cases h) ?_
              obtain ⟨q32, h33, hr⟩ := bnd1 hr
              refine AL.clF good (d := 58) (xs := [.agg (exC x30)]) (ob := .row 132 7 (r_st_GInst q32).length) (res := .sl (.own 2) 7 (r_st_GInst q32)) rfl rfl rfl rfl rfl rfl rfl 2 rfl (ih _ _ _ h33 (by omega) 2) ⟨(Wv.refl _), trivial⟩ rfl (ColN.mk rfl rfl (fun _ h => by cases h) (List.forall_mem_cons.2 ⟨.head _, (fun _ h => by cases h)⟩) (fun _ h => by cases h)) ?_
              refine AL.v (nc := ⟨rfl⟩) good (d := 59) (v := .ptr 0 7) rfl rfl rfl rfl ?_
              refine AL.vc good (d := 60) (v := .sl .ro 8 (enxs a0.a)) rfl rfl rfl rfl rfl rfl (List.forall_mem_cons.2 ⟨.head _, (fun _ h => by cases h)⟩) ?_
              obtain ⟨x34, h35, hr⟩ := bnd1 hr
              refine AL.ix (nc := ⟨rfl⟩) good (d := 61) (r := [.str x34.op, .int .i64 x34.v.kind, .int .i64 x34.v.i, .bool x34.v.b, .str x34.v.s, .sl .ro 5 (encs x34.v.t), .int .i64 x34.n, .sl .ro 8 (enxs x34.a)]) rfl rfl rfl rfl rfl rfl rfl (by decide) (enxs_get h35) ?_
              refine AL.vc good (d := 62) (v := .agg [.str x34.op, .int .i64 x34.v.kind, .int .i64 x34.v.i, .bool x34.v.b, .str x34.v.s, .sl .ro 5 (encs x34.v.t), .int .i64 x34.n, .sl .ro 8 (enxs x34.a)]) rfl rfl rfl rfl rfl rfl (fun _ h => by cases h) ?_
              obtain ⟨q36, h37, hr⟩ := bnd1 hr
              refine AL.clF good (d := 63) (xs := [.agg (exC x34)]) (ob := .row 132 7 (r_st_GInst q36).length) (res := .sl (.own 3) 7 (r_st_GInst q36)) rfl rfl rfl rfl rfl rfl rfl 3 rfl (ih _ _ _ h37 (by omega) 3) ⟨(Wv.refl _), trivial⟩ rfl (ColN.mk rfl rfl (fun _ h => by cases h) (List.forall_mem_cons.2 ⟨.head _, (fun _ h => by cases h)⟩) (fun _ h => by cases h)) ?_
              obtain ⟨q38, h39, hr⟩ := bnd1 hr
              refine AL.clF good (d := 64) (xs := [.sl .ro 7 (r_st_GInst q28), .sl .ro 7 (r_st_GInst q32), .sl .ro 7 (r_st_GInst q36)]) (ob := .row 132 7 (r_st_GInst q38).length) (res := .sl (.own 4) 7 (r_st_GInst q38)) rfl rfl rfl rfl rfl rfl rfl 4 rfl (w_f87 _ _ _ _ _ h39 4) ⟨⟨.inr rfl, WvR.refl _, .inl rfl⟩, ⟨.inr rfl, WvR.refl _, .inl rfl⟩, ⟨.inr rfl, WvR.refl _, .inl rfl⟩, trivial⟩ rfl (ColN.mk rfl rfl (fun _ h => by cases h) (List.forall_mem_cons.2 ⟨.head _, (fun _ h => by cases h)⟩) (fun _ h => by cases h)) ?_
              refine AL.v (nc := ⟨rfl⟩) good (d := 2) (v := .sl (.own 4) 7 (r_st_GInst q38)) rfl rfl rfl rfl ?_
              refine AW.ret ?_
              obtain rfl := Option.some.inj hr
              exact RetN.w good (.inr rfl) rfl rfl (WvR.refl _) rfl
            · replace hr := cnd_f h25 hr
              refine AW.skip ?_
              refine AW.seq ?_
              refine AW.region (M := fun _ => true) ?_
              refine AL.v good (d := 3) (v := .sl .nil 0 []) rfl rfl rfl rfl ?_
              refine AW.seq ?_
              refine AW.seq ?_
              refine AW.region (M := fun _ => true) ?_
              refine AL.v good (d := 4) (v := .int .i64 0) rfl rfl rfl rfl ?_
              refine AW.block ?_
              refine AW.adopt 3 rfl 1 7 132 rfl rfl ?_
              refine AW.lensB 0 rfl (fun hl48 => ?_)
              replace hl48 : a0.a.length ≤ 9223372036854775807 := by rw [← enxs_length a0.a]; exact hl48.2.2.2.2.2.2.2.1
              refine AW.lpw (fun x : Nat × (List GInst) × Nat => [(1, .ptr 0 0), (3, .sl (.own 1) 7 (r_st_GInst x.2.1)), (4, .int .i64 (x.2.2 : Int))]) (fun x => [(0, .box 36 [.str a0.op, .int .i64 a0.v.kind, .int .i64 a0.v.i, .bool a0.v.b, .str a0.v.s, .sl .ro 5 (encs a0.v.t), .int .i64 a0.n, .sl .ro 8 (enxs a0.a)]), (1, .row 132 7 (r_st_GInst x.2.1).length)]) (fun x => s_f52_l1 x.1 a0 x.2.1 x.2.2 = some r ∧ x.1 ≤ n) (fun x => x.1) (n, [], 0) ⟨(fun _ h => by cases h), List.forall_mem_cons.2 ⟨⟨⟨_, rfl, Wv.refl _⟩, (by simp [pureA, pureL, pureR, inA, inL, inR, inO, idsIn, encs_pure, enxs_pure, enys_pure, valC_pure, exC_pure, tyC_pure, r_int_u8_pure, r_st_GInst_pure, r_sl_st_GInst_pure, r_st_GMiss_pure])⟩, List.forall_mem_cons.2 ⟨⟨⟨_, rfl, Wv.refl _⟩, (by simp [pureA, pureL, pureR, inA, inL, inR, inO, idsIn, encs_pure, enxs_pure, enys_pure, valC_pure, exC_pure, tyC_pure, r_int_u8_pure, r_st_GInst_pure, r_sl_st_GInst_pure, r_st_GMiss_pure])⟩, List.forall_mem_cons.2 ⟨⟨⟨_, rfl, Wv.refl _⟩, (by simp [pureA, pureL, pureR, inA, inL, inR, inO, idsIn, encs_pure, enxs_pure, enys_pure, valC_pure, exC_pure, tyC_pure, r_int_u8_pure, r_st_GInst_pure, r_sl_st_GInst_pure, r_st_GMiss_pure])⟩, (fun _ h => by cases h)⟩⟩⟩, List.forall_mem_cons.2 ⟨⟨⟨_, rfl, ⟨rfl, ⟨Wv.refl _, Wv.refl _, Wv.refl _, Wv.refl _, Wv.refl _, Wv.refl _, Wv.refl _, Wv.refl _, trivial⟩⟩⟩, (by simp [pureA, pureL, pureR, inA, inL, inR, inO, idsIn, encs_pure, enxs_pure, enys_pure, valC_pure, exC_pure, tyC_pure, r_int_u8_pure, r_st_GInst_pure, r_sl_st_GInst_pure, r_st_GMiss_pure])⟩, List.forall_mem_cons.2 ⟨⟨⟨_, rfl, ⟨rfl, rfl, rfl⟩⟩, (by simp [pureA, pureL, pureR, inA, inL, inR, inO, idsIn, encs_pure, enxs_pure, enys_pure, valC_pure, exC_pure, tyC_pure, r_int_u8_pure, r_st_GInst_pure, r_sl_st_GInst_pure, r_st_GMiss_pure])⟩, (fun _ h => by cases h)⟩⟩⟩ ⟨hr, Nat.le_refl _⟩ (fun ⟨m, v1_1, v1_2⟩ hx => ?_)
              obtain ⟨hr, hm⟩ := hx
              try dsimp only at hr hm
              cases m with
              | zero => rw [s_f52_l1] at hr; cases hr
              | succ m =>
                rw [s_f52_l1] at hr
                show AW Try.prog _ _ _ (mkS 105 [(1, .ptr 0 0), (3, .sl (.own 1) 7 (r_st_GInst v1_1)), (4, .int .i64 (v1_2 : Int))] [(0, .box 36 [.str a0.op, .int .i64 a0.v.kind, .int .i64 a0.v.i, .bool a0.v.b, .str a0.v.s, .sl .ro 5 (encs a0.v.t), .int .i64 a0.n, .sl .ro 8 (enxs a0.a)]), (1, .row 132 7 (r_st_GInst v1_1).length)])
                refine AW.seq ?_
                refine AW.seq ?_
                refine AW.region (M := fun _ => true) ?_
                refine AL.v good (d := 65) (v := .int .i64 (v1_2 : Int)) rfl rfl rfl rfl ?_
                refine AL.v good (d := 66) (v := .ptr 0 7) rfl rfl rfl rfl ?_
                refine AL.v good (d := 67) (v := .sl .ro 8 (enxs a0.a)) rfl rfl rfl rfl ?_
                refine AL.ln good (d := 68) (m := a0.a.length) rfl rfl rfl rfl rfl rfl (enxs_length _) ?_
                refine AL.v good (d := 69) (v := .bool (decide ((v1_2 : Int) < (a0.a.length : Int)))) rfl rfl rfl rfl ?_
                refine AW.if rfl (fun h49 => ?_) (fun h49 => ?_)
                · replace hr := cnd_t h49 hr
                  refine AW.skip ?_
                  refine AW.seq ?_
                  refine AW.block ?_
                  refine AW.region (M := fun _ => true) ?_
                  refine AL.v good (d := 72) (v := .sl (.own 1) 7 (r_st_GInst v1_1)) rfl rfl rfl rfl ?_
                  refine AL.v good (d := 73) (v := .ptr 0 7) rfl rfl rfl rfl ?_
                  refine AL.v good (d := 74) (v := .sl .ro 8 (enxs a0.a)) rfl rfl rfl rfl ?_
                  refine AL.v good (d := 75) (v := .int .i64 (v1_2 : Int)) rfl rfl rfl rfl ?_
                  obtain ⟨x50, h51, hr⟩ := bnd1 hr
                  refine AL.ix good (d := 76) (r := [.str x50.op, .int .i64 x50.v.kind, .int .i64 x50.v.i, .bool x50.v.b, .str x50.v.s, .sl .ro 5 (encs x50.v.t), .int .i64 x50.n, .sl .ro 8 (enxs x50.a)]) rfl rfl rfl rfl rfl rfl rfl (Int.natCast_nonneg _) (enxs_get h51) ?_
                  refine AL.v good (d := 77) (v := .agg [.str x50.op, .int .i64 x50.v.kind, .int .i64 x50.v.i, .bool x50.v.b, .str x50.v.s, .sl .ro 5 (encs x50.v.t), .int .i64 x50.n, .sl .ro 8 (enxs x50.a)]) rfl rfl rfl rfl ?_
                  obtain ⟨q52, h53, hr⟩ := bnd1 hr
                  refine AL.clF good (d := 78) (xs := [.agg (exC x50)]) (ob := .row 132 7 (r_st_GInst q52).length) (res := .sl (.own 2) 7 (r_st_GInst q52)) rfl rfl rfl rfl rfl rfl rfl 2 rfl (ih _ _ _ h53 (by omega) 2) ⟨(Wv.refl _), trivial⟩ rfl ColN.no ?_
                  obtain ⟨q54, h55, hr⟩ := bnd1 hr
                  refine AL.clF good (d := 79) (xs := [.sl .ro 7 (r_st_GInst v1_1), .sl .ro 7 (r_st_GInst q52)]) (ob := .row 132 7 (r_st_GInst q54).length) (res := .sl (.own 3) 7 (r_st_GInst q54)) rfl rfl rfl rfl rfl rfl rfl 3 rfl (w_f89 _ _ _ _ h55 3) ⟨⟨.inr rfl, WvR.refl _, .inl rfl⟩, ⟨.inr rfl, WvR.refl _, .inl rfl⟩, trivial⟩ rfl ColN.no ?_
                  refine AL.v good (d := 3) (v := .sl (.own 3) 7 (r_st_GInst q54)) rfl rfl rfl rfl ?_
                  refine AW.ren 3 1 3 rfl rfl [(1, .ptr 0 0), (4, .int .i64 (v1_2 : Int))] [(0, .box 36 [.str a0.op, .int .i64 a0.v.kind, .int .i64 a0.v.i, .bool a0.v.b, .str a0.v.s, .sl .ro 5 (encs a0.v.t), .int .i64 a0.n, .sl .ro 8 (enxs a0.a)])] (List.forall_mem_cons.2 ⟨⟨rfl, (by simp [pureA, pureL, pureR, inA, inL, inR, inO, idsIn, encs_pure, enxs_pure, enys_pure, valC_pure, exC_pure, tyC_pure, r_int_u8_pure, r_st_GInst_pure, r_sl_st_GInst_pure, r_st_GMiss_pure])⟩, List.forall_mem_cons.2 ⟨⟨rfl, (by simp [pureA, pureL, pureR, inA, inL, inR, inO, idsIn, encs_pure, enxs_pure, enys_pure, valC_pure, exC_pure, tyC_pure, r_int_u8_pure, r_st_GInst_pure, r_sl_st_GInst_pure, r_st_GMiss_pure])⟩, (fun _ h => by cases h)⟩⟩) (List.forall_mem_cons.2 ⟨⟨rfl, (by simp [pureA, pureL, pureR, inA, inL, inR, inO, idsIn, encs_pure, enxs_pure, enys_pure, valC_pure, exC_pure, tyC_pure, r_int_u8_pure, r_st_GInst_pure, r_sl_st_GInst_pure, r_st_GMiss_pure])⟩, (fun _ h => by cases h)⟩) rfl rfl (fun _ h => by cases h) (r_st_GInst_pure _ _) ?_
                  refine AW.region (M := fun _ => true) ?_
                  refine AL.v good (d := 70) (v := .int .i64 (v1_2 : Int)) rfl rfl rfl rfl ?_
                  refine AL.v good (d := 71) (v := .int .i64 (IntKind.i64.wrap ((v1_2 : Int) + 1))) rfl rfl rfl rfl ?_
                  refine AL.v good (d := 4) (v := .int .i64 (IntKind.i64.wrap ((v1_2 : Int) + 1))) rfl rfl rfl rfl ?_
                  exact ⟨(m, q54, (v1_2 + 1)), _, _, rfl, ⟨(fun _ h => by cases h), List.forall_mem_cons.2 ⟨⟨⟨_, rfl, Wv.refl _⟩, (by simp [pureA, pureL, pureR, inA, inL, inR, inO, idsIn, encs_pure, enxs_pure, enys_pure, valC_pure, exC_pure, tyC_pure, r_int_u8_pure, r_st_GInst_pure, r_sl_st_GInst_pure, r_st_GMiss_pure])⟩, List.forall_mem_cons.2 ⟨⟨⟨_, rfl, Wv.refl _⟩, (by simp [pureA, pureL, pureR, inA, inL, inR, inO, idsIn, encs_pure, enxs_pure, enys_pure, valC_pure, exC_pure, tyC_pure, r_int_u8_pure, r_st_GInst_pure, r_sl_st_GInst_pure, r_st_GMiss_pure])⟩, List.forall_mem_cons.2 ⟨⟨⟨_, rfl, (wnx h49 hl48)⟩, (by simp [pureA, pureL, pureR, inA, inL, inR, inO, idsIn, encs_pure, enxs_pure, enys_pure, valC_pure, exC_pure, tyC_pure, r_int_u8_pure, r_st_GInst_pure, r_sl_st_GInst_pure, r_st_GMiss_pure])⟩, (fun _ h => by cases h)⟩⟩⟩, List.forall_mem_cons.2 ⟨⟨⟨_, rfl, ⟨rfl, ⟨Wv.refl _, Wv.refl _, Wv.refl _, Wv.refl _, Wv.refl _, Wv.refl _, Wv.refl _, Wv.refl _, trivial⟩⟩⟩, (by simp [pureA, pureL, pureR, inA, inL, inR, inO, idsIn, encs_pure, enxs_pure, enys_pure, valC_pure, exC_pure, tyC_pure, r_int_u8_pure, r_st_GInst_pure, r_sl_st_GInst_pure, r_st_GMiss_pure])⟩, List.forall_mem_cons.2 ⟨⟨⟨_, rfl, ⟨rfl, rfl, rfl⟩⟩, (by simp [pureA, pureL, pureR, inA, inL, inR, inO, idsIn, encs_pure, enxs_pure, enys_pure, valC_pure, exC_pure, tyC_pure, r_int_u8_pure, r_st_GInst_pure, r_sl_st_GInst_pure, r_st_GMiss_pure])⟩, (fun _ h => by cases h)⟩⟩⟩, ⟨hr, Nat.le_of_succ_le hm⟩, Nat.lt_succ_self _⟩
                · replace hr := cnd_f h49 hr
                  refine AW.exit ?_
                  refine AW.seq ?_
                  refine AW.seq ?_
                  refine AW.region (M := fun _ => true) ?_
                  refine AL.v good (d := 80) (v := .ptr 0 0) rfl rfl rfl rfl ?_
                  refine AL.v good (d := 81) (v := .str a0.op) rfl rfl rfl rfl ?_
                  refine AW.block ?_
                  refine AW.seq ?_
                  refine AW.region (M := fun _ => true) ?_
                  refine AL.sb good (d := 83) (b := (a0.op.data.toList == [97, 116])) rfl rfl rfl rfl rfl rfl rfl ?_
                  refine AL.v good (d := 82) (v := .bool (a0.op.data.toList == [97, 116])) rfl rfl rfl rfl ?_
                  refine AW.if rfl (fun h56 => ?_) (fun h56 => ?_)
                  · replace hr := cnd_t h56 hr
                    refine AW.seq ?_
                    refine AW.region (M := fun _ => true) ?_
                    refine AL.v good (d := 84) (v := .sl (.own 1) 7 (r_st_GInst v1_1)) rfl rfl rfl rfl ?_
                    refine AL.v good (d := 85) (v := .ptr 0 6) rfl rfl rfl rfl ?_
                    refine AL.v good (d := 86) (v := .int .i64 a0.n) rfl rfl rfl rfl ?_
                    refine AL.cw good (d := 87) (xs := [.str ⟨#[97, 116]⟩, .int .i64 a0.n]) (res := .agg [.str ⟨#[97, 116]⟩, .int .i64 0, .int .i64 0, .bool false, .str ⟨#[]⟩, .sl .ro 5 (encs []), .int .i64 a0.n]) rfl rfl rfl rfl rfl rfl rfl (w_f86 ⟨#[97, 116]⟩ a0.n) ⟨(Wv.refl _), (Wv.refl _), trivial⟩ (by simp [pureA, pureL, pureR, inA, inL, inR, inO, idsIn, encs_pure, enxs_pure, enys_pure, valC_pure, exC_pure, tyC_pure, r_int_u8_pure, r_st_GInst_pure, r_sl_st_GInst_pure, r_st_GMiss_pure]) ?_
                    refine AL.lit good (d := 88) (rows := [[.str ⟨#[97, 116]⟩, .int .i64 0, .int .i64 0, .bool false, .str ⟨#[]⟩, .sl .ro 5 (encs []), .int .i64 a0.n]]) rfl rfl rfl rfl rfl rfl rfl rfl rfl 2 rfl ?_
                    obtain ⟨h57, hr⟩ := grd hr
                    refine AL.aw2 good (d := 89) (rows := r_st_GInst v1_1) (news := [[.str (((GInst.mk ⟨#[97, 116]⟩ (Val.mk 0 0 false ⟨#[]⟩ []) a0.n)).f0), .int .i64 ((((GInst.mk ⟨#[97, 116]⟩ (Val.mk 0 0 false ⟨#[]⟩ []) a0.n)).f1).kind), .int .i64 ((((GInst.mk ⟨#[97, 116]⟩ (Val.mk 0 0 false ⟨#[]⟩ []) a0.n)).f1).i), .bool ((((GInst.mk ⟨#[97, 116]⟩ (Val.mk 0 0 false ⟨#[]⟩ []) a0.n)).f1).b), .str ((((GInst.mk ⟨#[97, 116]⟩ (Val.mk 0 0 false ⟨#[]⟩ []) a0.n)).f1).s), .sl .ro 5 (encs ((((GInst.mk ⟨#[97, 116]⟩ (Val.mk 0 0 false ⟨#[]⟩ []) a0.n)).f1).t)), .int .i64 (((GInst.mk ⟨#[97, 116]⟩ (Val.mk 0 0 false ⟨#[]⟩ []) a0.n)).f2)]]) (rows2 := r_st_GInst (v1_1 ++ [(GInst.mk ⟨#[97, 116]⟩ (Val.mk 0 0 false ⟨#[]⟩ []) a0.n)])) rfl rfl rfl rfl rfl rfl rfl rfl rfl (by simp) rfl rfl rfl ⟨⟨Wv.refl _, Wv.refl _, Wv.refl _, Wv.refl _, Wv.refl _, Wv.refl _, Wv.refl _, trivial⟩, trivial⟩ (by simp [r_st_GInst, rowF]) (by rw [r_st_GInst_length, List.length_append]; exact h57) rfl ?_
                    refine AL.v good (d := 2) (v := .sl (.own 1) 7 (r_st_GInst (v1_1 ++ [(GInst.mk ⟨#[97, 116]⟩ (Val.mk 0 0 false ⟨#[]⟩ []) a0.n)]))) rfl rfl rfl rfl ?_
                    refine AW.ret ?_
                    obtain rfl := Option.some.inj hr
                    exact RetN.w good (.inr rfl) rfl rfl (WvR.refl _) rfl
                  · replace hr := cnd_f h56 hr
                    refine AW.seq ?_
                    refine AW.region (M := fun _ => true) ?_
                    refine AL.sb good (d := 91) (b := (a0.op.data.toList == [116, 117, 112])) rfl rfl rfl rfl rfl rfl rfl ?_
                    refine AL.v good (d := 90) (v := .bool (a0.op.data.toList == [116, 117, 112])) rfl rfl rfl rfl ?_
                    refine AW.if rfl (fun h58 => ?_) (fun h58 => ?_)
                    · replace hr := cnd_t h58 hr
                      refine AW.seq ?_
                      refine AW.region (M := fun _ => true) ?_
                      refine AL.v good (d := 92) (v := .sl (.own 1) 7 (r_st_GInst v1_1)) rfl rfl rfl rfl ?_
                      refine AL.v good (d := 93) (v := .ptr 0 7) rfl rfl rfl rfl ?_
                      refine AL.v good (d := 94) (v := .sl .ro 8 (enxs a0.a)) rfl rfl rfl rfl ?_
                      refine AL.ln good (d := 95) (m := a0.a.length) rfl rfl rfl rfl rfl rfl (enxs_length _) ?_
                      refine AL.cw good (d := 96) (xs := [.str ⟨#[116, 117, 112]⟩, .int .i64 (a0.a.length : Int)]) (res := .agg [.str ⟨#[116, 117, 112]⟩, .int .i64 0, .int .i64 0, .bool false, .str ⟨#[]⟩, .sl .ro 5 (encs []), .int .i64 (a0.a.length : Int)]) rfl rfl rfl rfl rfl rfl rfl (w_f86 ⟨#[116, 117, 112]⟩ (a0.a.length : Int)) ⟨(Wv.refl _), (Wv.refl _), trivial⟩ (by simp [pureA, pureL, pureR, inA, inL, inR, inO, idsIn, encs_pure, enxs_pure, enys_pure, valC_pure, exC_pure, tyC_pure, r_int_u8_pure, r_st_GInst_pure, r_sl_st_GInst_pure, r_st_GMiss_pure]) ?_
                      refine AL.lit good (d := 97) (rows := [[.str ⟨#[116, 117, 112]⟩, .int .i64 0, .int .i64 0, .bool false, .str ⟨#[]⟩, .sl .ro 5 (encs []), .int .i64 (a0.a.length : Int)]]) rfl rfl rfl rfl rfl rfl rfl rfl rfl 2 rfl ?_
                      obtain ⟨h59, hr⟩ := grd hr
                      refine AL.aw2 good (d := 98) (rows := r_st_GInst v1_1) (news := [[.str (((GInst.mk ⟨#[116, 117, 112]⟩ (Val.mk 0 0 false ⟨#[]⟩ []) (a0.a.length : Int))).f0), .int .i64 ((((GInst.mk ⟨#[116, 117, 112]⟩ (Val.mk 0 0 false ⟨#[]⟩ []) (a0.a.length : Int))).f1).kind), .int .i64 ((((GInst.mk ⟨#[116, 117, 112]⟩ (Val.mk 0 0 false ⟨#[]⟩ []) (a0.a.length : Int))).f1).i), .bool ((((GInst.mk ⟨#[116, 117, 112]⟩ (Val.mk 0 0 false ⟨#[]⟩ []) (a0.a.length : Int))).f1).b), .str ((((GInst.mk ⟨#[116, 117, 112]⟩ (Val.mk 0 0 false ⟨#[]⟩ []) (a0.a.length : Int))).f1).s), .sl .ro 5 (encs ((((GInst.mk ⟨#[116, 117, 112]⟩ (Val.mk 0 0 false ⟨#[]⟩ []) (a0.a.length : Int))).f1).t)), .int .i64 (((GInst.mk ⟨#[116, 117, 112]⟩ (Val.mk 0 0 false ⟨#[]⟩ []) (a0.a.length : Int))).f2)]]) (rows2 := r_st_GInst (v1_1 ++ [(GInst.mk ⟨#[116, 117, 112]⟩ (Val.mk 0 0 false ⟨#[]⟩ []) (a0.a.length : Int))])) rfl rfl rfl rfl rfl rfl rfl rfl rfl (by simp) rfl rfl rfl ⟨⟨Wv.refl _, Wv.refl _, Wv.refl _, Wv.refl _, Wv.refl _, Wv.refl _, Wv.refl _, trivial⟩, trivial⟩ (by simp [r_st_GInst, rowF]) (by rw [r_st_GInst_length, List.length_append]; exact h59) rfl ?_
                      refine AL.v good (d := 2) (v := .sl (.own 1) 7 (r_st_GInst (v1_1 ++ [(GInst.mk ⟨#[116, 117, 112]⟩ (Val.mk 0 0 false ⟨#[]⟩ []) (a0.a.length : Int))]))) rfl rfl rfl rfl ?_
                      refine AW.ret ?_
                      obtain rfl := Option.some.inj hr
                      exact RetN.w good (.inr rfl) rfl rfl (WvR.refl _) rfl
                    · replace hr := cnd_f h58 hr
                      refine AW.skip ?_
                      refine AW.seq ?_
                      refine AW.region (M := fun _ => true) ?_
                      refine AL.v good (d := 99) (v := .sl (.own 1) 7 (r_st_GInst v1_1)) rfl rfl rfl rfl ?_
                      refine AL.v good (d := 100) (v := .ptr 0 0) rfl rfl rfl rfl ?_
                      refine AL.v good (d := 101) (v := .str a0.op) rfl rfl rfl rfl ?_
                      refine AL.cw good (d := 102) (xs := [.str a0.op, .int .i64 0]) (res := .agg [.str a0.op, .int .i64 0, .int .i64 0, .bool false, .str ⟨#[]⟩, .sl .ro 5 (encs []), .int .i64 0]) rfl rfl rfl rfl rfl rfl rfl (w_f86 a0.op 0) ⟨(Wv.refl _), (Wv.refl _), trivial⟩ (by simp [pureA, pureL, pureR, inA, inL, inR, inO, idsIn, encs_pure, enxs_pure, enys_pure, valC_pure, exC_pure, tyC_pure, r_int_u8_pure, r_st_GInst_pure, r_sl_st_GInst_pure, r_st_GMiss_pure]) ?_
                      refine AL.lit good (d := 103) (rows := [[.str a0.op, .int .i64 0, .int .i64 0, .bool false, .str ⟨#[]⟩, .sl .ro 5 (encs []), .int .i64 0]]) rfl rfl rfl rfl rfl rfl rfl rfl rfl 2 rfl ?_
                      obtain ⟨h60, hr⟩ := grd hr
                      refine AL.aw2 good (d := 104) (rows := r_st_GInst v1_1) (news := [[.str (((GInst.mk a0.op (Val.mk 0 0 false ⟨#[]⟩ []) 0)).f0), .int .i64 ((((GInst.mk a0.op (Val.mk 0 0 false ⟨#[]⟩ []) 0)).f1).kind), .int .i64 ((((GInst.mk a0.op (Val.mk 0 0 false ⟨#[]⟩ []) 0)).f1).i), .bool ((((GInst.mk a0.op (Val.mk 0 0 false ⟨#[]⟩ []) 0)).f1).b), .str ((((GInst.mk a0.op (Val.mk 0 0 false ⟨#[]⟩ []) 0)).f1).s), .sl .ro 5 (encs ((((GInst.mk a0.op (Val.mk 0 0 false ⟨#[]⟩ []) 0)).f1).t)), .int .i64 (((GInst.mk a0.op (Val.mk 0 0 false ⟨#[]⟩ []) 0)).f2)]]) (rows2 := r_st_GInst (v1_1 ++ [(GInst.mk a0.op (Val.mk 0 0 false ⟨#[]⟩ []) 0)])) rfl rfl rfl rfl rfl rfl rfl rfl rfl (by simp) rfl rfl rfl ⟨⟨Wv.refl _, Wv.refl _, Wv.refl _, Wv.refl _, Wv.refl _, Wv.refl _, Wv.refl _, trivial⟩, trivial⟩ (by simp [r_st_GInst, rowF]) (by rw [r_st_GInst_length, List.length_append]; exact h60) rfl ?_
                      refine AL.v good (d := 2) (v := .sl (.own 1) 7 (r_st_GInst (v1_1 ++ [(GInst.mk a0.op (Val.mk 0 0 false ⟨#[]⟩ []) 0)]))) rfl rfl rfl rfl ?_
                      refine AW.ret ?_
                      obtain rfl := Option.some.inj hr
                      exact RetN.w good (.inr rfl) rfl rfl (WvR.refl _) rfl
theorem w_f52 (n : Nat) : ∀ (a0 : Ex) (r : List GInst) (hr : s_f52 n a0 = some r) (id : Nat), ACallN Try.prog 52 [.agg (exC a0)] id (.row 132 7 (r_st_GInst r).length) (.sl (.own id) 7 (r_st_GInst r)) := by
  induction n using Nat.strongRecOn with
  | _ n ih =>
    intro a0 r hr id
    exact w_f52_a n (fun m a0 r h hm => ih m hm a0 r h) a0 r hr id

end Go.Proofs.Ytbcjcekoonebiaa.Tl

set_option linter.unusedVariables false
set_option linter.unusedSimpArgs false
namespace Go.Proofs.Ytbcjcekoonebiaa.Tl
open Go Go.RowKit
structure GOp where
  f0 : Int
  f1 : ByteArray
  f2 : Ty
  f3 : List Ex
  f4 : Ex
  f5 : Int
  f6 : Int

mutual
def s_f112 : Nat → Ty → Option Ty
  | 0, _ => none
  | n + 1, a0 => (s_f112_l1 n a0 0 [])
def s_f112_l1 : Nat → Ty → Nat → (List Ty) → Option Ty
  | 0, _, _, _ => none
  | n + 1, a0, v1_1, v1_2 => (bif (decide ((v1_1 : Int) < (a0.of.length : Int))) then ((a0.of[v1_1]?).bind fun x10 => ((s_f112 n x10).bind fun q12 => (if v1_2.length + 1 ≤ 1000000 then (s_f112_l1 n a0 (v1_1 + 1) (v1_2 ++ [q12])) else none))) else some (Ty.mk a0.kind v1_2))
end

theorem w_f112_a (n : Nat) (ih : ∀ (m : Nat) (a0 : Ty) (r : Ty), s_f112 m a0 = some r → m < n → ACall Try.prog 112 [.agg (tyC a0)] (.agg (tyC r))) (a0 : Ty) (r : Ty) (hr : s_f112 n a0 = some r) : ACall Try.prog 112 [.agg (tyC a0)] (.agg (tyC r)) := by
  refine ACall.go [(0, .agg (tyC a0))] Try.func112 rfl Try.ntmps112 rfl rfl (by simp [pureA, pureL, pureR, inA, inL, inR, inO, idsIn, encs_pure, enxs_pure, enys_pure, valC_pure, exC_pure, tyC_pure, r_int_u8_pure, r_st_GInst_pure, r_sl_st_GInst_pure, r_st_GMiss_pure]) ?_
  cases n with
  | zero => rw [s_f112] at hr; cases hr
  | succ n =>
    rw [s_f112] at hr
    refine AW.seq ?_
    refine AW.region (M := fun _ => true) ?_
    refine AL.bx good (d := 1) (l := [.int .i64 a0.kind, .sl .ro 2 (enys a0.of)]) rfl rfl rfl rfl rfl rfl 0 rfl ?_
    refine AL.alc good (d := 2) rfl rfl rfl rfl rfl 1 rfl ?_
    refine AW.seq ?_
    refine AW.region (M := fun _ => true) ?_
    refine AL.v good (d := 5) (v := .ptr 0 0) rfl rfl rfl rfl ?_
    refine AL.v good (d := 6) (v := .int .i64 a0.kind) rfl rfl rfl rfl ?_
    refine AL.bld good (d := 7) (l := [.int .i64 a0.kind, .sl .nil 0 []]) rfl rfl rfl rfl rfl rfl rfl ?_
    refine AL.alc good (d := 3) rfl rfl rfl rfl rfl 2 rfl ?_
    refine AL.st2 good (c2 := [.int .i64 a0.kind, .sl .nil 0 []]) rfl rfl rfl rfl rfl rfl rfl rfl rfl rfl rfl rfl ?_
    refine AW.seq ?_
    refine AW.seq ?_
    refine AW.region (M := fun _ => true) ?_
    refine AL.v good (d := 4) (v := .int .i64 0) rfl rfl rfl rfl ?_
    refine AW.block ?_
    refine AW.adoptB 2 rfl 1 rfl 3 2 40 rfl rfl ?_
    refine AW.lensB 0 rfl (fun hl8 => ?_)
    replace hl8 : a0.of.length ≤ 9223372036854775807 := by rw [← enys_length a0.of]; exact hl8.2.1
    refine AW.lpw (fun x : Nat × Nat × (List Ty) => [(1, .ptr 0 0), (2, .ptr 1 0), (3, .ptr 2 0), (4, .int .i64 (x.2.1 : Int))]) (fun x => [(0, .box 84 [.int .i64 a0.kind, .sl .ro 2 (enys a0.of)]), (1, .box 40 [.int .i64 0, .sl .nil 0 []]), (2, .box 40 [.int .i64 a0.kind, .sl (.own 3) 2 (enys x.2.2)]), (3, .row 40 2 (enys x.2.2).length)]) (fun x => s_f112_l1 x.1 a0 x.2.1 x.2.2 = some r ∧ x.1 ≤ n) (fun x => x.1) (n, 0, []) ⟨(fun _ h => by cases h), List.forall_mem_cons.2 ⟨⟨⟨_, rfl, Wv.refl _⟩, (by simp [pureA, pureL, pureR, inA, inL, inR, inO, idsIn, encs_pure, enxs_pure, enys_pure, valC_pure, exC_pure, tyC_pure, r_int_u8_pure, r_st_GInst_pure, r_sl_st_GInst_pure, r_st_GMiss_pure])⟩, List.forall_mem_cons.2 ⟨⟨⟨_, rfl, Wv.refl _⟩, (by simp [pureA, pureL, pureR, inA, inL, inR, inO, idsIn, encs_pure, enxs_pure, enys_pure, valC_pure, exC_pure, tyC_pure, r_int_u8_pure, r_st_GInst_pure, r_sl_st_GInst_pure, r_st_GMiss_pure])⟩, List.forall_mem_cons.2 ⟨⟨⟨_, rfl, Wv.refl _⟩, (by simp [pureA, pureL, pureR, inA, inL, inR, inO, idsIn, encs_pure, enxs_pure, enys_pure, valC_pure, exC_pure, tyC_pure, r_int_u8_pure, r_st_GInst_pure, r_sl_st_GInst_pure, r_st_GMiss_pure])⟩, List.forall_mem_cons.2 ⟨⟨⟨_, rfl, Wv.refl _⟩, (by simp [pureA, pureL, pureR, inA, inL, inR, inO, idsIn, encs_pure, enxs_pure, enys_pure, valC_pure, exC_pure, tyC_pure, r_int_u8_pure, r_st_GInst_pure, r_sl_st_GInst_pure, r_st_GMiss_pure])⟩, (fun _ h => by cases h)⟩⟩⟩⟩, List.forall_mem_cons.2 ⟨⟨⟨_, rfl, ⟨rfl, ⟨Wv.refl _, Wv.refl _, trivial⟩⟩⟩, (by simp [pureA, pureL, pureR, inA, inL, inR, inO, idsIn, encs_pure, enxs_pure, enys_pure, valC_pure, exC_pure, tyC_pure, r_int_u8_pure, r_st_GInst_pure, r_sl_st_GInst_pure, r_st_GMiss_pure])⟩, List.forall_mem_cons.2 ⟨⟨⟨_, rfl, ⟨rfl, ⟨Wv.refl _, Wv.refl _, trivial⟩⟩⟩, (by simp [pureA, pureL, pureR, inA, inL, inR, inO, idsIn, encs_pure, enxs_pure, enys_pure, valC_pure, exC_pure, tyC_pure, r_int_u8_pure, r_st_GInst_pure, r_sl_st_GInst_pure, r_st_GMiss_pure])⟩, List.forall_mem_cons.2 ⟨⟨⟨_, rfl, ⟨rfl, ⟨Wv.refl _, Wv.refl _, trivial⟩⟩⟩, (by simp [pureA, pureL, pureR, inA, inL, inR, inO, idsIn, encs_pure, enxs_pure, enys_pure, valC_pure, exC_pure, tyC_pure, r_int_u8_pure, r_st_GInst_pure, r_sl_st_GInst_pure, r_st_GMiss_pure])⟩, List.forall_mem_cons.2 ⟨⟨⟨_, rfl, ⟨rfl, rfl, rfl⟩⟩, (by simp [pureA, pureL, pureR, inA, inL, inR, inO, idsIn, encs_pure, enxs_pure, enys_pure, valC_pure, exC_pure, tyC_pure, r_int_u8_pure, r_st_GInst_pure, r_sl_st_GInst_pure, r_st_GMiss_pure])⟩, (fun _ h => by cases h)⟩⟩⟩⟩⟩ ⟨hr, Nat.le_refl _⟩ (fun ⟨m, v1_1, v1_2⟩ hx => ?_)
    obtain ⟨hr, hm⟩ := hx
    try dsimp only at hr hm
    cases m with
    | zero => rw [s_f112_l1] at hr; cases hr
    | succ m =>
      rw [s_f112_l1] at hr
      show AW Try.prog _ _ _ (mkS 27 [(1, .ptr 0 0), (2, .ptr 1 0), (3, .ptr 2 0), (4, .int .i64 (v1_1 : Int))] [(0, .box 84 [.int .i64 a0.kind, .sl .ro 2 (enys a0.of)]), (1, .box 40 [.int .i64 0, .sl .nil 0 []]), (2, .box 40 [.int .i64 a0.kind, .sl (.own 3) 2 (enys v1_2)]), (3, .row 40 2 (enys v1_2).length)])
      refine AW.seq ?_
      refine AW.seq ?_
      refine AW.region (M := fun _ => true) ?_
      refine AL.v good (d := 8) (v := .int .i64 (v1_1 : Int)) rfl rfl rfl rfl ?_
      refine AL.v good (d := 9) (v := .ptr 0 1) rfl rfl rfl rfl ?_
      refine AL.v good (d := 10) (v := .sl .ro 2 (enys a0.of)) rfl rfl rfl rfl ?_
      refine AL.ln good (d := 11) (m := a0.of.length) rfl rfl rfl rfl rfl rfl (enys_length _) ?_
      refine AL.v good (d := 12) (v := .bool (decide ((v1_1 : Int) < (a0.of.length : Int)))) rfl rfl rfl rfl ?_
      refine AW.if rfl (fun h9 => ?_) (fun h9 => ?_)
      · replace hr := cnd_t h9 hr
        refine AW.skip ?_
        refine AW.seq ?_
        refine AW.block ?_
        refine AW.drawc (M := fun i => ⟨Nat.beq i 9 || Nat.beq i 11, bif Nat.beq i 1 then some { ids := [2] } else bif Nat.beq i 3 then some { ids := [0] } else bif Nat.beq i 6 then some { ids := [] } else bif Nat.beq i 8 then some { ids := [4] } else bif Nat.beq i 9 then some { ids := [3] } else bif Nat.beq i 11 then some { ids := [2] } else none⟩) good.wide (by kernel_rfl) ?_
        refine AL.v (nc := ⟨rfl⟩) good (d := 15) (v := .ptr 2 1) rfl rfl rfl rfl ?_
        refine AL.vc good (d := 16) (v := .sl (.own 3) 2 (enys v1_2)) rfl rfl rfl rfl rfl rfl (List.forall_mem_cons.2 ⟨.head _, (fun _ h => by cases h)⟩) ?_
        refine AL.v (nc := ⟨rfl⟩) good (d := 17) (v := .ptr 0 1) rfl rfl rfl rfl ?_
        refine AL.vc good (d := 18) (v := .sl .ro 2 (enys a0.of)) rfl rfl rfl rfl rfl rfl (List.forall_mem_cons.2 ⟨.head _, (fun _ h => by cases h)⟩) ?_
        refine AL.v (nc := ⟨rfl⟩) good (d := 19) (v := .int .i64 (v1_1 : Int)) rfl rfl rfl rfl ?_
        obtain ⟨x10, h11, hr⟩ := bnd1 hr
        refine AL.ix (nc := ⟨rfl⟩) good (d := 20) (r := [.int .i64 x10.kind, .sl .ro 2 (enys x10.of)]) rfl rfl rfl rfl rfl rfl rfl (Int.natCast_nonneg _) (enys_get h11) ?_
        refine AL.vc good (d := 21) (v := .agg [.int .i64 x10.kind, .sl .ro 2 (enys x10.of)]) rfl rfl rfl rfl rfl rfl (fun _ h => by cases h) ?_
        obtain ⟨q12, h13, hr⟩ := bnd1 hr
        refine AL.cw (nc := ⟨rfl⟩) good (d := 22) (xs := [.agg (tyC x10)]) (res := .agg [.int .i64 q12.kind, .sl .ro 2 (enys q12.of)]) rfl rfl rfl rfl rfl rfl rfl (ih _ _ _ h13 (by omega)) ⟨(Wv.refl _), trivial⟩ (by simp [pureA, pureL, pureR, inA, inL, inR, inO, idsIn, encs_pure, enxs_pure, enys_pure, valC_pure, exC_pure, tyC_pure, r_int_u8_pure, r_st_GInst_pure, r_sl_st_GInst_pure, r_st_GMiss_pure]) ?_
        refine AL.litC good (d := 23) (rows := [[.int .i64 q12.kind, .sl .ro 2 (enys q12.of)]]) rfl rfl rfl rfl rfl rfl rfl rfl rfl 4 rfl (ColN.mk rfl rfl (fun _ h => by cases h) (List.forall_mem_cons.2 ⟨.head _, (fun _ h => by cases h)⟩) (fun _ h => by cases h)) ?_
        obtain ⟨h14, hr⟩ := grd hr
        refine AL.aw2c good (d := 24) (rows := enys v1_2) (news := [(tyC q12)]) (rows2 := enys (v1_2 ++ [q12])) rfl rfl rfl rfl rfl rfl rfl rfl rfl (by simp) rfl rfl rfl rfl ⟨⟨Wv.refl _, Wv.refl _, trivial⟩, trivial⟩ (by simp [enys_map]) (by rw [enys_length, List.length_append]; exact h14) rfl ?_
        refine AL.v (nc := ⟨rfl⟩) good (d := 25) (v := .ptr 2 1) rfl rfl rfl rfl ?_
        refine AL.st2c good (c2 := [.int .i64 a0.kind, .sl (.own 3) 2 (enys (v1_2 ++ [q12]))]) rfl rfl rfl rfl rfl rfl rfl rfl rfl rfl rfl rfl rfl ?_
        refine AW.region (M := fun _ => true) ?_
        refine AL.v good (d := 13) (v := .int .i64 (v1_1 : Int)) rfl rfl rfl rfl ?_
        refine AL.v good (d := 14) (v := .int .i64 (IntKind.i64.wrap ((v1_1 : Int) + 1))) rfl rfl rfl rfl ?_
        refine AL.v good (d := 4) (v := .int .i64 (IntKind.i64.wrap ((v1_1 : Int) + 1))) rfl rfl rfl rfl ?_
        exact ⟨(m, (v1_1 + 1), (v1_2 ++ [q12])), _, _, rfl, ⟨(fun _ h => by cases h), List.forall_mem_cons.2 ⟨⟨⟨_, rfl, Wv.refl _⟩, (by simp [pureA, pureL, pureR, inA, inL, inR, inO, idsIn, encs_pure, enxs_pure, enys_pure, valC_pure, exC_pure, tyC_pure, r_int_u8_pure, r_st_GInst_pure, r_sl_st_GInst_pure, r_st_GMiss_pure])⟩, List.forall_mem_cons.2 ⟨⟨⟨_, rfl, Wv.refl _⟩, (by simp [pureA, pureL, pureR, inA, inL, inR, inO, idsIn, encs_pure, enxs_pure, enys_pure, valC_pure, exC_pure, tyC_pure, r_int_u8_pure, r_st_GInst_pure, r_sl_st_GInst_pure, r_st_GMiss_pure])⟩, List.forall_mem_cons.2 ⟨⟨⟨_, rfl, Wv.refl _⟩, (by simp [pureA, pureL, pureR, inA, inL, inR, inO, idsIn, encs_pure, enxs_pure, enys_pure, valC_pure, exC_pure, tyC_pure, r_int_u8_pure, r_st_GInst_pure, r_sl_st_GInst_pure, r_st_GMiss_pure])⟩, List.forall_mem_cons.2 ⟨⟨⟨_, rfl, (wnx h9 hl8)⟩, (by simp [pureA, pureL, pureR, inA, inL, inR, inO, idsIn, encs_pure, enxs_pure, enys_pure, valC_pure, exC_pure, tyC_pure, r_int_u8_pure, r_st_GInst_pure, r_sl_st_GInst_pure, r_st_GMiss_pure])⟩, (fun _ h => by cases h)⟩⟩⟩⟩, List.forall_mem_cons.2 ⟨⟨⟨_, rfl, ⟨rfl, ⟨Wv.refl _, Wv.refl _, trivial⟩⟩⟩, (by simp [pureA, pureL, pureR, inA, inL, inR, inO, idsIn, encs_pure, enxs_pure, enys_pure, valC_pure, exC_pure, tyC_pure, r_int_u8_pure, r_st_GInst_pure, r_sl_st_GInst_pure, r_st_GMiss_pure])⟩, List.forall_mem_cons.2 ⟨⟨⟨_, rfl, ⟨rfl, ⟨Wv.refl _, Wv.refl _, trivial⟩⟩⟩, (by simp [pureA, pureL, pureR, inA, inL, inR, inO, idsIn, encs_pure, enxs_pure, enys_pure, valC_pure, exC_pure, tyC_pure, r_int_u8_pure, r_st_GInst_pure, r_sl_st_GInst_pure, r_st_GMiss_pure])⟩, List.forall_mem_cons.2 ⟨⟨⟨_, rfl, ⟨rfl, ⟨Wv.refl _, Wv.refl _, trivial⟩⟩⟩, (by simp [pureA, pureL, pureR, inA, inL, inR, inO, idsIn, encs_pure, enxs_pure, enys_pure, valC_pure, exC_pure, tyC_pure, r_int_u8_pure, r_st_GInst_pure, r_sl_st_GInst_pure, r_st_GMiss_pure])⟩, List.forall_mem_cons.2 ⟨⟨⟨_, rfl, ⟨rfl, rfl, rfl⟩⟩, (by simp [pureA, pureL, pureR, inA, inL, inR, inO, idsIn, encs_pure, enxs_pure, enys_pure, valC_pure, exC_pure, tyC_pure, r_int_u8_pure, r_st_GInst_pure, r_sl_st_GInst_pure, r_st_GMiss_pure])⟩, (fun _ h => by cases h)⟩⟩⟩⟩⟩, ⟨hr, Nat.le_of_succ_le hm⟩, Nat.lt_succ_self _⟩
      · replace hr := cnd_f h9 hr
        refine AW.exit ?_
        refine AW.seq ?_
        refine AW.region (M := fun _ => true) ?_
        refine AL.v good (d := 26) (v := .agg [.int .i64 a0.kind, .sl (.own 3) 2 (enys v1_2)]) rfl rfl rfl rfl ?_
        refine AL.st2 good (c2 := [.int .i64 a0.kind, .sl (.own 3) 2 (enys v1_2)]) rfl rfl rfl rfl rfl rfl rfl rfl rfl rfl rfl rfl ?_
        refine AW.ret ?_
        obtain rfl := Option.some.inj hr
        exact RetQ.w good (.inr rfl) rfl rfl ⟨Wv.refl _, ⟨.inr rfl, WvR.refl _, .inl rfl⟩, trivial⟩ (by simp [pureA, pureL, pureR, inA, inL, inR, inO, idsIn, encs_pure, enxs_pure, enys_pure, valC_pure, exC_pure, tyC_pure, r_int_u8_pure, r_st_GInst_pure, r_sl_st_GInst_pure, r_st_GMiss_pure])
theorem w_f112 (n : Nat) : ∀ (a0 : Ty) (r : Ty) (hr : s_f112 n a0 = some r), ACall Try.prog 112 [.agg (tyC a0)] (.agg (tyC r)) := by
  induction n using Nat.strongRecOn with
  | _ n ih =>
    intro a0 r hr
    exact w_f112_a n (fun m a0 r h hm => ih m hm a0 r h) a0 r hr

mutual
def s_f76_l1 : Nat → GOp → Ty → Ex → Nat → (List Ex) → Option GOp
  | 0, _, _, _, _, _ => none
  | n + 1, a0, q1, q3, v1_1, v1_2 => (bif (decide ((v1_1 : Int) < (a0.f3.length : Int))) then ((a0.f3[v1_1]?).bind fun x14 => ((s_f19 n x14).bind fun q16 => (if v1_2.length + 1 ≤ 1000000 then (s_f76_l1 n a0 q1 q3 (v1_1 + 1) (v1_2 ++ [q16])) else none))) else some (GOp.mk a0.f0 a0.f1 q1 v1_2 q3 a0.f5 a0.f6))
end
def s_f76 (n : Nat) (a0 : GOp) : Option GOp :=
  ((s_f112 n a0.f2).bind fun q1 => ((s_f19 n a0.f4).bind fun q3 => (s_f76_l1 n a0 q1 q3 0 [])))

theorem w_f76 (n : Nat) (a0 : GOp) (r : GOp) (hr : s_f76 n a0 = some r) : ACall Try.prog 76 [.agg [.int .i64 a0.f0, .str a0.f1, .int .i64 a0.f2.kind, .sl .ro 2 (enys a0.f2.of), .sl .ro 8 (enxs a0.f3), .str a0.f4.op, .int .i64 a0.f4.v.kind, .int .i64 a0.f4.v.i, .bool a0.f4.v.b, .str a0.f4.v.s, .sl .ro 5 (encs a0.f4.v.t), .int .i64 a0.f4.n, .sl .ro 8 (enxs a0.f4.a), .int .i64 a0.f5, .int .i64 a0.f6]] (.agg [.int .i64 r.f0, .str r.f1, .int .i64 r.f2.kind, .sl .ro 2 (enys r.f2.of), .sl .ro 8 (enxs r.f3), .str r.f4.op, .int .i64 r.f4.v.kind, .int .i64 r.f4.v.i, .bool r.f4.v.b, .str r.f4.v.s, .sl .ro 5 (encs r.f4.v.t), .int .i64 r.f4.n, .sl .ro 8 (enxs r.f4.a), .int .i64 r.f5, .int .i64 r.f6]) := by
  refine ACall.go [(0, .agg [.int .i64 a0.f0, .str a0.f1, .int .i64 a0.f2.kind, .sl .ro 2 (enys a0.f2.of), .sl .ro 8 (enxs a0.f3), .str a0.f4.op, .int .i64 a0.f4.v.kind, .int .i64 a0.f4.v.i, .bool a0.f4.v.b, .str a0.f4.v.s, .sl .ro 5 (encs a0.f4.v.t), .int .i64 a0.f4.n, .sl .ro 8 (enxs a0.f4.a), .int .i64 a0.f5, .int .i64 a0.f6])] Try.func76 rfl Try.ntmps76 rfl rfl (by simp [pureA, pureL, pureR, inA, inL, inR, inO, idsIn, encs_pure, enxs_pure, enys_pure, valC_pure, exC_pure, tyC_pure, r_int_u8_pure, r_st_GInst_pure, r_sl_st_GInst_pure, r_st_GMiss_pure]) ?_
  rw [s_f76] at hr
  refine AW.seq ?_
  refine AW.region (M := fun _ => true) ?_
  refine AL.bx good (d := 1) (l := [.int .i64 a0.f0, .str a0.f1, .int .i64 a0.f2.kind, .sl .ro 2 (enys a0.f2.of), .sl .ro 8 (enxs a0.f3), .str a0.f4.op, .int .i64 a0.f4.v.kind, .int .i64 a0.f4.v.i, .bool a0.f4.v.b, .str a0.f4.v.s, .sl .ro 5 (encs a0.f4.v.t), .int .i64 a0.f4.n, .sl .ro 8 (enxs a0.f4.a), .int .i64 a0.f5, .int .i64 a0.f6]) rfl rfl rfl rfl rfl rfl 0 rfl ?_
  refine AL.alc good (d := 2) rfl rfl rfl rfl rfl 1 rfl ?_
  refine AW.seq ?_
  refine AW.drawc (M := fun i => ⟨Nat.beq i 16, bif Nat.beq i 1 then some { ids := [0] } else bif Nat.beq i 3 then some { ids := [0] } else bif Nat.beq i 5 then some { ids := [0] } else bif Nat.beq i 8 then some { ids := [0] } else bif Nat.beq i 11 then some { ids := [0] } else bif Nat.beq i 13 then some { ids := [0] } else bif Nat.beq i 15 then some { ids := [2] } else bif Nat.beq i 16 then some { ids := [2] } else none⟩) good.wide (by kernel_rfl) ?_
  refine AL.v (nc := ⟨rfl⟩) good (d := 5) (v := .ptr 0 0) rfl rfl rfl rfl ?_
  refine AL.vc good (d := 6) (v := .int .i64 a0.f0) rfl rfl rfl rfl rfl rfl (List.forall_mem_cons.2 ⟨.head _, (fun _ h => by cases h)⟩) ?_
  refine AL.v (nc := ⟨rfl⟩) good (d := 7) (v := .ptr 0 1) rfl rfl rfl rfl ?_
  refine AL.vc good (d := 8) (v := .str a0.f1) rfl rfl rfl rfl rfl rfl (List.forall_mem_cons.2 ⟨.head _, (fun _ h => by cases h)⟩) ?_
  refine AL.v (nc := ⟨rfl⟩) good (d := 9) (v := .ptr 0 2) rfl rfl rfl rfl ?_
  refine AL.vc good (d := 10) (v := .agg [.int .i64 a0.f2.kind, .sl .ro 2 (enys a0.f2.of)]) rfl rfl rfl rfl rfl rfl (List.forall_mem_cons.2 ⟨.head _, (fun _ h => by cases h)⟩) ?_
  obtain ⟨q1, h2, hr⟩ := bnd1 hr
  refine AL.cw (nc := ⟨rfl⟩) good (d := 11) (xs := [.agg (tyC a0.f2)]) (res := .agg [.int .i64 q1.kind, .sl .ro 2 (enys q1.of)]) rfl rfl rfl rfl rfl rfl rfl (w_f112 _ _ _ h2) ⟨(Wv.refl _), trivial⟩ (by simp [pureA, pureL, pureR, inA, inL, inR, inO, idsIn, encs_pure, enxs_pure, enys_pure, valC_pure, exC_pure, tyC_pure, r_int_u8_pure, r_st_GInst_pure, r_sl_st_GInst_pure, r_st_GMiss_pure]) ?_
  refine AL.v (nc := ⟨rfl⟩) good (d := 12) (v := .ptr 0 5) rfl rfl rfl rfl ?_
  refine AL.vc good (d := 13) (v := .agg [.str a0.f4.op, .int .i64 a0.f4.v.kind, .int .i64 a0.f4.v.i, .bool a0.f4.v.b, .str a0.f4.v.s, .sl .ro 5 (encs a0.f4.v.t), .int .i64 a0.f4.n, .sl .ro 8 (enxs a0.f4.a)]) rfl rfl rfl rfl rfl rfl (List.forall_mem_cons.2 ⟨.head _, (fun _ h => by cases h)⟩) ?_
  obtain ⟨q3, h4, hr⟩ := bnd1 hr
  refine AL.cw (nc := ⟨rfl⟩) good (d := 14) (xs := [.agg (exC a0.f4)]) (res := .agg [.str q3.op, .int .i64 q3.v.kind, .int .i64 q3.v.i, .bool q3.v.b, .str q3.v.s, .sl .ro 5 (encs q3.v.t), .int .i64 q3.n, .sl .ro 8 (enxs q3.a)]) rfl rfl rfl rfl rfl rfl rfl (w_f19 _ _ _ h4) ⟨(Wv.refl _), trivial⟩ (by simp [pureA, pureL, pureR, inA, inL, inR, inO, idsIn, encs_pure, enxs_pure, enys_pure, valC_pure, exC_pure, tyC_pure, r_int_u8_pure, r_st_GInst_pure, r_sl_st_GInst_pure, r_st_GMiss_pure]) ?_
  refine AL.v (nc := ⟨rfl⟩) good (d := 15) (v := .ptr 0 13) rfl rfl rfl rfl ?_
  refine AL.vc good (d := 16) (v := .int .i64 a0.f5) rfl rfl rfl rfl rfl rfl (List.forall_mem_cons.2 ⟨.head _, (fun _ h => by cases h)⟩) ?_
  refine AL.v (nc := ⟨rfl⟩) good (d := 17) (v := .ptr 0 14) rfl rfl rfl rfl ?_
  refine AL.vc good (d := 18) (v := .int .i64 a0.f6) rfl rfl rfl rfl rfl rfl (List.forall_mem_cons.2 ⟨.head _, (fun _ h => by cases h)⟩) ?_
  refine AL.bld (nc := ⟨rfl⟩) good (d := 19) (l := [.int .i64 a0.f0, .str a0.f1, .int .i64 q1.kind, .sl .ro 2 (enys q1.of), .sl .nil 0 [], .str q3.op, .int .i64 q3.v.kind, .int .i64 q3.v.i, .bool q3.v.b, .str q3.v.s, .sl .ro 5 (encs q3.v.t), .int .i64 q3.n, .sl .ro 8 (enxs q3.a), .int .i64 a0.f5, .int .i64 a0.f6]) rfl rfl rfl rfl rfl rfl rfl ?_
  refine AL.alcC good (d := 3) rfl rfl rfl rfl rfl 2 rfl (ColN.mk rfl rfl (fun _ h => by cases h) (List.forall_mem_cons.2 ⟨.head _, (fun _ h => by cases h)⟩) (fun _ h => by cases h)) ?_
  refine AL.st2c good (c2 := [.int .i64 a0.f0, .str a0.f1, .int .i64 q1.kind, .sl .ro 2 (enys q1.of), .sl .nil 0 [], .str q3.op, .int .i64 q3.v.kind, .int .i64 q3.v.i, .bool q3.v.b, .str q3.v.s, .sl .ro 5 (encs q3.v.t), .int .i64 q3.n, .sl .ro 8 (enxs q3.a), .int .i64 a0.f5, .int .i64 a0.f6]) rfl rfl rfl rfl rfl rfl rfl rfl rfl rfl rfl rfl rfl ?_
  refine AW.seq ?_
  refine AW.seq ?_
  refine AW.region (M := fun _ => true) ?_
  refine AL.v good (d := 4) (v := .int .i64 0) rfl rfl rfl rfl ?_
  refine AW.block ?_
  refine AW.adoptB 2 rfl 4 rfl 3 8 36 rfl rfl ?_
  refine AW.lensB 0 rfl (fun hl12 => ?_)
  replace hl12 : a0.f3.length ≤ 9223372036854775807 := by rw [← enxs_length a0.f3]; exact hl12.2.2.2.2.1
  refine AW.lpw (fun x : Nat × Nat × (List Ex) => [(1, .ptr 0 0), (2, .ptr 1 0), (3, .ptr 2 0), (4, .int .i64 (x.2.1 : Int))]) (fun x => [(0, .box 86 [.int .i64 a0.f0, .str a0.f1, .int .i64 a0.f2.kind, .sl .ro 2 (enys a0.f2.of), .sl .ro 8 (enxs a0.f3), .str a0.f4.op, .int .i64 a0.f4.v.kind, .int .i64 a0.f4.v.i, .bool a0.f4.v.b, .str a0.f4.v.s, .sl .ro 5 (encs a0.f4.v.t), .int .i64 a0.f4.n, .sl .ro 8 (enxs a0.f4.a), .int .i64 a0.f5, .int .i64 a0.f6]), (1, .box 150 [.int .i64 0, .str ⟨#[]⟩, .int .i64 0, .sl .nil 0 [], .sl .nil 0 [], .str ⟨#[]⟩, .int .i64 0, .int .i64 0, .bool false, .str ⟨#[]⟩, .sl .nil 0 [], .int .i64 0, .sl .nil 0 [], .int .i64 0, .int .i64 0]), (2, .box 150 [.int .i64 a0.f0, .str a0.f1, .int .i64 q1.kind, .sl .ro 2 (enys q1.of), .sl (.own 3) 8 (enxs x.2.2), .str q3.op, .int .i64 q3.v.kind, .int .i64 q3.v.i, .bool q3.v.b, .str q3.v.s, .sl .ro 5 (encs q3.v.t), .int .i64 q3.n, .sl .ro 8 (enxs q3.a), .int .i64 a0.f5, .int .i64 a0.f6]), (3, .row 36 8 (enxs x.2.2).length)]) (fun x => s_f76_l1 x.1 a0 q1 q3 x.2.1 x.2.2 = some r ∧ x.1 ≤ n) (fun x => x.1) (n, 0, []) ⟨(fun _ h => by cases h), List.forall_mem_cons.2 ⟨⟨⟨_, rfl, Wv.refl _⟩, (by simp [pureA, pureL, pureR, inA, inL, inR, inO, idsIn, encs_pure, enxs_pure, enys_pure, valC_pure, exC_pure, tyC_pure, r_int_u8_pure, r_st_GInst_pure, r_sl_st_GInst_pure, r_st_GMiss_pure])⟩, List.forall_mem_cons.2 ⟨⟨⟨_, rfl, Wv.refl _⟩, (by simp [pureA, pureL, pureR, inA, inL, inR, inO, idsIn, encs_pure, enxs_pure, enys_pure, valC_pure, exC_pure, tyC_pure, r_int_u8_pure, r_st_GInst_pure, r_sl_st_GInst_pure, r_st_GMiss_pure])⟩, List.forall_mem_cons.2 ⟨⟨⟨_, rfl, Wv.refl _⟩, (by simp [pureA, pureL, pureR, inA, inL, inR, inO, idsIn, encs_pure, enxs_pure, enys_pure, valC_pure, exC_pure, tyC_pure, r_int_u8_pure, r_st_GInst_pure, r_sl_st_GInst_pure, r_st_GMiss_pure])⟩, List.forall_mem_cons.2 ⟨⟨⟨_, rfl, Wv.refl _⟩, (by simp [pureA, pureL, pureR, inA, inL, inR, inO, idsIn, encs_pure, enxs_pure, enys_pure, valC_pure, exC_pure, tyC_pure, r_int_u8_pure, r_st_GInst_pure, r_sl_st_GInst_pure, r_st_GMiss_pure])⟩, (fun _ h => by cases h)⟩⟩⟩⟩, List.forall_mem_cons.2 ⟨⟨⟨_, rfl, ⟨rfl, ⟨Wv.refl _, Wv.refl _, Wv.refl _, Wv.refl _, Wv.refl _, Wv.refl _, Wv.refl _, Wv.refl _, Wv.refl _, Wv.refl _, Wv.refl _, Wv.refl _, Wv.refl _, Wv.refl _, Wv.refl _, trivial⟩⟩⟩, (by simp [pureA, pureL, pureR, inA, inL, inR, inO, idsIn, encs_pure, enxs_pure, enys_pure, valC_pure, exC_pure, tyC_pure, r_int_u8_pure, r_st_GInst_pure, r_sl_st_GInst_pure, r_st_GMiss_pure])⟩, List.forall_mem_cons.2 ⟨⟨⟨_, rfl, ⟨rfl, ⟨Wv.refl _, Wv.refl _, Wv.refl _, Wv.refl _, Wv.refl _, Wv.refl _, Wv.refl _, Wv.refl _, Wv.refl _, Wv.refl _, Wv.refl _, Wv.refl _, Wv.refl _, Wv.refl _, Wv.refl _, trivial⟩⟩⟩, (by simp [pureA, pureL, pureR, inA, inL, inR, inO, idsIn, encs_pure, enxs_pure, enys_pure, valC_pure, exC_pure, tyC_pure, r_int_u8_pure, r_st_GInst_pure, r_sl_st_GInst_pure, r_st_GMiss_pure])⟩, List.forall_mem_cons.2 ⟨⟨⟨_, rfl, ⟨rfl, ⟨Wv.refl _, Wv.refl _, Wv.refl _, Wv.refl _, Wv.refl _, Wv.refl _, Wv.refl _, Wv.refl _, Wv.refl _, Wv.refl _, Wv.refl _, Wv.refl _, Wv.refl _, Wv.refl _, Wv.refl _, trivial⟩⟩⟩, (by simp [pureA, pureL, pureR, inA, inL, inR, inO, idsIn, encs_pure, enxs_pure, enys_pure, valC_pure, exC_pure, tyC_pure, r_int_u8_pure, r_st_GInst_pure, r_sl_st_GInst_pure, r_st_GMiss_pure])⟩, List.forall_mem_cons.2 ⟨⟨⟨_, rfl, ⟨rfl, rfl, rfl⟩⟩, (by simp [pureA, pureL, pureR, inA, inL, inR, inO, idsIn, encs_pure, enxs_pure, enys_pure, valC_pure, exC_pure, tyC_pure, r_int_u8_pure, r_st_GInst_pure, r_sl_st_GInst_pure, r_st_GMiss_pure])⟩, (fun _ h => by cases h)⟩⟩⟩⟩⟩ ⟨hr, Nat.le_refl _⟩ (fun ⟨m, v1_1, v1_2⟩ hx => ?_)
  obtain ⟨hr, hm⟩ := hx
  try dsimp only at hr hm
  cases m with
  | zero => rw [s_f76_l1] at hr; cases hr
  | succ m =>
    rw [s_f76_l1] at hr
    show AW Try.prog _ _ _ (mkS 39 [(1, .ptr 0 0), (2, .ptr 1 0), (3, .ptr 2 0), (4, .int .i64 (v1_1 : Int))] [(0, .box 86 [.int .i64 a0.f0, .str a0.f1, .int .i64 a0.f2.kind, .sl .ro 2 (enys a0.f2.of), .sl .ro 8 (enxs a0.f3), .str a0.f4.op, .int .i64 a0.f4.v.kind, .int .i64 a0.f4.v.i, .bool a0.f4.v.b, .str a0.f4.v.s, .sl .ro 5 (encs a0.f4.v.t), .int .i64 a0.f4.n, .sl .ro 8 (enxs a0.f4.a), .int .i64 a0.f5, .int .i64 a0.f6]), (1, .box 150 [.int .i64 0, .str ⟨#[]⟩, .int .i64 0, .sl .nil 0 [], .sl .nil 0 [], .str ⟨#[]⟩, .int .i64 0, .int .i64 0, .bool false, .str ⟨#[]⟩, .sl .nil 0 [], .int .i64 0, .sl .nil 0 [], .int .i64 0, .int .i64 0]), (2, .box 150 [.int .i64 a0.f0, .str a0.f1, .int .i64 q1.kind, .sl .ro 2 (enys q1.of), .sl (.own 3) 8 (enxs v1_2), .str q3.op, .int .i64 q3.v.kind, .int .i64 q3.v.i, .bool q3.v.b, .str q3.v.s, .sl .ro 5 (encs q3.v.t), .int .i64 q3.n, .sl .ro 8 (enxs q3.a), .int .i64 a0.f5, .int .i64 a0.f6]), (3, .row 36 8 (enxs v1_2).length)])
    refine AW.seq ?_
    refine AW.seq ?_
    refine AW.region (M := fun _ => true) ?_
    refine AL.v good (d := 20) (v := .int .i64 (v1_1 : Int)) rfl rfl rfl rfl ?_
    refine AL.v good (d := 21) (v := .ptr 0 4) rfl rfl rfl rfl ?_
    refine AL.v good (d := 22) (v := .sl .ro 8 (enxs a0.f3)) rfl rfl rfl rfl ?_
    refine AL.ln good (d := 23) (m := a0.f3.length) rfl rfl rfl rfl rfl rfl (enxs_length _) ?_
    refine AL.v good (d := 24) (v := .bool (decide ((v1_1 : Int) < (a0.f3.length : Int)))) rfl rfl rfl rfl ?_
    refine AW.if rfl (fun h13 => ?_) (fun h13 => ?_)
    · replace hr := cnd_t h13 hr
      refine AW.skip ?_
      refine AW.seq ?_
      refine AW.block ?_
      refine AW.drawc (M := fun i => ⟨Nat.beq i 9 || Nat.beq i 11, bif Nat.beq i 1 then some { ids := [2] } else bif Nat.beq i 3 then some { ids := [0] } else bif Nat.beq i 6 then some { ids := [] } else bif Nat.beq i 8 then some { ids := [4] } else bif Nat.beq i 9 then some { ids := [3] } else bif Nat.beq i 11 then some { ids := [2] } else none⟩) good.wide (by kernel_rfl) ?_
      refine AL.v (nc := ⟨rfl⟩) good (d := 27) (v := .ptr 2 4) rfl rfl rfl rfl ?_
      refine AL.vc good (d := 28) (v := .sl (.own 3) 8 (enxs v1_2)) rfl rfl rfl rfl rfl rfl (List.forall_mem_cons.2 ⟨.head _, (fun _ h => by cases h)⟩) ?_
      refine AL.v (nc := ⟨rfl⟩) good (d := 29) (v := .ptr 0 4) rfl rfl rfl rfl ?_
      refine AL.vc good (d := 30) (v := .sl .ro 8 (enxs a0.f3)) rfl rfl rfl rfl rfl rfl (List.forall_mem_cons.2 ⟨.head _, (fun _ h => by cases h)⟩) ?_
      refine AL.v (nc := ⟨rfl⟩) good (d := 31) (v := .int .i64 (v1_1 : Int)) rfl rfl rfl rfl ?_
      obtain ⟨x14, h15, hr⟩ := bnd1 hr
      refine AL.ix (nc := ⟨rfl⟩) good (d := 32) (r := [.str x14.op, .int .i64 x14.v.kind, .int .i64 x14.v.i, .bool x14.v.b, .str x14.v.s, .sl .ro 5 (encs x14.v.t), .int .i64 x14.n, .sl .ro 8 (enxs x14.a)]) rfl rfl rfl rfl rfl rfl rfl (Int.natCast_nonneg _) (enxs_get h15) ?_
      refine AL.vc good (d := 33) (v := .agg [.str x14.op, .int .i64 x14.v.kind, .int .i64 x14.v.i, .bool x14.v.b, .str x14.v.s, .sl .ro 5 (encs x14.v.t), .int .i64 x14.n, .sl .ro 8 (enxs x14.a)]) rfl rfl rfl rfl rfl rfl (fun _ h => by cases h) ?_
      obtain ⟨q16, h17, hr⟩ := bnd1 hr
      refine AL.cw (nc := ⟨rfl⟩) good (d := 34) (xs := [.agg (exC x14)]) (res := .agg [.str q16.op, .int .i64 q16.v.kind, .int .i64 q16.v.i, .bool q16.v.b, .str q16.v.s, .sl .ro 5 (encs q16.v.t), .int .i64 q16.n, .sl .ro 8 (enxs q16.a)]) rfl rfl rfl rfl rfl rfl rfl (w_f19 _ _ _ h17) ⟨(Wv.refl _), trivial⟩ (by simp [pureA, pureL, pureR, inA, inL, inR, inO, idsIn, encs_pure, enxs_pure, enys_pure, valC_pure, exC_pure, tyC_pure, r_int_u8_pure, r_st_GInst_pure, r_sl_st_GInst_pure, r_st_GMiss_pure]) ?_
      refine AL.litC good (d := 35) (rows := [[.str q16.op, .int .i64 q16.v.kind, .int .i64 q16.v.i, .bool q16.v.b, .str q16.v.s, .sl .ro 5 (encs q16.v.t), .int .i64 q16.n, .sl .ro 8 (enxs q16.a)]]) rfl rfl rfl rfl rfl rfl rfl rfl rfl 4 rfl (ColN.mk rfl rfl (fun _ h => by cases h) (List.forall_mem_cons.2 ⟨.head _, (fun _ h => by cases h)⟩) (fun _ h => by cases h)) ?_
      obtain ⟨h18, hr⟩ := grd hr
      refine AL.aw2c good (d := 36) (rows := enxs v1_2) (news := [(exC q16)]) (rows2 := enxs (v1_2 ++ [q16])) rfl rfl rfl rfl rfl rfl rfl rfl rfl (by simp) rfl rfl rfl rfl ⟨⟨Wv.refl _, Wv.refl _, Wv.refl _, Wv.refl _, Wv.refl _, Wv.refl _, Wv.refl _, Wv.refl _, trivial⟩, trivial⟩ (by simp [enxs_map]) (by rw [enxs_length, List.length_append]; exact h18) rfl ?_
      refine AL.v (nc := ⟨rfl⟩) good (d := 37) (v := .ptr 2 4) rfl rfl rfl rfl ?_
      refine AL.st2c good (c2 := [.int .i64 a0.f0, .str a0.f1, .int .i64 q1.kind, .sl .ro 2 (enys q1.of), .sl (.own 3) 8 (enxs (v1_2 ++ [q16])), .str q3.op, .int .i64 q3.v.kind, .int .i64 q3.v.i, .bool q3.v.b, .str q3.v.s, .sl .ro 5 (encs q3.v.t), .int .i64 q3.n, .sl .ro 8 (enxs q3.a), .int .i64 a0.f5, .int .i64 a0.f6]) rfl rfl rfl rfl rfl rfl rfl rfl rfl rfl rfl rfl rfl ?_
      refine AW.region (M := fun _ => true) ?_
      refine AL.v good (d := 25) (v := .int .i64 (v1_1 : Int)) rfl rfl rfl rfl ?_
      refine AL.v good (d := 26) (v := .int .i64 (IntKind.i64.wrap ((v1_1 : Int) + 1))) rfl rfl rfl rfl ?_
      refine AL.v good (d := 4) (v := .int .i64 (IntKind.i64.wrap ((v1_1 : Int) + 1))) rfl rfl rfl rfl ?_
      exact ⟨(m, (v1_1 + 1), (v1_2 ++ [q16])), _, _, rfl, ⟨(fun _ h => by cases h), List.forall_mem_cons.2 ⟨⟨⟨_, rfl, Wv.refl _⟩, (by simp [pureA, pureL, pureR, inA, inL, inR, inO, idsIn, encs_pure, enxs_pure, enys_pure, valC_pure, exC_pure, tyC_pure, r_int_u8_pure, r_st_GInst_pure, r_sl_st_GInst_pure, r_st_GMiss_pure])⟩, List.forall_mem_cons.2 ⟨⟨⟨_, rfl, Wv.refl _⟩, (by simp [pureA, pureL, pureR, inA, inL, inR, inO, idsIn, encs_pure, enxs_pure, enys_pure, valC_pure, exC_pure, tyC_pure, r_int_u8_pure, r_st_GInst_pure, r_sl_st_GInst_pure, r_st_GMiss_pure])⟩, List.forall_mem_cons.2 ⟨⟨⟨_, rfl, Wv.refl _⟩, (by simp [pureA, pureL, pureR, inA, inL, inR, inO, idsIn, encs_pure, enxs_pure, enys_pure, valC_pure, exC_pure, tyC_pure, r_int_u8_pure, r_st_GInst_pure, r_sl_st_GInst_pure, r_st_GMiss_pure])⟩, List.forall_mem_cons.2 ⟨⟨⟨_, rfl, (wnx h13 hl12)⟩, (by simp [pureA, pureL, pureR, inA, inL, inR, inO, idsIn, encs_pure, enxs_pure, enys_pure, valC_pure, exC_pure, tyC_pure, r_int_u8_pure, r_st_GInst_pure, r_sl_st_GInst_pure, r_st_GMiss_pure])⟩, (fun _ h => by cases h)⟩⟩⟩⟩, List.forall_mem_cons.2 ⟨⟨⟨_, rfl, ⟨rfl, ⟨Wv.refl _, Wv.refl _, Wv.refl _, Wv.refl _, Wv.refl _, Wv.refl _, Wv.refl _, Wv.refl _, Wv.refl _, Wv.refl _, Wv.refl _, Wv.refl _, Wv.refl _, Wv.refl _, Wv.refl _, trivial⟩⟩⟩, (by simp [pureA, pureL, pureR, inA, inL, inR, inO, idsIn, encs_pure, enxs_pure, enys_pure, valC_pure, exC_pure, tyC_pure, r_int_u8_pure, r_st_GInst_pure, r_sl_st_GInst_pure, r_st_GMiss_pure])⟩, List.forall_mem_cons.2 ⟨⟨⟨_, rfl, ⟨rfl, ⟨Wv.refl _, Wv.refl _, Wv.refl _, Wv.refl _, Wv.refl _, Wv.refl _, Wv.refl _, Wv.refl _, Wv.refl _, Wv.refl _, Wv.refl _, Wv.refl _, Wv.refl _, Wv.refl _, Wv.refl _, trivial⟩⟩⟩, (by simp [pureA, pureL, pureR, inA, inL, inR, inO, idsIn, encs_pure, enxs_pure, enys_pure, valC_pure, exC_pure, tyC_pure, r_int_u8_pure, r_st_GInst_pure, r_sl_st_GInst_pure, r_st_GMiss_pure])⟩, List.forall_mem_cons.2 ⟨⟨⟨_, rfl, ⟨rfl, ⟨Wv.refl _, Wv.refl _, Wv.refl _, Wv.refl _, Wv.refl _, Wv.refl _, Wv.refl _, Wv.refl _, Wv.refl _, Wv.refl _, Wv.refl _, Wv.refl _, Wv.refl _, Wv.refl _, Wv.refl _, trivial⟩⟩⟩, (by simp [pureA, pureL, pureR, inA, inL, inR, inO, idsIn, encs_pure, enxs_pure, enys_pure, valC_pure, exC_pure, tyC_pure, r_int_u8_pure, r_st_GInst_pure, r_sl_st_GInst_pure, r_st_GMiss_pure])⟩, List.forall_mem_cons.2 ⟨⟨⟨_, rfl, ⟨rfl, rfl, rfl⟩⟩, (by simp [pureA, pureL, pureR, inA, inL, inR, inO, idsIn, encs_pure, enxs_pure, enys_pure, valC_pure, exC_pure, tyC_pure, r_int_u8_pure, r_st_GInst_pure, r_sl_st_GInst_pure, r_st_GMiss_pure])⟩, (fun _ h => by cases h)⟩⟩⟩⟩⟩, ⟨hr, Nat.le_of_succ_le hm⟩, Nat.lt_succ_self _⟩
    · replace hr := cnd_f h13 hr
      refine AW.exit ?_
      refine AW.seq ?_
      refine AW.region (M := fun _ => true) ?_
      refine AL.v good (d := 38) (v := .agg [.int .i64 a0.f0, .str a0.f1, .int .i64 q1.kind, .sl .ro 2 (enys q1.of), .sl (.own 3) 8 (enxs v1_2), .str q3.op, .int .i64 q3.v.kind, .int .i64 q3.v.i, .bool q3.v.b, .str q3.v.s, .sl .ro 5 (encs q3.v.t), .int .i64 q3.n, .sl .ro 8 (enxs q3.a), .int .i64 a0.f5, .int .i64 a0.f6]) rfl rfl rfl rfl ?_
      refine AL.st2 good (c2 := [.int .i64 a0.f0, .str a0.f1, .int .i64 q1.kind, .sl .ro 2 (enys q1.of), .sl (.own 3) 8 (enxs v1_2), .str q3.op, .int .i64 q3.v.kind, .int .i64 q3.v.i, .bool q3.v.b, .str q3.v.s, .sl .ro 5 (encs q3.v.t), .int .i64 q3.n, .sl .ro 8 (enxs q3.a), .int .i64 a0.f5, .int .i64 a0.f6]) rfl rfl rfl rfl rfl rfl rfl rfl rfl rfl rfl rfl ?_
      refine AW.ret ?_
      obtain rfl := Option.some.inj hr
      exact RetQ.w good (.inr rfl) rfl rfl ⟨Wv.refl _, Wv.refl _, Wv.refl _, Wv.refl _, ⟨.inr rfl, WvR.refl _, .inl rfl⟩, Wv.refl _, Wv.refl _, Wv.refl _, Wv.refl _, Wv.refl _, Wv.refl _, Wv.refl _, Wv.refl _, Wv.refl _, Wv.refl _, trivial⟩ (by simp [pureA, pureL, pureR, inA, inL, inR, inO, idsIn, encs_pure, enxs_pure, enys_pure, valC_pure, exC_pure, tyC_pure, r_int_u8_pure, r_st_GInst_pure, r_sl_st_GInst_pure, r_st_GMiss_pure])

mutual
def s_f75_l1 : Nat → GOp → (List GInst) → Nat → Option (List GInst)
  | 0, _, _, _ => none
  | n + 1, a0, v1_1, v1_2 => (bif (decide ((v1_2 : Int) < (a0.f3.length : Int))) then ((a0.f3[v1_2]?).bind fun x31 => ((s_f52 n x31).bind fun q33 => ((s_f89 n v1_1 q33).bind fun q35 => (s_f75_l1 n a0 q35 (v1_2 + 1))))) else (if v1_1.length + 2 ≤ 1000000 then some (v1_1 ++ [(GInst.mk ⟨#[101, 109, 105, 116]⟩ (Val.mk 0 0 false ⟨#[]⟩ []) (a0.f3.length : Int)), (GInst.mk ⟨#[114, 101, 116]⟩ (Val.mk 0 0 false ⟨#[]⟩ []) 0)]) else none))
end
def s_f75 (n : Nat) (a0 : GOp) : Option (List GInst) :=
  (bif (a0.f0 == 2) then ((a0.f3[0]?).bind fun x2 => ((s_f52 n x2).bind fun q4 => (if q4.length + 2 ≤ 1000000 then some (q4 ++ [(GInst.mk ⟨#[101, 109, 105, 116]⟩ (Val.mk 0 0 false ⟨#[]⟩ []) 1), (GInst.mk ⟨#[114, 101, 116]⟩ (Val.mk 0 0 false ⟨#[]⟩ []) 0)]) else none))) else (bif (a0.f0 == 5) then ((a0.f3[0]?).bind fun x8 => ((s_f52 n x8).bind fun q10 => (if q10.length + 2 ≤ 1000000 then some (q10 ++ [(GInst.mk ⟨#[101, 109, 105, 116]⟩ (Val.mk 0 0 false ⟨#[]⟩ []) 1), (GInst.mk ⟨#[114, 101, 116]⟩ (Val.mk 0 0 false ⟨#[]⟩ []) 0)]) else none))) else (bif (a0.f0 == 3) then ((a0.f3[0]?).bind fun x14 => ((s_f52 n x14).bind fun q16 => (if q16.length + 2 ≤ 1000000 then (if (q16 ++ [(GInst.mk ⟨#[106, 102]⟩ (Val.mk 0 0 false ⟨#[]⟩ []) (IntKind.i64.wrap ((q16.length : Int) + 3))), (GInst.mk ⟨#[120]⟩ (Val.mk 0 0 false ⟨#[]⟩ []) 0)]).length + 2 ≤ 1000000 then some ((q16 ++ [(GInst.mk ⟨#[106, 102]⟩ (Val.mk 0 0 false ⟨#[]⟩ []) (IntKind.i64.wrap ((q16.length : Int) + 3))), (GInst.mk ⟨#[120]⟩ (Val.mk 0 0 false ⟨#[]⟩ []) 0)]) ++ [(GInst.mk ⟨#[101, 109, 105, 116]⟩ (Val.mk 0 0 false ⟨#[]⟩ []) 1), (GInst.mk ⟨#[114, 101, 116]⟩ (Val.mk 0 0 false ⟨#[]⟩ []) 0)]) else none) else none))) else (bif (a0.f0 == 4) then (s_f75_l1 n a0 [] 0) else (if [(GInst.mk ⟨#[120]⟩ (Val.mk 0 0 false ⟨#[]⟩ []) 0)].length + 2 ≤ 1000000 then some ([(GInst.mk ⟨#[120]⟩ (Val.mk 0 0 false ⟨#[]⟩ []) 0)] ++ [(GInst.mk ⟨#[101, 109, 105, 116]⟩ (Val.mk 0 0 false ⟨#[]⟩ []) 1), (GInst.mk ⟨#[114, 101, 116]⟩ (Val.mk 0 0 false ⟨#[]⟩ []) 0)]) else none)))))

theorem w_f75 (n : Nat) (a0 : GOp) (r : List GInst) (hr : s_f75 n a0 = some r) (id : Nat) : ACallN Try.prog 75 [.agg [.int .i64 a0.f0, .str a0.f1, .int .i64 a0.f2.kind, .sl .ro 2 (enys a0.f2.of), .sl .ro 8 (enxs a0.f3), .str a0.f4.op, .int .i64 a0.f4.v.kind, .int .i64 a0.f4.v.i, .bool a0.f4.v.b, .str a0.f4.v.s, .sl .ro 5 (encs a0.f4.v.t), .int .i64 a0.f4.n, .sl .ro 8 (enxs a0.f4.a), .int .i64 a0.f5, .int .i64 a0.f6]] id (.row 132 7 (r_st_GInst r).length) (.sl (.own id) 7 (r_st_GInst r)) := by
  refine ACallN.go (rows := r_st_GInst r) [(0, .agg [.int .i64 a0.f0, .str a0.f1, .int .i64 a0.f2.kind, .sl .ro 2 (enys a0.f2.of), .sl .ro 8 (enxs a0.f3), .str a0.f4.op, .int .i64 a0.f4.v.kind, .int .i64 a0.f4.v.i, .bool a0.f4.v.b, .str a0.f4.v.s, .sl .ro 5 (encs a0.f4.v.t), .int .i64 a0.f4.n, .sl .ro 8 (enxs a0.f4.a), .int .i64 a0.f5, .int .i64 a0.f6])] Try.func75 rfl Try.ntmps75 rfl rfl (by simp [pureA, pureL, pureR, inA, inL, inR, inO, idsIn, encs_pure, enxs_pure, enys_pure, valC_pure, exC_pure, tyC_pure, r_int_u8_pure, r_st_GInst_pure, r_sl_st_GInst_pure, r_st_GMiss_pure]) (by simp [pureA, pureL, pureR, inA, inL, inR, inO, idsIn, encs_pure, enxs_pure, enys_pure, valC_pure, exC_pure, tyC_pure, r_int_u8_pure, r_st_GInst_pure, r_sl_st_GInst_pure, r_st_GMiss_pure]) ?_ id
  rw [s_f75] at hr
  refine AW.seq ?_
  refine AW.region (M := fun _ => true) ?_
  refine AL.bx good (d := 1) (l := [.int .i64 a0.f0, .str a0.f1, .int .i64 a0.f2.kind, .sl .ro 2 (enys a0.f2.of), .sl .ro 8 (enxs a0.f3), .str a0.f4.op, .int .i64 a0.f4.v.kind, .int .i64 a0.f4.v.i, .bool a0.f4.v.b, .str a0.f4.v.s, .sl .ro 5 (encs a0.f4.v.t), .int .i64 a0.f4.n, .sl .ro 8 (enxs a0.f4.a), .int .i64 a0.f5, .int .i64 a0.f6]) rfl rfl rfl rfl rfl rfl 0 rfl ?_
  refine AL.v good (d := 2) (v := .sl .nil 0 []) rfl rfl rfl rfl ?_
  refine AW.seq ?_
  refine AW.region (M := fun _ => true) ?_
  refine AL.v good (d := 3) (v := .sl .nil 0 []) rfl rfl rfl rfl ?_
  refine AW.seq ?_
  refine AW.region (M := fun _ => true) ?_
  refine AL.v good (d := 4) (v := .int .i64 1) rfl rfl rfl rfl ?_
  refine AW.seq ?_
  refine AW.seq ?_
  refine AW.region (M := fun _ => true) ?_
  refine AL.v good (d := 6) (v := .ptr 0 0) rfl rfl rfl rfl ?_
  refine AL.v good (d := 7) (v := .int .i64 a0.f0) rfl rfl rfl rfl ?_
  refine AW.block ?_
  refine AW.seq ?_
  refine AW.seq ?_
  refine AW.region (M := fun _ => true) ?_
  refine AL.v good (d := 11) (v := .bool (a0.f0 == 2)) rfl rfl rfl rfl ?_
  refine AL.v good (d := 10) (v := .bool (a0.f0 == 2)) rfl rfl rfl rfl ?_
  refine AW.if rfl (fun h1 => ?_) (fun h1 => ?_)
  · replace hr := cnd_t h1 hr
    refine AW.skip ?_
    refine AW.if rfl (fun h => ?_) (fun h => by cases h1.symm.trans h)
    refine AW.region (M := fun _ => true) ?_
    refine AL.v good (d := 13) (v := .ptr 0 4) rfl rfl rfl rfl ?_
    refine AL.v good (d := 14) (v := .sl .ro 8 (enxs a0.f3)) rfl rfl rfl rfl ?_
    obtain ⟨x2, h3, hr⟩ := bnd1 hr
    refine AL.ix good (d := 15) (r := [.str x2.op, .int .i64 x2.v.kind, .int .i64 x2.v.i, .bool x2.v.b, .str x2.v.s, .sl .ro 5 (encs x2.v.t), .int .i64 x2.n, .sl .ro 8 (enxs x2.a)]) rfl rfl rfl rfl rfl rfl rfl (by decide) (enxs_get h3) ?_
    refine AL.v good (d := 16) (v := .agg [.str x2.op, .int .i64 x2.v.kind, .int .i64 x2.v.i, .bool x2.v.b, .str x2.v.s, .sl .ro 5 (encs x2.v.t), .int .i64 x2.n, .sl .ro 8 (enxs x2.a)]) rfl rfl rfl rfl ?_
    obtain ⟨q4, h5, hr⟩ := bnd1 hr
    refine AL.clF good (d := 17) (xs := [.agg (exC x2)]) (ob := .row 132 7 (r_st_GInst q4).length) (res := .sl (.own 1) 7 (r_st_GInst q4)) rfl rfl rfl rfl rfl rfl rfl 1 rfl (w_f52 _ _ _ h5 1) ⟨(Wv.refl _), trivial⟩ rfl ColN.no ?_
    refine AL.v good (d := 3) (v := .sl (.own 1) 7 (r_st_GInst q4)) rfl rfl rfl rfl ?_
    refine AW.seq ?_
    refine AW.region (M := fun _ => true) ?_
    refine AL.v good (d := 53) (v := .sl (.own 1) 7 (r_st_GInst q4)) rfl rfl rfl rfl ?_
    refine AL.v good (d := 54) (v := .int .i64 1) rfl rfl rfl rfl ?_
    refine AL.cw good (d := 55) (xs := [.str ⟨#[101, 109, 105, 116]⟩, .int .i64 1]) (res := .agg [.str ⟨#[101, 109, 105, 116]⟩, .int .i64 0, .int .i64 0, .bool false, .str ⟨#[]⟩, .sl .ro 5 (encs []), .int .i64 1]) rfl rfl rfl rfl rfl rfl rfl (w_f86 ⟨#[101, 109, 105, 116]⟩ 1) ⟨(Wv.refl _), (Wv.refl _), trivial⟩ (by simp [pureA, pureL, pureR, inA, inL, inR, inO, idsIn, encs_pure, enxs_pure, enys_pure, valC_pure, exC_pure, tyC_pure, r_int_u8_pure, r_st_GInst_pure, r_sl_st_GInst_pure, r_st_GMiss_pure]) ?_
    refine AL.cw good (d := 56) (xs := [.str ⟨#[114, 101, 116]⟩, .int .i64 0]) (res := .agg [.str ⟨#[114, 101, 116]⟩, .int .i64 0, .int .i64 0, .bool false, .str ⟨#[]⟩, .sl .ro 5 (encs []), .int .i64 0]) rfl rfl rfl rfl rfl rfl rfl (w_f86 ⟨#[114, 101, 116]⟩ 0) ⟨(Wv.refl _), (Wv.refl _), trivial⟩ (by simp [pureA, pureL, pureR, inA, inL, inR, inO, idsIn, encs_pure, enxs_pure, enys_pure, valC_pure, exC_pure, tyC_pure, r_int_u8_pure, r_st_GInst_pure, r_sl_st_GInst_pure, r_st_GMiss_pure]) ?_
    refine AL.lit good (d := 57) (rows := [[.str ⟨#[101, 109, 105, 116]⟩, .int .i64 0, .int .i64 0, .bool false, .str ⟨#[]⟩, .sl .ro 5 (encs []), .int .i64 1], [.str ⟨#[114, 101, 116]⟩, .int .i64 0, .int .i64 0, .bool false, .str ⟨#[]⟩, .sl .ro 5 (encs []), .int .i64 0]]) rfl rfl rfl rfl rfl rfl rfl rfl rfl 2 rfl ?_
    obtain ⟨h6, hr⟩ := grd hr
    refine AL.aw2 good (d := 58) (rows := r_st_GInst q4) (news := [[.str (((GInst.mk ⟨#[101, 109, 105, 116]⟩ (Val.mk 0 0 false ⟨#[]⟩ []) 1)).f0), .int .i64 ((((GInst.mk ⟨#[101, 109, 105, 116]⟩ (Val.mk 0 0 false ⟨#[]⟩ []) 1)).f1).kind), .int .i64 ((((GInst.mk ⟨#[101, 109, 105, 116]⟩ (Val.mk 0 0 false ⟨#[]⟩ []) 1)).f1).i), .bool ((((GInst.mk ⟨#[101, 109, 105, 116]⟩ (Val.mk 0 0 false ⟨#[]⟩ []) 1)).f1).b), .str ((((GInst.mk ⟨#[101, 109, 105, 116]⟩ (Val.mk 0 0 false ⟨#[]⟩ []) 1)).f1).s), .sl .ro 5 (encs ((((GInst.mk ⟨#[101, 109, 105, 116]⟩ (Val.mk 0 0 false ⟨#[]⟩ []) 1)).f1).t)), .int .i64 (((GInst.mk ⟨#[101, 109, 105, 116]⟩ (Val.mk 0 0 false ⟨#[]⟩ []) 1)).f2)], [.str (((GInst.mk ⟨#[114, 101, 116]⟩ (Val.mk 0 0 false ⟨#[]⟩ []) 0)).f0), .int .i64 ((((GInst.mk ⟨#[114, 101, 116]⟩ (Val.mk 0 0 false ⟨#[]⟩ []) 0)).f1).kind), .int .i64 ((((GInst.mk ⟨#[114, 101, 116]⟩ (Val.mk 0 0 false ⟨#[]⟩ []) 0)).f1).i), .bool ((((GInst.mk ⟨#[114, 101, 116]⟩ (Val.mk 0 0 false ⟨#[]⟩ []) 0)).f1).b), .str ((((GInst.mk ⟨#[114, 101, 116]⟩ (Val.mk 0 0 false ⟨#[]⟩ []) 0)).f1).s), .sl .ro 5 (encs ((((GInst.mk ⟨#[114, 101, 116]⟩ (Val.mk 0 0 false ⟨#[]⟩ []) 0)).f1).t)), .int .i64 (((GInst.mk ⟨#[114, 101, 116]⟩ (Val.mk 0 0 false ⟨#[]⟩ []) 0)).f2)]]) (rows2 := r_st_GInst (q4 ++ [(GInst.mk ⟨#[101, 109, 105, 116]⟩ (Val.mk 0 0 false ⟨#[]⟩ []) 1), (GInst.mk ⟨#[114, 101, 116]⟩ (Val.mk 0 0 false ⟨#[]⟩ []) 0)])) rfl rfl rfl rfl rfl rfl rfl rfl rfl (by simp) rfl rfl rfl ⟨⟨Wv.refl _, Wv.refl _, Wv.refl _, Wv.refl _, Wv.refl _, Wv.refl _, Wv.refl _, trivial⟩, ⟨Wv.refl _, Wv.refl _, Wv.refl _, Wv.refl _, Wv.refl _, Wv.refl _, Wv.refl _, trivial⟩, trivial⟩ (by simp [r_st_GInst, rowF]) (by rw [r_st_GInst_length, List.length_append]; exact h6) rfl ?_
    refine AL.v good (d := 2) (v := .sl (.own 1) 7 (r_st_GInst (q4 ++ [(GInst.mk ⟨#[101, 109, 105, 116]⟩ (Val.mk 0 0 false ⟨#[]⟩ []) 1), (GInst.mk ⟨#[114, 101, 116]⟩ (Val.mk 0 0 false ⟨#[]⟩ []) 0)]))) rfl rfl rfl rfl ?_
    refine AW.ret ?_
    obtain rfl := Option.some.inj hr
    exact RetN.w good (.inr rfl) rfl rfl (WvR.refl _) rfl
  · replace hr := cnd_f h1 hr
    refine AW.region (M := fun _ => true) ?_
    refine AL.v good (d := 12) (v := .bool (a0.f0 == 5)) rfl rfl rfl rfl ?_
    refine AL.v good (d := 10) (v := .bool (a0.f0 == 5)) rfl rfl rfl rfl ?_
    refine AW.if rfl (fun h7 => ?_) (fun h7 => ?_)
    · replace hr := cnd_t h7 hr
      refine AW.region (M := fun _ => true) ?_
      refine AL.v good (d := 13) (v := .ptr 0 4) rfl rfl rfl rfl ?_
      refine AL.v good (d := 14) (v := .sl .ro 8 (enxs a0.f3)) rfl rfl rfl rfl ?_
      obtain ⟨x8, h9, hr⟩ := bnd1 hr
      refine AL.ix good (d := 15) (r := [.str x8.op, .int .i64 x8.v.kind, .int .i64 x8.v.i, .bool x8.v.b, .str x8.v.s, .sl .ro 5 (encs x8.v.t), .int .i64 x8.n, .sl .ro 8 (enxs x8.a)]) rfl rfl rfl rfl rfl rfl rfl (by decide) (enxs_get h9) ?_
      refine AL.v good (d := 16) (v := .agg [.str x8.op, .int .i64 x8.v.kind, .int .i64 x8.v.i, .bool x8.v.b, .str x8.v.s, .sl .ro 5 (encs x8.v.t), .int .i64 x8.n, .sl .ro 8 (enxs x8.a)]) rfl rfl rfl rfl ?_
      obtain ⟨q10, h11, hr⟩ := bnd1 hr
      refine AL.clF good (d := 17) (xs := [.agg (exC x8)]) (ob := .row 132 7 (r_st_GInst q10).length) (res := .sl (.own 1) 7 (r_st_GInst q10)) rfl rfl rfl rfl rfl rfl rfl 1 rfl (w_f52 _ _ _ h11 1) ⟨(Wv.refl _), trivial⟩ rfl ColN.no ?_
      refine AL.v good (d := 3) (v := .sl (.own 1) 7 (r_st_GInst q10)) rfl rfl rfl rfl ?_
      refine AW.seq ?_
      refine AW.region (M := fun _ => true) ?_
      refine AL.v good (d := 53) (v := .sl (.own 1) 7 (r_st_GInst q10)) rfl rfl rfl rfl ?_
      refine AL.v good (d := 54) (v := .int .i64 1) rfl rfl rfl rfl ?_
      refine AL.cw good (d := 55) (xs := [.str ⟨#[101, 109, 105, 116]⟩, .int .i64 1]) (res := .agg [.str ⟨#[101, 109, 105, 116]⟩, .int .i64 0, .int .i64 0, .bool false, .str ⟨#[]⟩, .sl .ro 5 (encs []), .int .i64 1]) rfl rfl rfl rfl rfl rfl rfl (w_f86 ⟨#[101, 109, 105, 116]⟩ 1) ⟨(Wv.refl _), (Wv.refl _), trivial⟩ (by simp [pureA, pureL, pureR, inA, inL, inR, inO, idsIn, encs_pure, enxs_pure, enys_pure, valC_pure, exC_pure, tyC_pure, r_int_u8_pure, r_st_GInst_pure, r_sl_st_GInst_pure, r_st_GMiss_pure]) ?_
      refine AL.cw good (d := 56) (xs := [.str ⟨#[114, 101, 116]⟩, .int .i64 0]) (res := .agg [.str ⟨#[114, 101, 116]⟩, .int .i64 0, .int .i64 0, .bool false, .str ⟨#[]⟩, .sl .ro 5 (encs []), .int .i64 0]) rfl rfl rfl rfl rfl rfl rfl (w_f86 ⟨#[114, 101, 116]⟩ 0) ⟨(Wv.refl _), (Wv.refl _), trivial⟩ (by simp [pureA, pureL, pureR, inA, inL, inR, inO, idsIn, encs_pure, enxs_pure, enys_pure, valC_pure, exC_pure, tyC_pure, r_int_u8_pure, r_st_GInst_pure, r_sl_st_GInst_pure, r_st_GMiss_pure]) ?_
      refine AL.lit good (d := 57) (rows := [[.str ⟨#[101, 109, 105, 116]⟩, .int .i64 0, .int .i64 0, .bool false, .str ⟨#[]⟩, .sl .ro 5 (encs []), .int .i64 1], [.str ⟨#[114, 101, 116]⟩, .int .i64 0, .int .i64 0, .bool false, .str ⟨#[]⟩, .sl .ro 5 (encs []), .int .i64 0]]) rfl rfl rfl rfl rfl rfl rfl rfl rfl 2 rfl ?_
      obtain ⟨h12, hr⟩ := grd hr
      refine AL.aw2 good (d := 58) (rows := r_st_GInst q10) (news := [[.str (((GInst.mk ⟨#[101, 109, 105, 116]⟩ (Val.mk 0 0 false ⟨#[]⟩ []) 1)).f0), .int .i64 ((((GInst.mk ⟨#[101, 109, 105, 116]⟩ (Val.mk 0 0 false ⟨#[]⟩ []) 1)).f1).kind), .int .i64 ((((GInst.mk ⟨#[101, 109, 105, 116]⟩ (Val.mk 0 0 false ⟨#[]⟩ []) 1)).f1).i), .bool ((((GInst.mk ⟨#[101, 109, 105, 116]⟩ (Val.mk 0 0 false ⟨#[]⟩ []) 1)).f1).b), .str ((((GInst.mk ⟨#[101, 109, 105, 116]⟩ (Val.mk 0 0 false ⟨#[]⟩ []) 1)).f1).s), .sl .ro 5 (encs ((((GInst.mk ⟨#[101, 109, 105, 116]⟩ (Val.mk 0 0 false ⟨#[]⟩ []) 1)).f1).t)), .int .i64 (((GInst.mk ⟨#[101, 109, 105, 116]⟩ (Val.mk 0 0 false ⟨#[]⟩ []) 1)).f2)], [.str (((GInst.mk ⟨#[114, 101, 116]⟩ (Val.mk 0 0 false ⟨#[]⟩ []) 0)).f0), .int .i64 ((((GInst.mk ⟨#[114, 101, 116]⟩ (Val.mk 0 0 false ⟨#[]⟩ []) 0)).f1).kind), .int .i64 ((((GInst.mk ⟨#[114, 101, 116]⟩ (Val.mk 0 0 false ⟨#[]⟩ []) 0)).f1).i), .bool ((((GInst.mk ⟨#[114, 101, 116]⟩ (Val.mk 0 0 false ⟨#[]⟩ []) 0)).f1).b), .str ((((GInst.mk ⟨#[114, 101, 116]⟩ (Val.mk 0 0 false ⟨#[]⟩ []) 0)).f1).s), .sl .ro 5 (encs ((((GInst.mk ⟨#[114, 101, 116]⟩ (Val.mk 0 0 false ⟨#[]⟩ []) 0)).f1).t)), .int .i64 (((GInst.mk ⟨#[114, 101, 116]⟩ (Val.mk 0 0 false ⟨#[]⟩ []) 0)).f2)]]) (rows2 := r_st_GInst (q10 ++ [(GInst.mk ⟨#[101, 109, 105, 116]⟩ (Val.mk 0 0 false ⟨#[]⟩ []) 1), (GInst.mk ⟨#[114, 101, 116]⟩ (Val.mk 0 0 false ⟨#[]⟩ []) 0)])) rfl rfl rfl rfl rfl rfl rfl rfl rfl (by simp) rfl rfl rfl ⟨⟨Wv.refl _, Wv.refl _, Wv.refl _, Wv.refl _, Wv.refl _, Wv.refl _, Wv.refl _, trivial⟩, ⟨Wv.refl _, Wv.refl _, Wv.refl _, Wv.refl _, Wv.refl _, Wv.refl _, Wv.refl _, trivial⟩, trivial⟩ (by simp [r_st_GInst, rowF]) (by rw [r_st_GInst_length, List.length_append]; exact h12) rfl ?_
      refine AL.v good (d := 2) (v := .sl (.own 1) 7 (r_st_GInst (q10 ++ [(GInst.mk ⟨#[101, 109, 105, 116]⟩ (Val.mk 0 0 false ⟨#[]⟩ []) 1), (GInst.mk ⟨#[114, 101, 116]⟩ (Val.mk 0 0 false ⟨#[]⟩ []) 0)]))) rfl rfl rfl rfl ?_
      refine AW.ret ?_
      obtain rfl := Option.some.inj hr
      exact RetN.w good (.inr rfl) rfl rfl (WvR.refl _) rfl
    · replace hr := cnd_f h7 hr
      refine AW.seq ?_
      refine AW.region (M := fun _ => true) ?_
      refine AL.v good (d := 19) (v := .bool (a0.f0 == 3)) rfl rfl rfl rfl ?_
      refine AL.v good (d := 18) (v := .bool (a0.f0 == 3)) rfl rfl rfl rfl ?_
      refine AW.if rfl (fun h13 => ?_) (fun h13 => ?_)
      · replace hr := cnd_t h13 hr
        refine AW.seq ?_
        refine AW.region (M := fun _ => true) ?_
        refine AL.v good (d := 20) (v := .ptr 0 4) rfl rfl rfl rfl ?_
        refine AL.v good (d := 21) (v := .sl .ro 8 (enxs a0.f3)) rfl rfl rfl rfl ?_
        obtain ⟨x14, h15, hr⟩ := bnd1 hr
        refine AL.ix good (d := 22) (r := [.str x14.op, .int .i64 x14.v.kind, .int .i64 x14.v.i, .bool x14.v.b, .str x14.v.s, .sl .ro 5 (encs x14.v.t), .int .i64 x14.n, .sl .ro 8 (enxs x14.a)]) rfl rfl rfl rfl rfl rfl rfl (by decide) (enxs_get h15) ?_
        refine AL.v good (d := 23) (v := .agg [.str x14.op, .int .i64 x14.v.kind, .int .i64 x14.v.i, .bool x14.v.b, .str x14.v.s, .sl .ro 5 (encs x14.v.t), .int .i64 x14.n, .sl .ro 8 (enxs x14.a)]) rfl rfl rfl rfl ?_
        obtain ⟨q16, h17, hr⟩ := bnd1 hr
        refine AL.clF good (d := 24) (xs := [.agg (exC x14)]) (ob := .row 132 7 (r_st_GInst q16).length) (res := .sl (.own 1) 7 (r_st_GInst q16)) rfl rfl rfl rfl rfl rfl rfl 1 rfl (w_f52 _ _ _ h17 1) ⟨(Wv.refl _), trivial⟩ rfl ColN.no ?_
        refine AL.v good (d := 3) (v := .sl (.own 1) 7 (r_st_GInst q16)) rfl rfl rfl rfl ?_
        refine AW.region (M := fun _ => true) ?_
        refine AL.v good (d := 25) (v := .sl (.own 1) 7 (r_st_GInst q16)) rfl rfl rfl rfl ?_
        refine AL.v good (d := 26) (v := .sl (.own 1) 7 (r_st_GInst q16)) rfl rfl rfl rfl ?_
        refine AL.ln good (d := 27) (m := q16.length) rfl rfl rfl rfl rfl rfl (r_st_GInst_length _) ?_
        refine AL.v good (d := 28) (v := .int .i64 (IntKind.i64.wrap ((q16.length : Int) + 3))) rfl rfl rfl rfl ?_
        refine AL.cw good (d := 29) (xs := [.str ⟨#[106, 102]⟩, .int .i64 (IntKind.i64.wrap ((q16.length : Int) + 3))]) (res := .agg [.str ⟨#[106, 102]⟩, .int .i64 0, .int .i64 0, .bool false, .str ⟨#[]⟩, .sl .ro 5 (encs []), .int .i64 (IntKind.i64.wrap ((q16.length : Int) + 3))]) rfl rfl rfl rfl rfl rfl rfl (w_f86 ⟨#[106, 102]⟩ (IntKind.i64.wrap ((q16.length : Int) + 3))) ⟨(Wv.refl _), (Wv.refl _), trivial⟩ (by simp [pureA, pureL, pureR, inA, inL, inR, inO, idsIn, encs_pure, enxs_pure, enys_pure, valC_pure, exC_pure, tyC_pure, r_int_u8_pure, r_st_GInst_pure, r_sl_st_GInst_pure, r_st_GMiss_pure]) ?_
        refine AL.cw good (d := 30) (xs := [.str ⟨#[120]⟩, .int .i64 0]) (res := .agg [.str ⟨#[120]⟩, .int .i64 0, .int .i64 0, .bool false, .str ⟨#[]⟩, .sl .ro 5 (encs []), .int .i64 0]) rfl rfl rfl rfl rfl rfl rfl (w_f86 ⟨#[120]⟩ 0) ⟨(Wv.refl _), (Wv.refl _), trivial⟩ (by simp [pureA, pureL, pureR, inA, inL, inR, inO, idsIn, encs_pure, enxs_pure, enys_pure, valC_pure, exC_pure, tyC_pure, r_int_u8_pure, r_st_GInst_pure, r_sl_st_GInst_pure, r_st_GMiss_pure]) ?_
        refine AL.lit good (d := 31) (rows := [[.str ⟨#[106, 102]⟩, .int .i64 0, .int .i64 0, .bool false, .str ⟨#[]⟩, .sl .ro 5 (encs []), .int .i64 (IntKind.i64.wrap ((q16.length : Int) + 3))], [.str ⟨#[120]⟩, .int .i64 0, .int .i64 0, .bool false, .str ⟨#[]⟩, .sl .ro 5 (encs []), .int .i64 0]]) rfl rfl rfl rfl rfl rfl rfl rfl rfl 2 rfl ?_
        obtain ⟨h18, hr⟩ := grd hr
        refine AL.aw2 good (d := 32) (rows := r_st_GInst q16) (news := [[.str (((GInst.mk ⟨#[106, 102]⟩ (Val.mk 0 0 false ⟨#[]⟩ []) (IntKind.i64.wrap ((q16.length : Int) + 3)))).f0), .int .i64 ((((GInst.mk ⟨#[106, 102]⟩ (Val.mk 0 0 false ⟨#[]⟩ []) (IntKind.i64.wrap ((q16.length : Int) + 3)))).f1).kind), .int .i64 ((((GInst.mk ⟨#[106, 102]⟩ (Val.mk 0 0 false ⟨#[]⟩ []) (IntKind.i64.wrap ((q16.length : Int) + 3)))).f1).i), .bool ((((GInst.mk ⟨#[106, 102]⟩ (Val.mk 0 0 false ⟨#[]⟩ []) (IntKind.i64.wrap ((q16.length : Int) + 3)))).f1).b), .str ((((GInst.mk ⟨#[106, 102]⟩ (Val.mk 0 0 false ⟨#[]⟩ []) (IntKind.i64.wrap ((q16.length : Int) + 3)))).f1).s), .sl .ro 5 (encs ((((GInst.mk ⟨#[106, 102]⟩ (Val.mk 0 0 false ⟨#[]⟩ []) (IntKind.i64.wrap ((q16.length : Int) + 3)))).f1).t)), .int .i64 (((GInst.mk ⟨#[106, 102]⟩ (Val.mk 0 0 false ⟨#[]⟩ []) (IntKind.i64.wrap ((q16.length : Int) + 3)))).f2)], [.str (((GInst.mk ⟨#[120]⟩ (Val.mk 0 0 false ⟨#[]⟩ []) 0)).f0), .int .i64 ((((GInst.mk ⟨#[120]⟩ (Val.mk 0 0 false ⟨#[]⟩ []) 0)).f1).kind), .int .i64 ((((GInst.mk ⟨#[120]⟩ (Val.mk 0 0 false ⟨#[]⟩ []) 0)).f1).i), .bool ((((GInst.mk ⟨#[120]⟩ (Val.mk 0 0 false ⟨#[]⟩ []) 0)).f1).b), .str ((((GInst.mk ⟨#[120]⟩ (Val.mk 0 0 false ⟨#[]⟩ []) 0)).f1).s), .sl .ro 5 (encs ((((GInst.mk ⟨#[120]⟩ (Val.mk 0 0 false ⟨#[]⟩ []) 0)).f1).t)), .int .i64 (((GInst.mk ⟨#[120]⟩ (Val.mk 0 0 false ⟨#[]⟩ []) 0)).f2)]]) (rows2 := r_st_GInst (q16 ++ [(GInst.mk ⟨#[106, 102]⟩ (Val.mk 0 0 false ⟨#[]⟩ []) (IntKind.i64.wrap ((q16.length : Int) + 3))), (GInst.mk ⟨#[120]⟩ (Val.mk 0 0 false ⟨#[]⟩ []) 0)])) rfl rfl rfl rfl rfl rfl rfl rfl rfl (by simp) rfl rfl rfl ⟨⟨Wv.refl _, Wv.refl _, Wv.refl _, Wv.refl _, Wv.refl _, Wv.refl _, Wv.refl _, trivial⟩, ⟨Wv.refl _, Wv.refl _, Wv.refl _, Wv.refl _, Wv.refl _, Wv.refl _, Wv.refl _, trivial⟩, trivial⟩ (by simp [r_st_GInst, rowF]) (by rw [r_st_GInst_length, List.length_append]; exact h18) rfl ?_
        refine AL.v good (d := 3) (v := .sl (.own 1) 7 (r_st_GInst (q16 ++ [(GInst.mk ⟨#[106, 102]⟩ (Val.mk 0 0 false ⟨#[]⟩ []) (IntKind.i64.wrap ((q16.length : Int) + 3))), (GInst.mk ⟨#[120]⟩ (Val.mk 0 0 false ⟨#[]⟩ []) 0)]))) rfl rfl rfl rfl ?_
        refine AW.seq ?_
        refine AW.region (M := fun _ => true) ?_
        refine AL.v good (d := 53) (v := .sl (.own 1) 7 (r_st_GInst (q16 ++ [(GInst.mk ⟨#[106, 102]⟩ (Val.mk 0 0 false ⟨#[]⟩ []) (IntKind.i64.wrap ((q16.length : Int) + 3))), (GInst.mk ⟨#[120]⟩ (Val.mk 0 0 false ⟨#[]⟩ []) 0)]))) rfl rfl rfl rfl ?_
        refine AL.v good (d := 54) (v := .int .i64 1) rfl rfl rfl rfl ?_
        refine AL.cw good (d := 55) (xs := [.str ⟨#[101, 109, 105, 116]⟩, .int .i64 1]) (res := .agg [.str ⟨#[101, 109, 105, 116]⟩, .int .i64 0, .int .i64 0, .bool false, .str ⟨#[]⟩, .sl .ro 5 (encs []), .int .i64 1]) rfl rfl rfl rfl rfl rfl rfl (w_f86 ⟨#[101, 109, 105, 116]⟩ 1) ⟨(Wv.refl _), (Wv.refl _), trivial⟩ (by simp [pureA, pureL, pureR, inA, inL, inR, inO, idsIn, encs_pure, enxs_pure, enys_pure, valC_pure, exC_pure, tyC_pure, r_int_u8_pure, r_st_GInst_pure, r_sl_st_GInst_pure, r_st_GMiss_pure]) ?_
        refine AL.cw good (d := 56) (xs := [.str ⟨#[114, 101, 116]⟩, .int .i64 0]) (res := .agg [.str ⟨#[114, 101, 116]⟩, .int .i64 0, .int .i64 0, .bool false, .str ⟨#[]⟩, .sl .ro 5 (encs []), .int .i64 0]) rfl rfl rfl rfl rfl rfl rfl (w_f86 ⟨#[114, 101, 116]⟩ 0) ⟨(Wv.refl _), (Wv.refl _), trivial⟩ (by simp [pureA, pureL, pureR, inA, inL, inR, inO, idsIn, encs_pure, enxs_pure, enys_pure, valC_pure, exC_pure, tyC_pure, r_int_u8_pure, r_st_GInst_pure, r_sl_st_GInst_pure, r_st_GMiss_pure]) ?_
        refine AL.lit good (d := 57) (rows := [[.str ⟨#[101, 109, 105, 116]⟩, .int .i64 0, .int .i64 0, .bool false, .str ⟨#[]⟩, .sl .ro 5 (encs []), .int .i64 1], [.str ⟨#[114, 101, 116]⟩, .int .i64 0, .int .i64 0, .bool false, .str ⟨#[]⟩, .sl .ro 5 (encs []), .int .i64 0]]) rfl rfl rfl rfl rfl rfl rfl rfl rfl 3 rfl ?_
        obtain ⟨h19, hr⟩ := grd hr
        refine AL.aw2 good (d := 58) (rows := r_st_GInst (q16 ++ [(GInst.mk ⟨#[106, 102]⟩ (Val.mk 0 0 false ⟨#[]⟩ []) (IntKind.i64.wrap ((q16.length : Int) + 3))), (GInst.mk ⟨#[120]⟩ (Val.mk 0 0 false ⟨#[]⟩ []) 0)])) (news := [[.str (((GInst.mk ⟨#[101, 109, 105, 116]⟩ (Val.mk 0 0 false ⟨#[]⟩ []) 1)).f0), .int .i64 ((((GInst.mk ⟨#[101, 109, 105, 116]⟩ (Val.mk 0 0 false ⟨#[]⟩ []) 1)).f1).kind), .int .i64 ((((GInst.mk ⟨#[101, 109, 105, 116]⟩ (Val.mk 0 0 false ⟨#[]⟩ []) 1)).f1).i), .bool ((((GInst.mk ⟨#[101, 109, 105, 116]⟩ (Val.mk 0 0 false ⟨#[]⟩ []) 1)).f1).b), .str ((((GInst.mk ⟨#[101, 109, 105, 116]⟩ (Val.mk 0 0 false ⟨#[]⟩ []) 1)).f1).s), .sl .ro 5 (encs ((((GInst.mk ⟨#[101, 109, 105, 116]⟩ (Val.mk 0 0 false ⟨#[]⟩ []) 1)).f1).t)), .int .i64 (((GInst.mk ⟨#[101, 109, 105, 116]⟩ (Val.mk 0 0 false ⟨#[]⟩ []) 1)).f2)], [.str (((GInst.mk ⟨#[114, 101, 116]⟩ (Val.mk 0 0 false ⟨#[]⟩ []) 0)).f0), .int .i64 ((((GInst.mk ⟨#[114, 101, 116]⟩ (Val.mk 0 0 false ⟨#[]⟩ []) 0)).f1).kind), .int .i64 ((((GInst.mk ⟨#[114, 101, 116]⟩ (Val.mk 0 0 false ⟨#[]⟩ []) 0)).f1).i), .bool ((((GInst.mk ⟨#[114, 101, 116]⟩ (Val.mk 0 0 false ⟨#[]⟩ []) 0)).f1).b), .str ((((GInst.mk ⟨#[114, 101, 116]⟩ (Val.mk 0 0 false ⟨#[]⟩ []) 0)).f1).s), .sl .ro 5 (encs ((((GInst.mk ⟨#[114, 101, 116]⟩ (Val.mk 0 0 false ⟨#[]⟩ []) 0)).f1).t)), .int .i64 (((GInst.mk ⟨#[114, 101, 116]⟩ (Val.mk 0 0 false ⟨#[]⟩ []) 0)).f2)]]) (rows2 := r_st_GInst ((q16 ++ [(GInst.mk ⟨#[106, 102]⟩ (Val.mk 0 0 false ⟨#[]⟩ []) (IntKind.i64.wrap ((q16.length : Int) + 3))), (GInst.mk ⟨#[120]⟩ (Val.mk 0 0 false ⟨#[]⟩ []) 0)]) ++ [(GInst.mk ⟨#[101, 109, 105, 116]⟩ (Val.mk 0 0 false ⟨#[]⟩ []) 1), (GInst.mk ⟨#[114, 101, 116]⟩ (Val.mk 0 0 false ⟨#[]⟩ []) 0)])) rfl rfl rfl rfl rfl rfl rfl rfl rfl (by simp) rfl rfl rfl ⟨⟨Wv.refl _, Wv.refl _, Wv.refl _, Wv.refl _, Wv.refl _, Wv.refl _, Wv.refl _, trivial⟩, ⟨Wv.refl _, Wv.refl _, Wv.refl _, Wv.refl _, Wv.refl _, Wv.refl _, Wv.refl _, trivial⟩, trivial⟩ (by simp [r_st_GInst, rowF]) (by rw [r_st_GInst_length, List.length_append]; exact h19) rfl ?_
        refine AL.v good (d := 2) (v := .sl (.own 1) 7 (r_st_GInst ((q16 ++ [(GInst.mk ⟨#[106, 102]⟩ (Val.mk 0 0 false ⟨#[]⟩ []) (IntKind.i64.wrap ((q16.length : Int) + 3))), (GInst.mk ⟨#[120]⟩ (Val.mk 0 0 false ⟨#[]⟩ []) 0)]) ++ [(GInst.mk ⟨#[101, 109, 105, 116]⟩ (Val.mk 0 0 false ⟨#[]⟩ []) 1), (GInst.mk ⟨#[114, 101, 116]⟩ (Val.mk 0 0 false ⟨#[]⟩ []) 0)]))) rfl rfl rfl rfl ?_
        refine AW.ret ?_
        obtain rfl := Option.some.inj hr
        exact RetN.w good (.inr rfl) rfl rfl (WvR.refl _) rfl
      · replace hr := cnd_f h13 hr
        refine AW.seq ?_
        refine AW.region (M := fun _ => true) ?_
        refine AL.v good (d := 34) (v := .bool (a0.f0 == 4)) rfl rfl rfl rfl ?_
        refine AL.v good (d := 33) (v := .bool (a0.f0 == 4)) rfl rfl rfl rfl ?_
        refine AW.if rfl (fun h20 => ?_) (fun h20 => ?_)
        · replace hr := cnd_t h20 hr
          refine AW.seq ?_
          refine AW.seq ?_
          refine AW.region (M := fun _ => true) ?_
          refine AL.v good (d := 5) (v := .int .i64 0) rfl rfl rfl rfl ?_
          refine AW.block ?_
          refine AW.adopt 3 rfl 1 7 132 rfl rfl ?_
          refine AW.lensB 0 rfl (fun hl29 => ?_)
          replace hl29 : a0.f3.length ≤ 9223372036854775807 := by rw [← enxs_length a0.f3]; exact hl29.2.2.2.2.1
          refine AW.lpw (fun x : Nat × (List GInst) × Nat => [(1, .ptr 0 0), (3, .sl (.own 1) 7 (r_st_GInst x.2.1)), (5, .int .i64 (x.2.2 : Int))]) (fun x => [(0, .box 150 [.int .i64 a0.f0, .str a0.f1, .int .i64 a0.f2.kind, .sl .ro 2 (enys a0.f2.of), .sl .ro 8 (enxs a0.f3), .str a0.f4.op, .int .i64 a0.f4.v.kind, .int .i64 a0.f4.v.i, .bool a0.f4.v.b, .str a0.f4.v.s, .sl .ro 5 (encs a0.f4.v.t), .int .i64 a0.f4.n, .sl .ro 8 (enxs a0.f4.a), .int .i64 a0.f5, .int .i64 a0.f6]), (1, .row 132 7 (r_st_GInst x.2.1).length)]) (fun x => s_f75_l1 x.1 a0 x.2.1 x.2.2 = some r ∧ x.1 ≤ n) (fun x => x.1) (n, [], 0) ⟨(fun _ h => by cases h), List.forall_mem_cons.2 ⟨⟨⟨_, rfl, Wv.refl _⟩, (by simp [pureA, pureL, pureR, inA, inL, inR, inO, idsIn, encs_pure, enxs_pure, enys_pure, valC_pure, exC_pure, tyC_pure, r_int_u8_pure, r_st_GInst_pure, r_sl_st_GInst_pure, r_st_GMiss_pure])⟩, List.forall_mem_cons.2 ⟨⟨⟨_, rfl, Wv.refl _⟩, (by simp [pureA, pureL, pureR, inA, inL, inR, inO, idsIn, encs_pure, enxs_pure, enys_pure, valC_pure, exC_pure, tyC_pure, r_int_u8_pure, r_st_GInst_pure, r_sl_st_GInst_pure, r_st_GMiss_pure])⟩, List.forall_mem_cons.2 ⟨⟨⟨_, rfl, Wv.refl _⟩, (by simp [pureA, pureL, pureR, inA, inL, inR, inO, idsIn, encs_pure, enxs_pure, enys_pure, valC_pure, exC_pure, tyC_pure, r_int_u8_pure, r_st_GInst_pure, r_sl_st_GInst_pure, r_st_GMiss_pure])⟩, (fun _ h => by cases h)⟩⟩⟩, List.forall_mem_cons.2 ⟨⟨⟨_, rfl, ⟨rfl, ⟨Wv.refl _, Wv.refl _, Wv.refl _, Wv.refl _, Wv.refl _, Wv.refl _, Wv.refl _, Wv.refl _, Wv.refl _, Wv.refl _, Wv.refl _, Wv.refl _, Wv.refl _, Wv.refl _, Wv.refl _, trivial⟩⟩⟩, (by simp [pureA, pureL, pureR, inA, inL, inR, inO, idsIn, encs_pure, enxs_pure, enys_pure, valC_pure, exC_pure, tyC_pure, r_int_u8_pure, r_st_GInst_pure, r_sl_st_GInst_pure, r_st_GMiss_pure])⟩, List.forall_mem_cons.2 ⟨⟨⟨_, rfl, ⟨rfl, rfl, rfl⟩⟩, (by simp [pureA, pureL, pureR, inA, inL, inR, inO, idsIn, encs_pure, enxs_pure, enys_pure, valC_pure, exC_pure, tyC_pure, r_int_u8_pure, r_st_GInst_pure, r_sl_st_GInst_pure, r_st_GMiss_pure])⟩, (fun _ h => by cases h)⟩⟩⟩ ⟨hr, Nat.le_refl _⟩ (fun ⟨m, v1_1, v1_2⟩ hx => ?_)
          obtain ⟨hr, hm⟩ := hx
          try dsimp only at hr hm
          cases m with
          | zero => rw [s_f75_l1] at hr; cases hr
          | succ m =>
            rw [s_f75_l1] at hr
            show AW Try.prog _ _ _ (mkS 59 [(1, .ptr 0 0), (3, .sl (.own 1) 7 (r_st_GInst v1_1)), (5, .int .i64 (v1_2 : Int))] [(0, .box 150 [.int .i64 a0.f0, .str a0.f1, .int .i64 a0.f2.kind, .sl .ro 2 (enys a0.f2.of), .sl .ro 8 (enxs a0.f3), .str a0.f4.op, .int .i64 a0.f4.v.kind, .int .i64 a0.f4.v.i, .bool a0.f4.v.b, .str a0.f4.v.s, .sl .ro 5 (encs a0.f4.v.t), .int .i64 a0.f4.n, .sl .ro 8 (enxs a0.f4.a), .int .i64 a0.f5, .int .i64 a0.f6]), (1, .row 132 7 (r_st_GInst v1_1).length)])
            refine AW.seq ?_
            refine AW.seq ?_
            refine AW.region (M := fun _ => true) ?_
            refine AL.v good (d := 35) (v := .int .i64 (v1_2 : Int)) rfl rfl rfl rfl ?_
            refine AL.v good (d := 36) (v := .ptr 0 4) rfl rfl rfl rfl ?_
            refine AL.v good (d := 37) (v := .sl .ro 8 (enxs a0.f3)) rfl rfl rfl rfl ?_
            refine AL.ln good (d := 38) (m := a0.f3.length) rfl rfl rfl rfl rfl rfl (enxs_length _) ?_
            refine AL.v good (d := 39) (v := .bool (decide ((v1_2 : Int) < (a0.f3.length : Int)))) rfl rfl rfl rfl ?_
            refine AW.if rfl (fun h30 => ?_) (fun h30 => ?_)
            · replace hr := cnd_t h30 hr
              refine AW.skip ?_
              refine AW.seq ?_
              refine AW.block ?_
              refine AW.region (M := fun _ => true) ?_
              refine AL.v good (d := 42) (v := .sl (.own 1) 7 (r_st_GInst v1_1)) rfl rfl rfl rfl ?_
              refine AL.v good (d := 43) (v := .ptr 0 4) rfl rfl rfl rfl ?_
              refine AL.v good (d := 44) (v := .sl .ro 8 (enxs a0.f3)) rfl rfl rfl rfl ?_
              refine AL.v good (d := 45) (v := .int .i64 (v1_2 : Int)) rfl rfl rfl rfl ?_
              obtain ⟨x31, h32, hr⟩ := bnd1 hr
              refine AL.ix good (d := 46) (r := [.str x31.op, .int .i64 x31.v.kind, .int .i64 x31.v.i, .bool x31.v.b, .str x31.v.s, .sl .ro 5 (encs x31.v.t), .int .i64 x31.n, .sl .ro 8 (enxs x31.a)]) rfl rfl rfl rfl rfl rfl rfl (Int.natCast_nonneg _) (enxs_get h32) ?_
              refine AL.v good (d := 47) (v := .agg [.str x31.op, .int .i64 x31.v.kind, .int .i64 x31.v.i, .bool x31.v.b, .str x31.v.s, .sl .ro 5 (encs x31.v.t), .int .i64 x31.n, .sl .ro 8 (enxs x31.a)]) rfl rfl rfl rfl ?_
              obtain ⟨q33, h34, hr⟩ := bnd1 hr
              refine AL.clF good (d := 48) (xs := [.agg (exC x31)]) (ob := .row 132 7 (r_st_GInst q33).length) (res := .sl (.own 2) 7 (r_st_GInst q33)) rfl rfl rfl rfl rfl rfl rfl 2 rfl (w_f52 _ _ _ h34 2) ⟨(Wv.refl _), trivial⟩ rfl ColN.no ?_
              obtain ⟨q35, h36, hr⟩ := bnd1 hr
              refine AL.clF good (d := 49) (xs := [.sl .ro 7 (r_st_GInst v1_1), .sl .ro 7 (r_st_GInst q33)]) (ob := .row 132 7 (r_st_GInst q35).length) (res := .sl (.own 3) 7 (r_st_GInst q35)) rfl rfl rfl rfl rfl rfl rfl 3 rfl (w_f89 _ _ _ _ h36 3) ⟨⟨.inr rfl, WvR.refl _, .inl rfl⟩, ⟨.inr rfl, WvR.refl _, .inl rfl⟩, trivial⟩ rfl ColN.no ?_
              refine AL.v good (d := 3) (v := .sl (.own 3) 7 (r_st_GInst q35)) rfl rfl rfl rfl ?_
              refine AW.ren 3 1 3 rfl rfl [(1, .ptr 0 0), (5, .int .i64 (v1_2 : Int))] [(0, .box 150 [.int .i64 a0.f0, .str a0.f1, .int .i64 a0.f2.kind, .sl .ro 2 (enys a0.f2.of), .sl .ro 8 (enxs a0.f3), .str a0.f4.op, .int .i64 a0.f4.v.kind, .int .i64 a0.f4.v.i, .bool a0.f4.v.b, .str a0.f4.v.s, .sl .ro 5 (encs a0.f4.v.t), .int .i64 a0.f4.n, .sl .ro 8 (enxs a0.f4.a), .int .i64 a0.f5, .int .i64 a0.f6])] (List.forall_mem_cons.2 ⟨⟨rfl, (by simp [pureA, pureL, pureR, inA, inL, inR, inO, idsIn, encs_pure, enxs_pure, enys_pure, valC_pure, exC_pure, tyC_pure, r_int_u8_pure, r_st_GInst_pure, r_sl_st_GInst_pure, r_st_GMiss_pure])⟩, List.forall_mem_cons.2 ⟨⟨rfl, (by simp [pureA, pureL, pureR, inA, inL, inR, inO, idsIn, encs_pure, enxs_pure, enys_pure, valC_pure, exC_pure, tyC_pure, r_int_u8_pure, r_st_GInst_pure, r_sl_st_GInst_pure, r_st_GMiss_pure])⟩, (fun _ h => by cases h)⟩⟩) (List.forall_mem_cons.2 ⟨⟨rfl, (by simp [pureA, pureL, pureR, inA, inL, inR, inO, idsIn, encs_pure, enxs_pure, enys_pure, valC_pure, exC_pure, tyC_pure, r_int_u8_pure, r_st_GInst_pure, r_sl_st_GInst_pure, r_st_GMiss_pure])⟩, (fun _ h => by cases h)⟩) rfl rfl (fun _ h => by cases h) (r_st_GInst_pure _ _) ?_
              refine AW.region (M := fun _ => true) ?_
              refine AL.v good (d := 40) (v := .int .i64 (v1_2 : Int)) rfl rfl rfl rfl ?_
              refine AL.v good (d := 41) (v := .int .i64 (IntKind.i64.wrap ((v1_2 : Int) + 1))) rfl rfl rfl rfl ?_
              refine AL.v good (d := 5) (v := .int .i64 (IntKind.i64.wrap ((v1_2 : Int) + 1))) rfl rfl rfl rfl ?_
              exact ⟨(m, q35, (v1_2 + 1)), _, _, rfl, ⟨(fun _ h => by cases h), List.forall_mem_cons.2 ⟨⟨⟨_, rfl, Wv.refl _⟩, (by simp [pureA, pureL, pureR, inA, inL, inR, inO, idsIn, encs_pure, enxs_pure, enys_pure, valC_pure, exC_pure, tyC_pure, r_int_u8_pure, r_st_GInst_pure, r_sl_st_GInst_pure, r_st_GMiss_pure])⟩, List.forall_mem_cons.2 ⟨⟨⟨_, rfl, Wv.refl _⟩, (by simp [pureA, pureL, pureR, inA, inL, inR, inO, idsIn, encs_pure, enxs_pure, enys_pure, valC_pure, exC_pure, tyC_pure, r_int_u8_pure, r_st_GInst_pure, r_sl_st_GInst_pure, r_st_GMiss_pure])⟩, List.forall_mem_cons.2 ⟨⟨⟨_, rfl, (wnx h30 hl29)⟩, (by simp [pureA, pureL, pureR, inA, inL, inR, inO, idsIn, encs_pure, enxs_pure, enys_pure, valC_pure, exC_pure, tyC_pure, r_int_u8_pure, r_st_GInst_pure, r_sl_st_GInst_pure, r_st_GMiss_pure])⟩, (fun _ h => by cases h)⟩⟩⟩, List.forall_mem_cons.2 ⟨⟨⟨_, rfl, ⟨rfl, ⟨Wv.refl _, Wv.refl _, Wv.refl _, Wv.refl _, Wv.refl _, Wv.refl _, Wv.refl _, Wv.refl _, Wv.refl _, Wv.refl _, Wv.refl _, Wv.refl _, Wv.refl _, Wv.refl _, Wv.refl _, trivial⟩⟩⟩, (by simp [pureA, pureL, pureR, inA, inL, inR, inO, idsIn, encs_pure, enxs_pure, enys_pure, valC_pure, exC_pure, tyC_pure, r_int_u8_pure, r_st_GInst_pure, r_sl_st_GInst_pure, r_st_GMiss_pure])⟩, List.forall_mem_cons.2 ⟨⟨⟨_, rfl, ⟨rfl, rfl, rfl⟩⟩, (by simp [pureA, pureL, pureR, inA, inL, inR, inO, idsIn, encs_pure, enxs_pure, enys_pure, valC_pure, exC_pure, tyC_pure, r_int_u8_pure, r_st_GInst_pure, r_sl_st_GInst_pure, r_st_GMiss_pure])⟩, (fun _ h => by cases h)⟩⟩⟩, ⟨hr, Nat.le_of_succ_le hm⟩, Nat.lt_succ_self _⟩
            · replace hr := cnd_f h30 hr
              refine AW.exit ?_
              refine AW.region (M := fun _ => true) ?_
              refine AL.v good (d := 50) (v := .ptr 0 4) rfl rfl rfl rfl ?_
              refine AL.v good (d := 51) (v := .sl .ro 8 (enxs a0.f3)) rfl rfl rfl rfl ?_
              refine AL.ln good (d := 52) (m := a0.f3.length) rfl rfl rfl rfl rfl rfl (enxs_length _) ?_
              refine AL.v good (d := 4) (v := .int .i64 (a0.f3.length : Int)) rfl rfl rfl rfl ?_
              refine AW.seq ?_
              refine AW.region (M := fun _ => true) ?_
              refine AL.v good (d := 53) (v := .sl (.own 1) 7 (r_st_GInst v1_1)) rfl rfl rfl rfl ?_
              refine AL.v good (d := 54) (v := .int .i64 (a0.f3.length : Int)) rfl rfl rfl rfl ?_
              refine AL.cw good (d := 55) (xs := [.str ⟨#[101, 109, 105, 116]⟩, .int .i64 (a0.f3.length : Int)]) (res := .agg [.str ⟨#[101, 109, 105, 116]⟩, .int .i64 0, .int .i64 0, .bool false, .str ⟨#[]⟩, .sl .ro 5 (encs []), .int .i64 (a0.f3.length : Int)]) rfl rfl rfl rfl rfl rfl rfl (w_f86 ⟨#[101, 109, 105, 116]⟩ (a0.f3.length : Int)) ⟨(Wv.refl _), (Wv.refl _), trivial⟩ (by simp [pureA, pureL, pureR, inA, inL, inR, inO, idsIn, encs_pure, enxs_pure, enys_pure, valC_pure, exC_pure, tyC_pure, r_int_u8_pure, r_st_GInst_pure, r_sl_st_GInst_pure, r_st_GMiss_pure]) ?_
              refine AL.cw good (d := 56) (xs := [.str ⟨#[114, 101, 116]⟩, .int .i64 0]) (res := .agg [.str ⟨#[114, 101, 116]⟩, .int .i64 0, .int .i64 0, .bool false, .str ⟨#[]⟩, .sl .ro 5 (encs []), .int .i64 0]) rfl rfl rfl rfl rfl rfl rfl (w_f86 ⟨#[114, 101, 116]⟩ 0) ⟨(Wv.refl _), (Wv.refl _), trivial⟩ (by simp [pureA, pureL, pureR, inA, inL, inR, inO, idsIn, encs_pure, enxs_pure, enys_pure, valC_pure, exC_pure, tyC_pure, r_int_u8_pure, r_st_GInst_pure, r_sl_st_GInst_pure, r_st_GMiss_pure]) ?_
              refine AL.lit good (d := 57) (rows := [[.str ⟨#[101, 109, 105, 116]⟩, .int .i64 0, .int .i64 0, .bool false, .str ⟨#[]⟩, .sl .ro 5 (encs []), .int .i64 (a0.f3.length : Int)], [.str ⟨#[114, 101, 116]⟩, .int .i64 0, .int .i64 0, .bool false, .str ⟨#[]⟩, .sl .ro 5 (encs []), .int .i64 0]]) rfl rfl rfl rfl rfl rfl rfl rfl rfl 2 rfl ?_
              obtain ⟨h37, hr⟩ := grd hr
              refine AL.aw2 good (d := 58) (rows := r_st_GInst v1_1) (news := [[.str (((GInst.mk ⟨#[101, 109, 105, 116]⟩ (Val.mk 0 0 false ⟨#[]⟩ []) (a0.f3.length : Int))).f0), .int .i64 ((((GInst.mk ⟨#[101, 109, 105, 116]⟩ (Val.mk 0 0 false ⟨#[]⟩ []) (a0.f3.length : Int))).f1).kind), .int .i64 ((((GInst.mk ⟨#[101, 109, 105, 116]⟩ (Val.mk 0 0 false ⟨#[]⟩ []) (a0.f3.length : Int))).f1).i), .bool ((((GInst.mk ⟨#[101, 109, 105, 116]⟩ (Val.mk 0 0 false ⟨#[]⟩ []) (a0.f3.length : Int))).f1).b), .str ((((GInst.mk ⟨#[101, 109, 105, 116]⟩ (Val.mk 0 0 false ⟨#[]⟩ []) (a0.f3.length : Int))).f1).s), .sl .ro 5 (encs ((((GInst.mk ⟨#[101, 109, 105, 116]⟩ (Val.mk 0 0 false ⟨#[]⟩ []) (a0.f3.length : Int))).f1).t)), .int .i64 (((GInst.mk ⟨#[101, 109, 105, 116]⟩ (Val.mk 0 0 false ⟨#[]⟩ []) (a0.f3.length : Int))).f2)], [.str (((GInst.mk ⟨#[114, 101, 116]⟩ (Val.mk 0 0 false ⟨#[]⟩ []) 0)).f0), .int .i64 ((((GInst.mk ⟨#[114, 101, 116]⟩ (Val.mk 0 0 false ⟨#[]⟩ []) 0)).f1).kind), .int .i64 ((((GInst.mk ⟨#[114, 101, 116]⟩ (Val.mk 0 0 false ⟨#[]⟩ []) 0)).f1).i), .bool ((((GInst.mk ⟨#[114, 101, 116]⟩ (Val.mk 0 0 false ⟨#[]⟩ []) 0)).f1).b), .str ((((GInst.mk ⟨#[114, 101, 116]⟩ (Val.mk 0 0 false ⟨#[]⟩ []) 0)).f1).s), .sl .ro 5 (encs ((((GInst.mk ⟨#[114, 101, 116]⟩ (Val.mk 0 0 false ⟨#[]⟩ []) 0)).f1).t)), .int .i64 (((GInst.mk ⟨#[114, 101, 116]⟩ (Val.mk 0 0 false ⟨#[]⟩ []) 0)).f2)]]) (rows2 := r_st_GInst (v1_1 ++ [(GInst.mk ⟨#[101, 109, 105, 116]⟩ (Val.mk 0 0 false ⟨#[]⟩ []) (a0.f3.length : Int)), (GInst.mk ⟨#[114, 101, 116]⟩ (Val.mk 0 0 false ⟨#[]⟩ []) 0)])) rfl rfl rfl rfl rfl rfl rfl rfl rfl (by simp) rfl rfl rfl ⟨⟨Wv.refl _, Wv.refl _, Wv.refl _, Wv.refl _, Wv.refl _, Wv.refl _, Wv.refl _, trivial⟩, ⟨Wv.refl _, Wv.refl _, Wv.refl _, Wv.refl _, Wv.refl _, Wv.refl _, Wv.refl _, trivial⟩, trivial⟩ (by simp [r_st_GInst, rowF]) (by rw [r_st_GInst_length, List.length_append]; exact h37) rfl ?_
              refine AL.v good (d := 2) (v := .sl (.own 1) 7 (r_st_GInst (v1_1 ++ [(GInst.mk ⟨#[101, 109, 105, 116]⟩ (Val.mk 0 0 false ⟨#[]⟩ []) (a0.f3.length : Int)), (GInst.mk ⟨#[114, 101, 116]⟩ (Val.mk 0 0 false ⟨#[]⟩ []) 0)]))) rfl rfl rfl rfl ?_
              refine AW.ret ?_
              obtain rfl := Option.some.inj hr
              exact RetN.w good (.inr rfl) rfl rfl (WvR.refl _) rfl
        · replace hr := cnd_f h20 hr
          refine AW.region (M := fun _ => true) ?_
          refine AL.cw good (d := 8) (xs := [.str ⟨#[120]⟩, .int .i64 0]) (res := .agg [.str ⟨#[120]⟩, .int .i64 0, .int .i64 0, .bool false, .str ⟨#[]⟩, .sl .ro 5 (encs []), .int .i64 0]) rfl rfl rfl rfl rfl rfl rfl (w_f86 ⟨#[120]⟩ 0) ⟨(Wv.refl _), (Wv.refl _), trivial⟩ (by simp [pureA, pureL, pureR, inA, inL, inR, inO, idsIn, encs_pure, enxs_pure, enys_pure, valC_pure, exC_pure, tyC_pure, r_int_u8_pure, r_st_GInst_pure, r_sl_st_GInst_pure, r_st_GMiss_pure]) ?_
          refine AL.lit good (d := 9) (rows := [[.str ⟨#[120]⟩, .int .i64 0, .int .i64 0, .bool false, .str ⟨#[]⟩, .sl .ro 5 (encs []), .int .i64 0]]) rfl rfl rfl rfl rfl rfl rfl rfl rfl 1 rfl ?_
          refine AL.v good (d := 3) (v := .sl (.own 1) 7 [[.str ⟨#[120]⟩, .int .i64 0, .int .i64 0, .bool false, .str ⟨#[]⟩, .sl .ro 5 (encs []), .int .i64 0]]) rfl rfl rfl rfl ?_
          refine AW.seq ?_
          refine AW.region (M := fun _ => true) ?_
          refine AL.v good (d := 53) (v := .sl (.own 1) 7 [[.str ⟨#[120]⟩, .int .i64 0, .int .i64 0, .bool false, .str ⟨#[]⟩, .sl .ro 5 (encs []), .int .i64 0]]) rfl rfl rfl rfl ?_
          refine AL.v good (d := 54) (v := .int .i64 1) rfl rfl rfl rfl ?_
          refine AL.cw good (d := 55) (xs := [.str ⟨#[101, 109, 105, 116]⟩, .int .i64 1]) (res := .agg [.str ⟨#[101, 109, 105, 116]⟩, .int .i64 0, .int .i64 0, .bool false, .str ⟨#[]⟩, .sl .ro 5 (encs []), .int .i64 1]) rfl rfl rfl rfl rfl rfl rfl (w_f86 ⟨#[101, 109, 105, 116]⟩ 1) ⟨(Wv.refl _), (Wv.refl _), trivial⟩ (by simp [pureA, pureL, pureR, inA, inL, inR, inO, idsIn, encs_pure, enxs_pure, enys_pure, valC_pure, exC_pure, tyC_pure, r_int_u8_pure, r_st_GInst_pure, r_sl_st_GInst_pure, r_st_GMiss_pure]) ?_
          refine AL.cw good (d := 56) (xs := [.str ⟨#[114, 101, 116]⟩, .int .i64 0]) (res := .agg [.str ⟨#[114, 101, 116]⟩, .int .i64 0, .int .i64 0, .bool false, .str ⟨#[]⟩, .sl .ro 5 (encs []), .int .i64 0]) rfl rfl rfl rfl rfl rfl rfl (w_f86 ⟨#[114, 101, 116]⟩ 0) ⟨(Wv.refl _), (Wv.refl _), trivial⟩ (by simp [pureA, pureL, pureR, inA, inL, inR, inO, idsIn, encs_pure, enxs_pure, enys_pure, valC_pure, exC_pure, tyC_pure, r_int_u8_pure, r_st_GInst_pure, r_sl_st_GInst_pure, r_st_GMiss_pure]) ?_
          refine AL.lit good (d := 57) (rows := [[.str ⟨#[101, 109, 105, 116]⟩, .int .i64 0, .int .i64 0, .bool false, .str ⟨#[]⟩, .sl .ro 5 (encs []), .int .i64 1], [.str ⟨#[114, 101, 116]⟩, .int .i64 0, .int .i64 0, .bool false, .str ⟨#[]⟩, .sl .ro 5 (encs []), .int .i64 0]]) rfl rfl rfl rfl rfl rfl rfl rfl rfl 2 rfl ?_
          obtain ⟨h38, hr⟩ := grd hr
          refine AL.aw2 good (d := 58) (rows := r_st_GInst [(GInst.mk ⟨#[120]⟩ (Val.mk 0 0 false ⟨#[]⟩ []) 0)]) (news := [[.str (((GInst.mk ⟨#[101, 109, 105, 116]⟩ (Val.mk 0 0 false ⟨#[]⟩ []) 1)).f0), .int .i64 ((((GInst.mk ⟨#[101, 109, 105, 116]⟩ (Val.mk 0 0 false ⟨#[]⟩ []) 1)).f1).kind), .int .i64 ((((GInst.mk ⟨#[101, 109, 105, 116]⟩ (Val.mk 0 0 false ⟨#[]⟩ []) 1)).f1).i), .bool ((((GInst.mk ⟨#[101, 109, 105, 116]⟩ (Val.mk 0 0 false ⟨#[]⟩ []) 1)).f1).b), .str ((((GInst.mk ⟨#[101, 109, 105, 116]⟩ (Val.mk 0 0 false ⟨#[]⟩ []) 1)).f1).s), .sl .ro 5 (encs ((((GInst.mk ⟨#[101, 109, 105, 116]⟩ (Val.mk 0 0 false ⟨#[]⟩ []) 1)).f1).t)), .int .i64 (((GInst.mk ⟨#[101, 109, 105, 116]⟩ (Val.mk 0 0 false ⟨#[]⟩ []) 1)).f2)], [.str (((GInst.mk ⟨#[114, 101, 116]⟩ (Val.mk 0 0 false ⟨#[]⟩ []) 0)).f0), .int .i64 ((((GInst.mk ⟨#[114, 101, 116]⟩ (Val.mk 0 0 false ⟨#[]⟩ []) 0)).f1).kind), .int .i64 ((((GInst.mk ⟨#[114, 101, 116]⟩ (Val.mk 0 0 false ⟨#[]⟩ []) 0)).f1).i), .bool ((((GInst.mk ⟨#[114, 101, 116]⟩ (Val.mk 0 0 false ⟨#[]⟩ []) 0)).f1).b), .str ((((GInst.mk ⟨#[114, 101, 116]⟩ (Val.mk 0 0 false ⟨#[]⟩ []) 0)).f1).s), .sl .ro 5 (encs ((((GInst.mk ⟨#[114, 101, 116]⟩ (Val.mk 0 0 false ⟨#[]⟩ []) 0)).f1).t)), .int .i64 (((GInst.mk ⟨#[114, 101, 116]⟩ (Val.mk 0 0 false ⟨#[]⟩ []) 0)).f2)]]) (rows2 := r_st_GInst ([(GInst.mk ⟨#[120]⟩ (Val.mk 0 0 false ⟨#[]⟩ []) 0)] ++ [(GInst.mk ⟨#[101, 109, 105, 116]⟩ (Val.mk 0 0 false ⟨#[]⟩ []) 1), (GInst.mk ⟨#[114, 101, 116]⟩ (Val.mk 0 0 false ⟨#[]⟩ []) 0)])) rfl rfl rfl rfl rfl rfl rfl rfl rfl (by simp) rfl rfl rfl ⟨⟨Wv.refl _, Wv.refl _, Wv.refl _, Wv.refl _, Wv.refl _, Wv.refl _, Wv.refl _, trivial⟩, ⟨Wv.refl _, Wv.refl _, Wv.refl _, Wv.refl _, Wv.refl _, Wv.refl _, Wv.refl _, trivial⟩, trivial⟩ (by simp [r_st_GInst, rowF]) (by rw [r_st_GInst_length, List.length_append]; exact h38) rfl ?_
          refine AL.v good (d := 2) (v := .sl (.own 1) 7 (r_st_GInst ([(GInst.mk ⟨#[120]⟩ (Val.mk 0 0 false ⟨#[]⟩ []) 0)] ++ [(GInst.mk ⟨#[101, 109, 105, 116]⟩ (Val.mk 0 0 false ⟨#[]⟩ []) 1), (GInst.mk ⟨#[114, 101, 116]⟩ (Val.mk 0 0 false ⟨#[]⟩ []) 0)]))) rfl rfl rfl rfl ?_
          refine AW.ret ?_
          obtain rfl := Option.some.inj hr
          exact RetN.w good (.inr rfl) rfl rfl (WvR.refl _) rfl

def s_f43 (n : Nat) (a0 : GOp) : Option (List GInst) :=
  ((s_f76 n a0).bind fun q1 => ((s_f75 n q1).bind fun q3 => ((s_f51 n q3).bind fun q5 => some q5)))

theorem w_f43 (n : Nat) (a0 : GOp) (r : List GInst) (hr : s_f43 n a0 = some r) (id : Nat) : ACallN Try.prog 43 [.agg [.int .i64 a0.f0, .str a0.f1, .int .i64 a0.f2.kind, .sl .ro 2 (enys a0.f2.of), .sl .ro 8 (enxs a0.f3), .str a0.f4.op, .int .i64 a0.f4.v.kind, .int .i64 a0.f4.v.i, .bool a0.f4.v.b, .str a0.f4.v.s, .sl .ro 5 (encs a0.f4.v.t), .int .i64 a0.f4.n, .sl .ro 8 (enxs a0.f4.a), .int .i64 a0.f5, .int .i64 a0.f6]] id (.row 109 7 (r_st_GInst r).length) (.sl (.own id) 7 (r_st_GInst r)) := by
  refine ACallN.go (rows := r_st_GInst r) [(0, .agg [.int .i64 a0.f0, .str a0.f1, .int .i64 a0.f2.kind, .sl .ro 2 (enys a0.f2.of), .sl .ro 8 (enxs a0.f3), .str a0.f4.op, .int .i64 a0.f4.v.kind, .int .i64 a0.f4.v.i, .bool a0.f4.v.b, .str a0.f4.v.s, .sl .ro 5 (encs a0.f4.v.t), .int .i64 a0.f4.n, .sl .ro 8 (enxs a0.f4.a), .int .i64 a0.f5, .int .i64 a0.f6])] Try.func43 rfl Try.ntmps43 rfl rfl (by simp [pureA, pureL, pureR, inA, inL, inR, inO, idsIn, encs_pure, enxs_pure, enys_pure, valC_pure, exC_pure, tyC_pure, r_int_u8_pure, r_st_GInst_pure, r_sl_st_GInst_pure, r_st_GMiss_pure]) (by simp [pureA, pureL, pureR, inA, inL, inR, inO, idsIn, encs_pure, enxs_pure, enys_pure, valC_pure, exC_pure, tyC_pure, r_int_u8_pure, r_st_GInst_pure, r_sl_st_GInst_pure, r_st_GMiss_pure]) ?_ id
  rw [s_f43] at hr
  refine AW.seq ?_
  refine AW.region (M := fun _ => true) ?_
  refine AL.bx good (d := 1) (l := [.int .i64 a0.f0, .str a0.f1, .int .i64 a0.f2.kind, .sl .ro 2 (enys a0.f2.of), .sl .ro 8 (enxs a0.f3), .str a0.f4.op, .int .i64 a0.f4.v.kind, .int .i64 a0.f4.v.i, .bool a0.f4.v.b, .str a0.f4.v.s, .sl .ro 5 (encs a0.f4.v.t), .int .i64 a0.f4.n, .sl .ro 8 (enxs a0.f4.a), .int .i64 a0.f5, .int .i64 a0.f6]) rfl rfl rfl rfl rfl rfl 0 rfl ?_
  refine AL.v good (d := 2) (v := .sl .nil 0 []) rfl rfl rfl rfl ?_
  refine AW.seq ?_
  refine AW.region (M := fun _ => true) ?_
  refine AL.v good (d := 3) (v := .agg [.int .i64 a0.f0, .str a0.f1, .int .i64 a0.f2.kind, .sl .ro 2 (enys a0.f2.of), .sl .ro 8 (enxs a0.f3), .str a0.f4.op, .int .i64 a0.f4.v.kind, .int .i64 a0.f4.v.i, .bool a0.f4.v.b, .str a0.f4.v.s, .sl .ro 5 (encs a0.f4.v.t), .int .i64 a0.f4.n, .sl .ro 8 (enxs a0.f4.a), .int .i64 a0.f5, .int .i64 a0.f6]) rfl rfl rfl rfl ?_
  obtain ⟨q1, h2, hr⟩ := bnd1 hr
  refine AL.cw good (d := 4) (xs := [.agg [.int .i64 a0.f0, .str a0.f1, .int .i64 a0.f2.kind, .sl .ro 2 (enys a0.f2.of), .sl .ro 8 (enxs a0.f3), .str a0.f4.op, .int .i64 a0.f4.v.kind, .int .i64 a0.f4.v.i, .bool a0.f4.v.b, .str a0.f4.v.s, .sl .ro 5 (encs a0.f4.v.t), .int .i64 a0.f4.n, .sl .ro 8 (enxs a0.f4.a), .int .i64 a0.f5, .int .i64 a0.f6]]) (res := .agg [.int .i64 q1.f0, .str q1.f1, .int .i64 q1.f2.kind, .sl .ro 2 (enys q1.f2.of), .sl .ro 8 (enxs q1.f3), .str q1.f4.op, .int .i64 q1.f4.v.kind, .int .i64 q1.f4.v.i, .bool q1.f4.v.b, .str q1.f4.v.s, .sl .ro 5 (encs q1.f4.v.t), .int .i64 q1.f4.n, .sl .ro 8 (enxs q1.f4.a), .int .i64 q1.f5, .int .i64 q1.f6]) rfl rfl rfl rfl rfl rfl rfl (w_f76 _ _ _ h2) ⟨(Wv.refl _), trivial⟩ (by simp [pureA, pureL, pureR, inA, inL, inR, inO, idsIn, encs_pure, enxs_pure, enys_pure, valC_pure, exC_pure, tyC_pure, r_int_u8_pure, r_st_GInst_pure, r_sl_st_GInst_pure, r_st_GMiss_pure]) ?_
  obtain ⟨q3, h4, hr⟩ := bnd1 hr
  refine AL.clF good (d := 5) (xs := [.agg [.int .i64 q1.f0, .str q1.f1, .int .i64 q1.f2.kind, .sl .ro 2 (enys q1.f2.of), .sl .ro 8 (enxs q1.f3), .str q1.f4.op, .int .i64 q1.f4.v.kind, .int .i64 q1.f4.v.i, .bool q1.f4.v.b, .str q1.f4.v.s, .sl .ro 5 (encs q1.f4.v.t), .int .i64 q1.f4.n, .sl .ro 8 (enxs q1.f4.a), .int .i64 q1.f5, .int .i64 q1.f6]]) (ob := .row 132 7 (r_st_GInst q3).length) (res := .sl (.own 1) 7 (r_st_GInst q3)) rfl rfl rfl rfl rfl rfl rfl 1 rfl (w_f75 _ _ _ h4 1) ⟨(Wv.refl _), trivial⟩ rfl ColN.no ?_
  obtain ⟨q5, h6, hr⟩ := bnd1 hr
  refine AL.clF good (d := 6) (xs := [.sl .ro 7 (r_st_GInst q3)]) (ob := .row 109 7 (r_st_GInst q5).length) (res := .sl (.own 2) 7 (r_st_GInst q5)) rfl rfl rfl rfl rfl rfl rfl 2 rfl (w_f51 _ _ _ h6 2) ⟨⟨.inr rfl, WvR.refl _, .inl rfl⟩, trivial⟩ rfl ColN.no ?_
  refine AL.v good (d := 2) (v := .sl (.own 2) 7 (r_st_GInst q5)) rfl rfl rfl rfl ?_
  refine AW.ret ?_
  obtain rfl := Option.some.inj hr
  exact RetN.w good (.inr rfl) rfl rfl (WvR.refl _) rfl

end Go.Proofs.Ytbcjcekoonebiaa.Tl

set_option linter.unusedVariables false
namespace Go.Proofs.Ytbcjcekoonebiaa.Tl
open Go Go.RowKit
/-- With enough fuel it is this. -/
def Ev {α : Type} (f : Nat → Option α) (a : α) : Prop := ∃ N, ∀ n, N ≤ n → f n = some a
theorem Ev.mk {α : Type} (a : α) : Ev (fun _ => some a) a := ⟨0, fun _ _ => rfl⟩
theorem Ev.succ {α : Type} {f : Nat → Option α} {a : α} (h : Ev (fun n => f (n + 1)) a) : Ev f a :=
  let ⟨N, h⟩ := h
  ⟨N + 1, fun n hn => by
    cases n with
    | zero => omega
    | succ n => exact h n (by omega)⟩
theorem Ev.bind {α β : Type} {f : Nat → Option α} {g : Nat → α → Option β} {a : α} {b : β} (h : Ev f a) (k : Ev (fun n => g n a) b) : Ev (fun n => (f n).bind (g n)) b :=
  let ⟨N, h⟩ := h
  let ⟨M, k⟩ := k
  ⟨max N M, fun n hn => by
    show (f n).bind (g n) = some b
    rw [h n (by omega), Option.bind_some]
    exact k n (by omega)⟩
theorem Ev.bindc {α β : Type} {x : Option α} {g : Nat → α → Option β} {a : α} {b : β} (h : x = some a) (k : Ev (fun n => g n a) b) : Ev (fun n => x.bind (g n)) b := by
  subst h
  exact k
theorem Ev.t {α : Type} {c : Bool} {f g : Nat → Option α} {a : α} (h : c = true) (k : Ev f a) : Ev (fun n => bif c then f n else g n) a := by subst h; exact k
theorem Ev.f {α : Type} {c : Bool} {f g : Nat → Option α} {a : α} (h : c = false) (k : Ev g a) : Ev (fun n => bif c then f n else g n) a := by subst h; exact k
theorem Ev.g {α : Type} {p : Prop} [Decidable p] {f : Nat → Option α} {a : α} (h : p) (k : Ev f a) : Ev (fun n => if p then f n else none) a := by simp only [h, if_true]; exact k
theorem Ev.get {α : Type} {f : Nat → Option α} {a : α} (h : Ev f a) : ∃ n, f n = some a := let ⟨N, h⟩ := h; ⟨N, h N (Nat.le_refl N)⟩
/-- Either way. -/
theorem Ev.if {α : Type} {c : Bool} {f g : Nat → Option α} {a b : α} (h : c = true → Ev f a) (k : c = false → Ev g b) : Ev (fun n => bif c then f n else g n) (bif c then a else b) := by
  cases c
  · exact k rfl
  · exact h rfl
theorem and_f {a b : Bool} (h : a = false) : (a && b) = false := by subst h; rfl
theorem or_f {a b : Bool} (h : (a || b) = false) : a = false ∧ b = false := by cases a <;> cases b <;> simp_all
theorem Ev.congr {α : Type} {f : Nat → Option α} {a b : α} (h : Ev f a) (e : a = b) : Ev f b := e ▸ h
/-- .. with nothing behind it. -/
theorem Ev.ret {α β : Type} {f : Nat → Option α} {g : α → β} {a : α} (h : Ev f a) : Ev (fun n => (f n).bind fun q => some (g q)) (g a) := Ev.bind h (Ev.mk _)
end Go.Proofs.Ytbcjcekoonebiaa.Tl

set_option linter.unusedVariables false
set_option linter.unusedSimpArgs false
namespace Go.Proofs.Ytbcjcekoonebiaa.Tl
open Go Go.RowKit
/-- What does does: the stack, what is let out, the error. -/
def stepM (i : GInst) (x : Val) (st out : List Val) : Option (List Val × List Val × Int) :=
  bif i.f0.data.toList == [112, 117, 115, 104] then some (st ++ [i.f1], out, 0)
  else bif i.f0.data.toList == [120] then some (st ++ [x], out, 0)
  else bif i.f0.data.toList == [97, 116] then (if 1 ≤ st.length then ((st.drop (st.length - 1))[0]?).bind fun y => (if 0 ≤ i.f2 then (y.t[i.f2.toNat]?).bind fun z => some (st.take (st.length - 1) ++ [z], out, 0) else none) else none)
  else bif i.f0.data.toList == [116, 117, 112] then (if 0 ≤ i.f2 ∧ i.f2.toNat ≤ st.length then (tupS (st.drop (st.length - i.f2.toNat))).bind fun q => some (st.take (st.length - i.f2.toNat) ++ [q], out, 0) else none)
  else bif i.f0.data.toList == [101, 109, 105, 116] then (if 0 ≤ i.f2 ∧ i.f2.toNat ≤ st.length then some (st.take (st.length - i.f2.toNat), out ++ st.drop (st.length - i.f2.toNat), 0) else none)
  else bif i.f0.data.toList == [110, 101, 103] then (if 1 ≤ st.length then ((st.drop (st.length - 1))[0]?).bind fun y => (one3 i.f0 y).bind fun q => some (st.take (st.length - 1) ++ [q.1], out, 0) else none)
  else bif i.f0.data.toList == [110, 111, 116] then (if 1 ≤ st.length then ((st.drop (st.length - 1))[0]?).bind fun y => (one3 i.f0 y).bind fun q => some (st.take (st.length - 1) ++ [q.1], out, 0) else none)
  else bif i.f0.data.toList == [108, 101, 110] then (if 1 ≤ st.length then ((st.drop (st.length - 1))[0]?).bind fun y => (one3 i.f0 y).bind fun q => some (st.take (st.length - 1) ++ [q.1], out, 0) else none)
  else (if 2 ≤ st.length then ((st.drop (st.length - 2))[0]?).bind fun y => ((st.drop (st.length - 2))[1]?).bind fun z => (both3 i.f0 y z).bind fun q => bif q.2.1 != 0 then some (st.take (st.length - 2), out, q.2.1) else some (st.take (st.length - 2) ++ [q.1], out, 0) else none)
theorem e73a {i : GInst} {x : Val} {st out st' out' : List Val} {e : Int} (h : stepM i x st out = some (st', out', e)) (h1 : st.length + 1 ≤ 1000000) (h2 : out.length + st.length ≤ 1000000) (v : Nat) : ∃ v', Ev (fun n => s_f73 n ⟨x, ⟨v, st⟩, out⟩ i) (⟨x, ⟨v', st'⟩, out'⟩, e) := by
  have h1' : st.length ≤ 1000000 := by omega
  unfold stepM at h
  unfold s_f73
  simp only [show (1 : Int).toNat = 1 from rfl, show (2 : Int).toNat = 2 from rfl]
  cases c0 : i.f0.data.toList == [112, 117, 115, 104] with
  | true =>
    rw [c0] at h
    simp only [cond_true] at h ⊢
    simp only [Option.some.injEq, Prod.mk.injEq] at h
    obtain ⟨rfl, rfl, rfl⟩ := h
    exact ⟨v + 1, Ev.g h1 (Ev.mk _)⟩
  | false =>
    rw [c0] at h
    simp only [cond_false] at h ⊢
    cases c1 : i.f0.data.toList == [120] with
    | true =>
      rw [c1] at h
      simp only [cond_true] at h ⊢
      simp only [Option.some.injEq, Prod.mk.injEq] at h
      obtain ⟨rfl, rfl, rfl⟩ := h
      exact ⟨v + 1, Ev.g h1 (Ev.mk _)⟩
    | false =>
      rw [c1] at h
      simp only [cond_false] at h ⊢
      cases c2 : i.f0.data.toList == [97, 116] with
      | true =>
        rw [c2] at h
        simp only [cond_true] at h ⊢
        obtain ⟨g1, h⟩ := grd h
        obtain ⟨y, hy, h⟩ := bnd1 h
        obtain ⟨g2, h⟩ := grd h
        obtain ⟨z, hz, h⟩ := bnd1 h
        simp only [Option.some.injEq, Prod.mk.injEq] at h
        obtain ⟨rfl, rfl, rfl⟩ := h
        exact ⟨v + 1 + 1, Ev.g ⟨by decide, g1, h1'⟩ (Ev.bindc hy (Ev.g g2 (Ev.bindc hz (Ev.g (by rw [List.length_take]; omega) (Ev.mk _)))))⟩
      | false =>
        rw [c2] at h
        simp only [cond_false] at h ⊢
        cases c3 : i.f0.data.toList == [116, 117, 112] with
        | true =>
          rw [c3] at h
          simp only [cond_true] at h ⊢
          obtain ⟨g1, h⟩ := grd h
          obtain ⟨q, hq, h⟩ := bnd1 h
          simp only [Option.some.injEq, Prod.mk.injEq] at h
          obtain ⟨rfl, rfl, rfl⟩ := h
          exact ⟨v + 1 + 1, Ev.g ⟨g1.1, g1.2, h1'⟩ (Ev.bindc hq (Ev.g (by rw [List.length_take]; omega) (Ev.mk _)))⟩
        | false =>
          rw [c3] at h
          simp only [cond_false] at h ⊢
          cases c4 : i.f0.data.toList == [101, 109, 105, 116] with
          | true =>
            rw [c4] at h
            simp only [cond_true] at h ⊢
            obtain ⟨g1, h⟩ := grd h
            simp only [Option.some.injEq, Prod.mk.injEq] at h
            obtain ⟨rfl, rfl, rfl⟩ := h
            exact ⟨v + 1, Ev.g ⟨g1.1, g1.2, h1'⟩ (Ev.g (by rw [List.length_drop]; omega) (Ev.mk _))⟩
          | false =>
            rw [c4] at h
            simp only [cond_false] at h ⊢
            cases c5 : i.f0.data.toList == [110, 101, 103] with
            | true =>
              rw [c5] at h
              simp only [cond_true] at h ⊢
              obtain ⟨g1, h⟩ := grd h
              obtain ⟨y, hy, h⟩ := bnd1 h
              obtain ⟨q, hq, h⟩ := bnd1 h
              simp only [Option.some.injEq, Prod.mk.injEq] at h
              obtain ⟨rfl, rfl, rfl⟩ := h
              exact ⟨v + 1 + 1, Ev.g ⟨by decide, g1, h1'⟩ (Ev.bindc hy (Ev.bindc hq (Ev.g (by rw [List.length_take]; omega) (Ev.mk _))))⟩
            | false =>
              rw [c5] at h
              simp only [cond_false] at h ⊢
              cases c6 : i.f0.data.toList == [110, 111, 116] with
              | true =>
                rw [c6] at h
                simp only [cond_true] at h ⊢
                obtain ⟨g1, h⟩ := grd h
                obtain ⟨y, hy, h⟩ := bnd1 h
                obtain ⟨q, hq, h⟩ := bnd1 h
                simp only [Option.some.injEq, Prod.mk.injEq] at h
                obtain ⟨rfl, rfl, rfl⟩ := h
                exact ⟨v + 1 + 1, Ev.g ⟨by decide, g1, h1'⟩ (Ev.bindc hy (Ev.bindc hq (Ev.g (by rw [List.length_take]; omega) (Ev.mk _))))⟩
              | false =>
                rw [c6] at h
                simp only [cond_false] at h ⊢
                cases c7 : i.f0.data.toList == [108, 101, 110] with
                | true =>
                  rw [c7] at h
                  simp only [cond_true] at h ⊢
                  obtain ⟨g1, h⟩ := grd h
                  obtain ⟨y, hy, h⟩ := bnd1 h
                  obtain ⟨q, hq, h⟩ := bnd1 h
                  simp only [Option.some.injEq, Prod.mk.injEq] at h
                  obtain ⟨rfl, rfl, rfl⟩ := h
                  exact ⟨v + 1 + 1, Ev.g ⟨by decide, g1, h1'⟩ (Ev.bindc hy (Ev.bindc hq (Ev.g (by rw [List.length_take]; omega) (Ev.mk _))))⟩
                | false =>
                  rw [c7] at h
                  simp only [cond_false] at h ⊢
                  obtain ⟨g1, h⟩ := grd h
                  obtain ⟨y, hy, h⟩ := bnd1 h
                  obtain ⟨z, hz, h⟩ := bnd1 h
                  obtain ⟨q, hq, h⟩ := bnd1 h
                  cases hc : q.2.1 != 0 with
                  | true =>
                    rw [hc] at h
                    simp only [cond_true, Option.some.injEq, Prod.mk.injEq] at h
                    obtain ⟨rfl, rfl, rfl⟩ := h
                    exact ⟨v + 1, Ev.g ⟨by decide, g1, h1'⟩ (Ev.bindc hy (Ev.bindc hz (Ev.bindc hq (Ev.t hc (Ev.mk _)))))⟩
                  | false =>
                    rw [hc] at h
                    simp only [cond_false, Option.some.injEq, Prod.mk.injEq] at h
                    obtain ⟨rfl, rfl, rfl⟩ := h
                    exact ⟨v + 1 + 1, Ev.g ⟨by decide, g1, h1'⟩ (Ev.bindc hy (Ev.bindc hz (Ev.bindc hq (Ev.f hc (Ev.g (by rw [List.length_take]; omega) (Ev.mk _))))))⟩

/-- A run, from a place on, with this stack. -/
abbrev RunF (p : List GInst) (x : Val) (j : Nat) (st out : List Val) (v : Nat) : Nat → Option (List Val × Int) := fun n => s_f40_l1 n p (j : Int) v st x.kind x.i x.b x.s x.t out
theorem val_eta (x : Val) : Val.mk x.kind x.i x.b x.s x.t = x := by cases x; rfl
theorem run_step {p : List GInst} {x : Val} {j : Nat} {i : GInst} (hi : p[j]? = some i) (c1 : (i.f0.data.toList == [114, 101, 116]) = false) (c2 : (i.f0.data.toList == [106, 109, 112]) = false) (c3 : (i.f0.data.toList == [106, 102]) = false) {st out st' out' : List Val} (h : stepM i x st out = some (st', out', 0))
    (h1 : st.length + 1 ≤ 1000000) (h2 : out.length + st.length ≤ 1000000) (hj : p.length ≤ 1000000) {R : List Val × Int} (k : ∀ v, Ev (RunF p x (j + 1) st' out' v) R) (v : Nat) : Ev (RunF p x j st out v) R := by
  have hlt : j < p.length := (List.getElem?_eq_some_iff.1 hi).1
  obtain ⟨v', e⟩ := e73a (x := x) h h1 h2 v
  refine Ev.succ ?_
  simp only [RunF, s_f40_l1]
  refine Ev.t (decide_eq_true (by omega)) (Ev.g (Int.natCast_nonneg j) (Ev.bindc (by rw [Int.toNat_natCast]; exact hi) (Ev.f c1 (Ev.f c2 (Ev.f c3 (Ev.bind (by rw [val_eta]; exact e) (Ev.f rfl ?_)))))))
  rw [wrap64 (by omega) (by omega)]
  exact k v'
theorem run_ret {p : List GInst} {x : Val} {j : Nat} {i : GInst} (hi : p[j]? = some i) (c1 : (i.f0.data.toList == [114, 101, 116]) = true) (st out : List Val) (v : Nat) : Ev (RunF p x j st out v) (out, 0) := by
  have hlt : j < p.length := (List.getElem?_eq_some_iff.1 hi).1
  refine Ev.succ ?_
  simp only [RunF, s_f40_l1]
  exact Ev.t (decide_eq_true (by omega)) (Ev.g (Int.natCast_nonneg j) (Ev.bindc (by rw [Int.toNat_natCast]; exact hi) (Ev.t c1 (Ev.mk _))))
theorem e40 {p : List GInst} {x : Val} {R : List Val × Int} (h : Ev (RunF p x 0 [] [] 0) R) : Ev (fun n => s_f40 n p x) R := by
  unfold s_f40
  exact h
theorem run_err {p : List GInst} {x : Val} {j : Nat} {i : GInst} (hi : p[j]? = some i) (c1 : (i.f0.data.toList == [114, 101, 116]) = false) (c2 : (i.f0.data.toList == [106, 109, 112]) = false) (c3 : (i.f0.data.toList == [106, 102]) = false) {st out st' out' : List Val} {e : Int} (h : stepM i x st out = some (st', out', e)) (he : e ≠ 0)
    (h1 : st.length + 1 ≤ 1000000) (h2 : out.length + st.length ≤ 1000000) (v : Nat) : Ev (RunF p x j st out v) ([], e) := by
  have hlt : j < p.length := (List.getElem?_eq_some_iff.1 hi).1
  obtain ⟨v', ev⟩ := e73a (x := x) h h1 h2 v
  refine Ev.succ ?_
  simp only [RunF, s_f40_l1]
  exact Ev.t (decide_eq_true (by omega)) (Ev.g (Int.natCast_nonneg j) (Ev.bindc (by rw [Int.toNat_natCast]; exact hi) (Ev.f c1 (Ev.f c2 (Ev.f c3 (Ev.bind (by rw [val_eta]; exact ev) (Ev.t (by simpa using he) (Ev.mk _))))))))
theorem run_jf {p : List GInst} {x : Val} {j k : Nat} {i : GInst} (hi : p[j]? = some i) (c : (i.f0.data.toList == [106, 102]) = true) (hk : i.f2 = (k : Int)) (hj : k ≤ 1000000) (hp : p.length ≤ 1000000) {st out : List Val} {y : Val} (hst : st.length + 1 ≤ 1000000) {R : List Val × Int}
    (h : ∀ v, Ev (RunF p x (bif y.b then j + 1 else k) st out v) R) (v : Nat) : Ev (RunF p x j (st ++ [y]) out v) R := by
  have hlt : j < p.length := (List.getElem?_eq_some_iff.1 hi).1
  have c' : i.f0.data.toList = [106, 102] := by simpa using c
  refine Ev.succ ?_
  simp only [RunF, s_f40_l1]
  have e1 : (st ++ [y]).length - (1 : Int).toNat = st.length := by simp
  have e2 : ((st ++ [y]).drop st.length)[0]? = some y := by simp
  have e3 : (st ++ [y]).take st.length = st := by simp
  rw [e1, e3]
  refine Ev.t (decide_eq_true (by omega)) (Ev.g (Int.natCast_nonneg j) (Ev.bindc (by rw [Int.toNat_natCast]; exact hi) (Ev.f (by rw [c']; rfl) (Ev.f (by rw [c']; rfl) (Ev.t c (Ev.g ⟨by decide, by simp, by simp; omega⟩ (Ev.bindc e2 ?_)))))))
  have h' := h (v + 1)
  cases hb : y.b with
  | true =>
    rw [hb] at h'
    refine Ev.f rfl ?_
    rw [wrap64 (by omega) (by omega)]
    exact h'
  | false =>
    rw [hb] at h'
    refine Ev.t rfl ?_
    rw [hk, wrap64 (a := (k : Int) - 1) (by omega) (by omega), wrap64 (by omega) (by omega), show (k : Int) - 1 + 1 = k by omega]
    exact h'
end Go.Proofs.Ytbcjcekoonebiaa.Tl

set_option linter.unusedVariables false
set_option linter.unusedSimpArgs false
namespace Go.Proofs.Ytbcjcekoonebiaa.Tl
open Go Go.RowKit
/-- A stage, of what is there: what it adds to what is let out, and to what misses. -/
def ChE (ps : List (List GInst)) (k : Nat) (x : Val) (o : List Val) (m : List GMiss) : Prop :=
  ∀ (out : List Val) (bad : List GMiss) (v : Nat), out.length + o.length ≤ 1000000 → bad.length + m.length ≤ 1000000 → ∃ v', Ev (fun n => s_f77 n (k : Int) x ps ⟨v, out⟩ bad) (ps, ⟨v', out ++ o⟩, bad ++ m)
theorem ch_end (ps : List (List GInst)) (x : Val) : ChE ps ps.length x [x] [] := fun out bad v h1 h2 => by
  simp only [List.length_cons, List.length_nil] at h1
  refine ⟨v + 1, Ev.succ ?_⟩
  simp only [s_f77]
  exact Ev.t (by simp) (Ev.g (by omega) (Ev.bindc (a := Val.mk 0 0 false ⟨#[]⟩ []) (by simp) ((Ev.mk _).congr (by simp))))
def ChL (ps : List (List GInst)) (k : Nat) : List Val → List Val → List GMiss → Prop
  | [], o, m => o = [] ∧ m = []
  | y :: l, o, m => ∃ o1 m1 o2 m2, o = o1 ++ o2 ∧ m = m1 ++ m2 ∧ ChE ps k y o1 m1 ∧ ChL ps k l o2 m2
theorem ch_l {ps : List (List GInst)} {k : Nat} (hk : k ≤ 1000000) {l : List Val} {e : Int} : ∀ (r : List Val) (i : Nat) (o : List Val) (m : List GMiss), l.drop i = r → ChL ps (k + 1) r o m → ∀ (out : List Val) (bad : List GMiss) (v : Nat), out.length + o.length ≤ 1000000 → bad.length + m.length ≤ 1000000 →
    ∃ v', Ev (fun n => s_f77_l1 n (k : Int) (l, e) i ps v out bad) (ps, ⟨v', out ++ o⟩, bad ++ m)
  | [], i, o, m, h, hc, out, bad, v, h1, h2 => by
    obtain ⟨rfl, rfl⟩ := hc
    refine ⟨v, Ev.succ ?_⟩
    simp only [s_f77_l1]
    exact Ev.f (cj_fm (List.drop_eq_nil_iff.1 h)) ((Ev.mk _).congr (by simp))
  | y :: r, i, o, m, h, hc, out, bad, v, h1, h2 => by
    obtain ⟨o1, m1, o2, m2, rfl, rfl, hy, hr⟩ := hc
    simp only [List.length_append] at h1 h2
    have hlt : i < l.length := by
      rcases Nat.lt_or_ge i l.length with h' | h'
      · exact h'
      · rw [List.drop_eq_nil_of_le h'] at h; cases h
    rw [List.drop_eq_getElem_cons hlt] at h
    injection h with h3 h4
    obtain ⟨v1, e1⟩ := hy out bad v (by omega) (by omega)
    obtain ⟨v2, e2⟩ := ch_l hk r (i + 1) o2 m2 h4 hr (out ++ o1) (bad ++ m1) v1 (by simp; omega) (by simp; omega)
    refine ⟨v2, Ev.succ ?_⟩
    simp only [s_f77_l1]
    refine Ev.t (decide_eq_true (by omega)) (Ev.bindc (a := y) (by rw [List.getElem?_eq_getElem hlt, h3]) (Ev.bind (a := (ps, ⟨v1, out ++ o1⟩, bad ++ m1)) ?_ (e2.congr (by simp))))
    rw [wrap64 (by omega) (by omega)]
    exact e1
where
  cj_fm {j m : Nat} (h : m ≤ j) : decide ((j : Int) < (m : Int)) = false := decide_eq_false (by omega)
theorem ch_run {ps : List (List GInst)} {k : Nat} {p : List GInst} (hk : ps[k]? = some p) (hps : ps.length ≤ 1000000) {x : Val} {l : List Val} {e : Int} (hr : Ev (fun n => s_f40 n p x) (l, e)) {o : List Val} {m : List GMiss} (hl : ChL ps (k + 1) l o m) :
    ChE ps k x o (bif e != 0 then ⟨(k : Int), x⟩ :: m else m) := fun out bad v h1 h2 => by
  have hlt : k < ps.length := (List.getElem?_eq_some_iff.1 hk).1
  cases he : e != 0 with
  | true =>
    rw [he] at h2
    simp only [cond_true, List.length_cons] at h2
    obtain ⟨v', e1⟩ := ch_l (l := l) (e := e) (by omega : k ≤ 1000000) l 0 o m rfl hl out (bad ++ [⟨(k : Int), x⟩]) v h1 (by simp; omega)
    refine ⟨v', Ev.succ ?_⟩
    simp only [s_f77]
    exact Ev.f (beq_false_of_ne (by omega)) (Ev.g (Int.natCast_nonneg k) (Ev.bindc (by rw [Int.toNat_natCast]; exact hk) (Ev.bind hr (Ev.t he (Ev.g (by omega) (e1.congr (by simp)))))))
  | false =>
    rw [he] at h2
    simp only [cond_false] at h2
    obtain ⟨v', e1⟩ := ch_l (l := l) (e := e) (by omega : k ≤ 1000000) l 0 o m rfl hl out bad v h1 h2
    refine ⟨v', Ev.succ ?_⟩
    simp only [s_f77]
    exact Ev.f (beq_false_of_ne (by omega)) (Ev.g (Int.natCast_nonneg k) (Ev.bindc (by rw [Int.toNat_natCast]; exact hk) (Ev.bind hr (Ev.f he e1))))
theorem e44 {ps : List (List GInst)} {x : Val} {o : List Val} {m : List GMiss} (h : ChE ps 0 x o m) (h1 : o.length ≤ 1000000) (h2 : m.length ≤ 1000000) : Ev (fun n => s_f44 n ps x) (o, m) := by
  obtain ⟨v, e⟩ := h [] [] 0 (by simpa using h1) (by simpa using h2)
  unfold s_f44
  exact Ev.bind e (Ev.mk _)
end Go.Proofs.Ytbcjcekoonebiaa.Tl

set_option linter.unusedVariables false
set_option linter.unusedSimpArgs false
namespace Go.Proofs.Ytbcjcekoonebiaa.Tl
open Go Go.RowKit
abbrev v0' : Val := .mk 0 0 false ⟨#[]⟩ []
abbrev iV (i : Int) : Val := .mk 1 i false ⟨#[]⟩ []
abbrev iX : GInst := ⟨⟨#[120]⟩, v0', 0⟩
abbrev iPush (v : Val) : GInst := ⟨⟨#[112, 117, 115, 104]⟩, v, 0⟩
abbrev iDiv : GInst := ⟨⟨#[100, 105, 118]⟩, v0', 0⟩
abbrev iEmit (n : Int) : GInst := ⟨⟨#[101, 109, 105, 116]⟩, v0', n⟩
abbrev iRet : GInst := ⟨⟨#[114, 101, 116]⟩, v0', 0⟩
theorem kn1 : Ev (fun n => s_f40 n [iX, iX, iEmit 2, iRet] (iV 3)) ([iV 3, iV 3], 0) :=
  e40 (run_step rfl rfl rfl rfl (st' := [iV 3]) (out' := []) rfl (by decide) (by decide) (by decide) (run_step rfl rfl rfl rfl (st' := [iV 3, iV 3]) (out' := []) rfl (by decide) (by decide) (by decide) (run_step rfl rfl rfl rfl (st' := []) (out' := [iV 3, iV 3]) rfl (by decide) (by decide) (by decide) (run_ret rfl rfl _ _))) 0)
abbrev kq : List GInst := [iPush (iV 6), iX, iDiv, iEmit 1, iRet]
theorem kn2 : Ev (fun n => s_f40 n kq (iV 3)) ([iV 2], 0) :=
  e40 (run_step rfl rfl rfl rfl (st' := [iV 6]) (out' := []) rfl (by decide) (by decide) (by decide) (run_step rfl rfl rfl rfl (st' := [iV 6, iV 3]) (out' := []) rfl (by decide) (by decide) (by decide) (run_step rfl rfl rfl rfl (st' := [iV 2]) (out' := []) rfl (by decide) (by decide) (by decide) (run_step rfl rfl rfl rfl (st' := []) (out' := [iV 2]) rfl (by decide) (by decide) (by decide) (run_ret rfl rfl _ _)))) 0)
theorem kn3 : Ev (fun n => s_f40 n kq (iV 0)) ([], 8) :=
  e40 (run_step rfl rfl rfl rfl (st' := [iV 6]) (out' := []) rfl (by decide) (by decide) (by decide) (run_step rfl rfl rfl rfl (st' := [iV 6, iV 0]) (out' := []) rfl (by decide) (by decide) (by decide) (run_err rfl rfl rfl rfl (st' := []) (out' := []) rfl (by decide) (by decide) (by decide))) 0)
theorem kn4 : Ev (fun n => s_f44 n [[iX, iX, iEmit 2, iRet], kq] (iV 3)) ([iV 2, iV 2], []) := by
  have a : ChE [[iX, iX, iEmit 2, iRet], kq] 1 (iV 3) [iV 2] [] := ch_run rfl (by decide) kn2 ⟨[iV 2], [], [], [], rfl, rfl, ch_end _ _, rfl, rfl⟩
  exact e44 (ch_run rfl (by decide) kn1 ⟨[iV 2], [], [iV 2], [], rfl, rfl, a, [iV 2], [], [], [], rfl, rfl, a, rfl, rfl⟩) (by decide) (by decide)
theorem kn5 : Ev (fun n => s_f44 n [kq] (iV 0)) ([], [⟨0, iV 0⟩]) :=
  e44 (ch_run (k := 0) rfl (by decide) kn3 (o := []) (m := []) ⟨rfl, rfl⟩) (by decide) (by decide)
theorem e36 : Ev (fun n => s_f36 n) true := by
  unfold s_f36
  exact Ev.bind kn1 (Ev.bind kn4 (Ev.bind kn5 (Ev.bind kn3 (Ev.t rfl (Ev.t rfl (Ev.t rfl (Ev.bindc rfl (Ev.t rfl (Ev.t rfl (Ev.t rfl (Ev.bindc rfl (Ev.t rfl (Ev.bindc rfl (Ev.t rfl (Ev.mk _)))))))))))))))
end Go.Proofs.Ytbcjcekoonebiaa.Tl

set_option linter.unusedVariables false
set_option linter.unusedSimpArgs false
namespace Go.Proofs.Ytbcjcekoonebiaa.Tl
open Go Go.RowKit
theorem drop_c {α : Type} {t r : List α} {j : Nat} {x : α} (h : t.drop j = x :: r) : j < t.length ∧ t[j]? = some x ∧ t.drop (j + 1) = r := by
  have hlt : j < t.length := by
    rcases Nat.lt_or_ge j t.length with h1 | h1
    · exact h1
    · rw [List.drop_eq_nil_of_le h1] at h; cases h
  rw [List.drop_eq_getElem_cons hlt] at h
  injection h with h1 h2
  exact ⟨hlt, by rw [List.getElem?_eq_getElem hlt, h1], h2⟩
theorem drop_n {α : Type} {t : List α} {j : Nat} (h : t.drop j = []) : t.length ≤ j := List.drop_eq_nil_iff.1 h
theorem cj_t {j m : Nat} (h : j < m) : decide ((j : Int) < (m : Int)) = true := decide_eq_true (by omega)
theorem cj_f {j m : Nat} (h : m ≤ j) : decide ((j : Int) < (m : Int)) = false := decide_eq_false (by omega)
theorem w1 {d : Int} (h0 : -1000000 ≤ d) (h1 : d ≤ 1000000) : IntKind.i64.wrap (d + 1) = d + 1 := wrap64 (by omega) (by omega)
/-! ### what is wrong with a value -/
mutual
def ckV : Val → Int → Int
  | .mk k i b s t, d => bif (decide (k < 1)) || (decide (k > 4)) then 5 else bif ((((k != 1) && (i != 0)) || ((k != 2) && b)) || ((k != 3) && (s.data.toList != []))) || ((k != 4) && (decide ((t.length : Int) > 0))) then 2
    else bif decide ((s.size : Int) > 255) then 4 else bif k != 4 then 0 else bif (t.length : Int) == 0 then 1 else bif decide ((t.length : Int) > 8) then 10 else bif decide (d > 4) then 9 else ckVs t (d + 1)
def ckVs : List Val → Int → Int
  | [], _ => 0
  | x :: r, d => bif ckV x d != 0 then ckV x d else ckVs r d
end
mutual
def BdV : Val → Prop
  | .mk k i b s t => t.length ≤ 20 ∧ BdVs t
def BdVs : List Val → Prop
  | [] => True
  | x :: r => BdV x ∧ BdVs r
end
/-! ### as the document's: the same tree -/
mutual
theorem e22 : ∀ v : Val, BdV v → Ev (fun n => s_f22 n v) v
  | .mk k i b s t, h => by
    refine Ev.succ ?_
    simp only [s_f22]
    exact e22s t k i b s t 0 [] rfl rfl h.1 h.2
theorem e22s : ∀ (r : List Val) (k i : Int) (b : Bool) (s : ByteArray) (t : List Val) (j : Nat) (acc : List Val), acc ++ r = t → acc.length = j → t.length ≤ 20 → BdVs r → Ev (fun n => s_f22_l1 n (.mk k i b s t) j acc) (.mk k i b s t)
  | [], k, i, b, s, t, j, acc, h, hj, hl, hb => by
    refine Ev.succ ?_
    subst hj
    simp only [List.append_nil] at h
    subst h
    simp only [s_f22_l1, Val.kind, Val.i, Val.b, Val.s, Val.t]
    exact Ev.f (cj_f (Nat.le_refl _)) (Ev.mk _)
  | x :: r, k, i, b, s, t, j, acc, h, hj, hl, hb => by
    refine Ev.succ ?_
    have hx : t[j]? = some x := by subst h hj; simp
    have hlt : j < t.length := (List.getElem?_eq_some_iff.1 hx).1
    simp only [s_f22_l1, Val.t]
    exact Ev.t (cj_t hlt) (Ev.bindc hx (Ev.bind (e22 x hb.1) (Ev.g (by omega) (e22s r k i b s t (j + 1) (acc ++ [x]) (by simp [h]) (by simp [hj]) hl hb.2))))
end

end Go.Proofs.Ytbcjcekoonebiaa.Tl

set_option linter.unusedVariables false
set_option linter.unusedSimpArgs false
namespace Go.Proofs.Ytbcjcekoonebiaa.Tl
open Go Go.RowKit
/-! ### which value stands first -/
theorem e100 (b : Bool) : Ev (fun n => s_f100 n b) (bif b then -1 else 1) := by
  unfold s_f100
  exact Ev.if (fun _ => Ev.mk _) (fun _ => Ev.mk _)
theorem cmpI_ne {x y : Int} (h : x ≠ y) : cmpI x y = bif decide (x < y) then -1 else 1 := by
  unfold cmpI
  by_cases h1 : x < y
  · simp [h1]
  · have h2 : x > y := by omega
    simp [h1, h2]
theorem cmpI_ne0 {x y : Int} (h : x ≠ y) : cmpI x y ≠ 0 := by
  rw [cmpI_ne h]; cases decide (x < y) <;> simp
theorem cmpI_eq (x : Int) : cmpI x x = 0 := by simp [cmpI]
theorem cmpL_rf : ∀ l : List UInt8, Lib.compareBytes l l = 0
  | [] => rfl
  | x :: l => by
    have hx : ¬ x < x := fun h => by simp at h
    simp [Lib.compareBytes, cmpL_rf l, hx]
theorem cmpL_ne : ∀ a b : List UInt8, a ≠ b → Lib.compareBytes a b = bif Op.bytesLess a b then -1 else 1
  | [], [], h => absurd rfl h
  | [], _ :: _, _ => rfl
  | _ :: _, [], _ => rfl
  | x :: a, y :: b, hne => by
    rcases Nat.lt_trichotomy x.toNat y.toNat with h | h | h
    · have h1 : x < y := h
      simp [Lib.compareBytes, Op.bytesLess, h1]
    · have h1 : x = y := UInt8.toNat_inj.1 h
      subst h1
      have hx : ¬ x < x := fun h => by simp at h
      have ih := cmpL_ne a b (fun q => hne (by rw [q]))
      simp [Lib.compareBytes, Op.bytesLess, hx]
      simpa using ih
    · have h1 : y < x := h
      have h2 : ¬ x < y := fun q => by have q : x.toNat < y.toNat := q; omega
      have h3 : ¬ x = y := fun q => by subst q; omega
      have h4 : (x == y) = false := beq_false_of_ne h3
      simp [Lib.compareBytes, Op.bytesLess, h1, h2, h3, h4]
theorem nil_of {α : Type} {t : List α} (h : decide ((t.length : Int) > 0) = false) : t = [] := List.eq_nil_of_length_eq_zero (by have := of_decide_eq_false h; omega)
theorem bne_t {α : Type} [BEq α] [LawfulBEq α] {a b : α} (h : (a != b) = true) : a ≠ b := by simpa using h
theorem bne_f {α : Type} [BEq α] [LawfulBEq α] {a b : α} (h : (a != b) = false) : a = b := by simpa using h
theorem ev100 {p : Prop} [Decidable p] {c : Int} (h : c = bif decide p then -1 else 1) : Ev (fun n => (s_f100 n (decide p)).bind fun q => some q) c := h ▸ Ev.ret (g := id) (e100 _)
theorem cmpV_mk (k i : Int) (b : Bool) (s : ByteArray) (t : List Val) (k' i' : Int) (b' : Bool) (s' : ByteArray) (t' : List Val) : cmpV (.mk k i b s t) (.mk k' i' b' s' t') =
    bif k != k' then cmpI k k' else bif i != i' then cmpI i i' else bif b != b' then cmpI (bI b) (bI b') else bif s.data.toList != s'.data.toList then cmpB s s' else cmpVs t t' := by
  simp only [cmpV, Val.kind, Val.i, Val.b, Val.s, Val.t]
  by_cases h1 : k = k'
  · subst h1
    by_cases h2 : i = i'
    · subst h2
      by_cases h3 : b = b'
      · subst h3
        by_cases h4 : s.data.toList = s'.data.toList
        · have hc : cmpB s s' = 0 := by show Lib.compareBytes _ _ = 0; rw [h4]; exact cmpL_rf _
          simp only [cmpI_eq, orI, if_true, hc, h4, bne_self_eq_false, cond_false]
        · have hc : cmpB s s' = bif Op.bytesLess s.data.toList s'.data.toList then -1 else 1 := cmpL_ne _ _ h4
          have h0 : cmpB s s' ≠ 0 := by rw [hc]; cases Op.bytesLess s.data.toList s'.data.toList <;> simp
          have h5 : (s.data.toList != s'.data.toList) = true := by simpa using h4
          simp only [cmpI_eq, orI, if_true, h0, h5, bne_self_eq_false, cond_false, if_false, cond_true]
      · have hb : bI b ≠ bI b' := fun q => h3 (by revert q; cases b <;> cases b' <;> simp [bI])
        have h0 := cmpI_ne0 hb
        have h5 : (b != b') = true := by simpa using h3
        simp only [cmpI_eq, orI, if_true, h0, h5, bne_self_eq_false, cond_false, if_false, cond_true]
    · have h0 := cmpI_ne0 h2
      have h5 : (i != i') = true := by simpa using h2
      simp only [cmpI_eq, orI, if_true, h0, h5, bne_self_eq_false, cond_false, if_false, cond_true]
  · have h0 := cmpI_ne0 h1
    have h5 : (k != k') = true := by simpa using h1
    simp only [orI, h0, h5, if_false, cond_true]
mutual
theorem e64 : ∀ a b : Val, BdV a → Ev (fun n => s_f64 n a b) (cmpV a b)
  | .mk k i b s t, .mk k' i' b' s' t', hbd => by
    refine Ev.succ ?_
    rw [cmpV_mk]
    simp only [s_f64, Val.kind, Val.i, Val.b, Val.s, Val.t]
    refine Ev.if (fun h => ev100 (cmpI_ne (bne_t h))) (fun h1 => Ev.if (fun h => ev100 (cmpI_ne (bne_t h))) (fun h2 => Ev.if (fun h => ?_) (fun h3 => Ev.if (fun h => ?_) (fun h4 => ?_))))
    · have hv : cmpI (bI b) (bI b') = bif b' then -1 else 1 := by have h := bne_t h; revert h; cases b <;> cases b' <;> simp [bI, cmpI]
      rw [hv]
      exact Ev.ret (g := id) (e100 _)
    · have hc : cmpB s s' = bif Op.bytesLess s.data.toList s'.data.toList then -1 else 1 := cmpL_ne _ _ (bne_t h)
      rw [hc]
      exact Ev.ret (g := id) (e100 _)
    · exact e64s t k i b s t (.mk k' i' b' s' t') 0 rfl (Nat.zero_le _) (Nat.zero_le _) hbd.1 hbd.2
theorem e64s : ∀ (r : List Val) (k i : Int) (b : Bool) (s : ByteArray) (t : List Val) (w : Val) (j : Nat), t.drop j = r → j ≤ t.length → j ≤ w.t.length → t.length ≤ 20 → BdVs r → Ev (fun n => s_f64_l1 n (.mk k i b s t) w j) (cmpVs r (w.t.drop j))
  | [], k, i, b, s, t, w, j, h, h1, h2, hl, hbd => by
    refine Ev.succ ?_
    have hle := drop_n h
    simp only [s_f64_l1, show ∀ k i b s t, (Val.mk k i b s t).t = t from fun _ _ _ _ _ => rfl]
    refine Ev.f (and_f (cj_f hle)) ?_
    cases hw : w.t.drop j with
    | nil =>
      have := drop_n hw
      simp only [cmpVs]
      exact Ev.f (by rw [show t.length = w.t.length by omega]; simp) (Ev.mk _)
    | cons y q =>
      obtain ⟨hj, _, _⟩ := drop_c hw
      simp only [cmpVs]
      refine Ev.t (by simp; omega) (ev100 ?_)
      rw [decide_eq_true (by omega)]
      rfl
  | x :: r, k, i, b, s, t, w, j, h, h1, h2, hl, hbd => by
    obtain ⟨hj, hx, hr⟩ := drop_c h
    refine Ev.succ ?_
    simp only [s_f64_l1, show ∀ k i b s t, (Val.mk k i b s t).t = t from fun _ _ _ _ _ => rfl]
    cases hw : w.t.drop j with
    | nil =>
      have hle := drop_n hw
      simp only [cmpVs]
      refine Ev.f (by rw [cj_f hle, Bool.and_false]) (Ev.t (by simp; omega) (ev100 ?_))
      rw [decide_eq_false (by omega)]
      rfl
    | cons y q =>
      obtain ⟨hj2, hy, hq⟩ := drop_c hw
      simp only [cmpVs]
      refine Ev.t (by rw [cj_t hj, cj_t hj2]; rfl) ?_
      refine Ev.g (Int.natCast_nonneg j) (Ev.bindc (by rw [Int.toNat_natCast]; exact hx) (Ev.g (Int.natCast_nonneg j) (Ev.bindc (by rw [Int.toNat_natCast]; exact hy) (Ev.bind (e64 x y hbd.1) ?_))))
      by_cases hc : cmpV x y = 0
      · rw [if_pos hc]
        refine Ev.f (by simp [hc]) ?_
        have := e64s r k i b s t w (j + 1) hr (by omega) (by omega) hl hbd.2
        rw [hq] at this
        rw [show IntKind.i64.wrap ((j : Int) + 1) = ((j + 1 : Nat) : Int) by rw [wrap64 (by omega) (by omega)]; rfl]
        exact this
      · rw [if_neg hc]
        exact Ev.t (by simpa using hc) (Ev.mk _)
end
theorem e25 (a b : Val) (h : BdV a) : Ev (fun n => s_f25 n a b) (cmpV a b == 0) := by
  unfold s_f25
  exact Ev.ret (e64 a b h)
end Go.Proofs.Ytbcjcekoonebiaa.Tl

set_option linter.unusedVariables false
set_option linter.unusedSimpArgs false
namespace Go.Proofs.Ytbcjcekoonebiaa.Tl
open Go Go.RowKit
/-! ### types of values -/
mutual
def tyV : Val → Ty
  | .mk k i b s t => .mk k (tyVs t)
def tyVs : List Val → List Ty
  | [] => []
  | x :: r => tyV x :: tyVs r
end
theorem tyVs_length : ∀ l : List Val, (tyVs l).length = l.length
  | [] => rfl
  | x :: r => by simp only [tyVs, List.length_cons, tyVs_length r]
abbrev zT : Ty := .mk 0 []
/-! ### what is wrong with a type -/
mutual
def ckT : Ty → Int → Int
  | .mk k l, d => bif ((decide (k < 1)) || (decide (k > 4))) || ((k != 4) && (decide ((l.length : Int) > 0))) then 5 else bif k != 4 then 0 else bif (l.length : Int) == 0 then 1 else bif decide ((l.length : Int) > 8) then 10 else bif decide (d > 4) then 9 else ckTs l (d + 1)
def ckTs : List Ty → Int → Int
  | [], _ => 0
  | x :: r, d => bif ckT x d != 0 then ckT x d else ckTs r d
end
/-! ### types alike -/
mutual
def sameT : Ty → Ty → Bool
  | .mk k l, u => bif (k != u.kind) || ((l.length : Int) != (u.of.length : Int)) then false else sameTs l u.of
def sameTs : List Ty → List Ty → Bool
  | x :: r, y :: q => bif !(sameT x y) then false else sameTs r q
  | _, _ => true
end
/-! ### ops -/
def arS (o : List UInt8) : Int :=
  bif o == [108, 105, 116] then 0 else bif o == [120] then 0 else bif o == [97, 116] then 1 else bif o == [110, 101, 103] then 1 else bif o == [110, 111, 116] then 1 else bif o == [108, 101, 110] then 1
  else bif o == [97, 100, 100] then 2 else bif o == [115, 117, 98] then 2 else bif o == [109, 117, 108] then 2 else bif o == [100, 105, 118] then 2 else bif o == [114, 101, 109] then 2 else bif o == [101, 113] then 2 else bif o == [108, 116] then 2
  else bif o == [97, 110, 100] then 2 else bif o == [111, 114] then 2 else bif o == [99, 97, 116] then 2 else bif o == [105, 102] then 3 else bif o == [116, 117, 112] then -1 else -2
def allK (k : Int) (ts : List Ty) (r : Ty) : Ty × Int :=
  match ts with
  | [] => (r, 0)
  | x :: q => bif x.kind != k then (zT, 5) else allK k q r
abbrev th (ts : List Ty) (j : Nat) : Ty := (ts[j]?).getD zT
/-- What an op makes of types. -/
def opTy (o : List UInt8) (m : Int) (ts : List Ty) : Ty × Int :=
  bif o == [97, 116] then (bif (th ts 0).kind != 4 then (zT, 5) else bif decide (m < 0) then (zT, 1) else bif decide (m ≥ ((th ts 0).of.length : Int)) then (zT, 1) else (th (th ts 0).of m.toNat, 0))
  else bif o == [116, 117, 112] then (bif ckT (.mk 4 ts) 0 != 0 then (zT, 9) else (.mk 4 ts, 0))
  else bif o == [101, 113] then (bif !(sameT (th ts 0) (th ts 1)) then (zT, 5) else (.mk 2 [], 0))
  else bif o == [108, 116] then (bif !(sameT (th ts 0) (th ts 1)) then (zT, 5) else (.mk 2 [], 0))
  else bif o == [105, 102] then (bif (th ts 0).kind != 2 then (zT, 5) else bif !(sameT (th ts 1) (th ts 2)) then (zT, 5) else (th ts 1, 0))
  else bif o == [110, 101, 103] then allK 1 ts (.mk 1 []) else bif o == [97, 100, 100] then allK 1 ts (.mk 1 []) else bif o == [115, 117, 98] then allK 1 ts (.mk 1 []) else bif o == [109, 117, 108] then allK 1 ts (.mk 1 []) else bif o == [100, 105, 118] then allK 1 ts (.mk 1 []) else bif o == [114, 101, 109] then allK 1 ts (.mk 1 [])
  else bif o == [110, 111, 116] then allK 2 ts (.mk 2 []) else bif o == [97, 110, 100] then allK 2 ts (.mk 2 []) else bif o == [111, 114] then allK 2 ts (.mk 2 [])
  else bif o == [99, 97, 116] then allK 3 ts (.mk 3 []) else bif o == [108, 101, 110] then allK 3 ts (.mk 1 []) else allK 0 ts (.mk 0 [])
theorem th_get {ts : List Ty} {j : Nat} (h : j < ts.length) : ts[j]? = some (th ts j) := by
  simp [th, List.getElem?_eq_getElem h]
/-! ### what is few of expressions -/
mutual
def BdE : Ex → Prop
  | .mk o v m a => a.length ≤ 12 ∧ BdV v ∧ BdEs a
def BdEs : List Ex → Prop
  | [] => True
  | x :: r => BdE x ∧ BdEs r
end
/-! ### as the document's -/
mutual
theorem e19 : ∀ v : Ex, BdE v → Ev (fun n => s_f19 n v) v
  | .mk o v m a, h => by
    refine Ev.succ ?_
    simp only [s_f19]
    exact Ev.bind (e22 v h.2.1) (e19s a o v m a 0 [] rfl rfl h.1 h.2.2)
theorem e19s : ∀ (r : List Ex) (o : ByteArray) (v : Val) (m : Int) (t : List Ex) (j : Nat) (acc : List Ex), acc ++ r = t → acc.length = j → t.length ≤ 12 → BdEs r → Ev (fun n => s_f19_l1 n (.mk o v m t) v j acc) (.mk o v m t)
  | [], o, v, m, t, j, acc, h, hj, hl, hb => by
    refine Ev.succ ?_
    subst hj
    simp only [List.append_nil] at h
    subst h
    simp only [s_f19_l1, Ex.op, Ex.n, Ex.a]
    exact Ev.f (cj_f (Nat.le_refl _)) (Ev.mk _)
  | x :: r, o, v, m, t, j, acc, h, hj, hl, hb => by
    refine Ev.succ ?_
    have hx : t[j]? = some x := by subst h hj; simp
    have hlt : j < t.length := (List.getElem?_eq_some_iff.1 hx).1
    simp only [s_f19_l1, Ex.a]
    exact Ev.t (cj_t hlt) (Ev.bindc hx (Ev.bind (e19 x hb.1) (Ev.g (by omega) (e19s r o v m t (j + 1) (acc ++ [x]) (by simp [h]) (by simp [hj]) hl hb.2))))
end

/-! ### the type of an expression -/
mutual
def ckE : Ex → Ty → Int → Ty × Int
  | .mk o v m a, ty, d =>
    bif arS o.data.toList == (-2) then (zT, 6) else bif decide (d > 12) then (zT, 9)
    else bif ((decide (arS o.data.toList ≥ 0)) && ((a.length : Int) != arS o.data.toList)) || ((decide (arS o.data.toList < 0)) && ((decide ((a.length : Int) < 1)) || (decide ((a.length : Int) > 8)))) then (zT, 1)
    else bif ((o.data.toList != [97, 116]) && (m != 0)) || ((o.data.toList != [108, 105, 116]) && (!(((((v.kind == 0) && (v.i == 0)) && (!v.b)) && (v.s.data.toList == [])) && ((v.t.length : Int) == 0)))) then (zT, 1)
    else bif o.data.toList == [108, 105, 116] then (bif ckV v 0 != 0 then (zT, ckV v 0) else (tyV v, 0))
    else bif o.data.toList == [120] then (ty, 0)
    else bif (ckEs a ty (d + 1)).2 != 0 then (zT, (ckEs a ty (d + 1)).2) else opTy o.data.toList m (ckEs a ty (d + 1)).1
def ckEs : List Ex → Ty → Int → List Ty × Int
  | [], _, _ => ([], 0)
  | e :: r, ty, d => bif (ckE e ty d).2 != 0 then ([], (ckE e ty d).2) else bif (ckEs r ty d).2 != 0 then ([], (ckEs r ty d).2) else ((ckE e ty d).1 :: (ckEs r ty d).1, 0)
end
end Go.Proofs.Ytbcjcekoonebiaa.Tl

set_option linter.unusedVariables false
set_option linter.unusedSimpArgs false
namespace Go.Proofs.Ytbcjcekoonebiaa.Tl
open Go Go.RowKit
/-! ### values that may be, of a type -/
mutual
def lfV : Val → Prop
  | .mk k i b s t => (((decide (k < 1)) || (decide (k > 4))) = false) ∧ ((((((k != 1) && (i != 0)) || ((k != 2) && b)) || ((k != 3) && (s.data.toList != []))) || ((k != 4) && (decide ((t.length : Int) > 0)))) = false) ∧ s.size ≤ 255 ∧ lfVs t
def lfVs : List Val → Prop
  | [] => True
  | x :: r => lfV x ∧ lfVs r
end
mutual
theorem ckT_down : ∀ (t : Ty) (d : Int), ckT t (d + 1) = 0 → ckT t d = 0
  | .mk k l, d, h => by
    simp only [ckT] at h ⊢
    cases h1 : ((decide (k < 1)) || (decide (k > 4))) || ((k != 4) && (decide ((l.length : Int) > 0))) with
    | true => rw [h1] at h; simp at h
    | false =>
      rw [h1] at h
      simp only [cond_false] at h ⊢
      cases h2 : k != 4 with
      | true => rfl
      | false =>
        rw [h2] at h
        simp only [cond_false] at h ⊢
        cases h3 : (l.length : Int) == 0 with
        | true => rw [h3] at h; simp at h
        | false =>
          rw [h3] at h
          simp only [cond_false] at h ⊢
          cases h4 : decide ((l.length : Int) > 8) with
          | true => rw [h4] at h; simp at h
          | false =>
            rw [h4] at h
            simp only [cond_false] at h ⊢
            cases h5 : decide (d + 1 > 4) with
            | true => rw [h5] at h; simp at h
            | false =>
              rw [h5] at h
              simp only [cond_false] at h
              have h6 := of_decide_eq_false h5
              rw [show decide (d > 4) = false from decide_eq_false (by omega)]
              exact ckTs_down l (d + 1) h
theorem ckTs_down : ∀ (t : List Ty) (d : Int), ckTs t (d + 1) = 0 → ckTs t d = 0
  | [], d, h => rfl
  | x :: r, d, h => by
    simp only [ckTs] at h ⊢
    by_cases h1 : ckT x (d + 1) = 0
    · rw [h1] at h
      simp only [bne_self_eq_false, cond_false] at h
      rw [ckT_down x d h1]
      simp only [bne_self_eq_false, cond_false]
      exact ckTs_down r d h
    · rw [show (ckT x (d + 1) != 0) = true by simpa using h1] at h
      exact absurd h h1
end
theorem ckTs_get : ∀ {ts : List Ty} {d : Int} {j : Nat} {t : Ty}, ckTs ts d = 0 → ts[j]? = some t → ckT t d = 0
  | [], d, j, t, h, hj => by simp at hj
  | x :: r, d, j, t, h, hj => by
    simp only [ckTs] at h
    by_cases h1 : ckT x d = 0
    · rw [h1] at h
      simp only [bne_self_eq_false, cond_false] at h
      cases j with
      | zero => simp at hj; subst hj; exact h1
      | succ j => exact ckTs_get h (by simpa using hj)
    · rw [show (ckT x d != 0) = true by simpa using h1] at h
      exact absurd h h1
/-- A tuple's type: its parts are. -/
theorem ckT_tup {k : Int} {ts : List Ty} {d : Int} (hk : k = 4) (h : ckT (.mk k ts) d = 0) : ts ≠ [] ∧ ts.length ≤ 8 ∧ d ≤ 4 ∧ ckTs ts (d + 1) = 0 := by
  subst hk
  simp only [ckT] at h
  simp at h
  cases h3 : (ts.length : Int) == 0 with
  | true =>
    rw [h3] at h
    simp at h
  | false =>
    have hne : ts ≠ [] := by rintro rfl; simp at h3
    rw [h3] at h
    simp only [cond_false] at h
    cases h4 : decide (8 < (ts.length : Int)) with
    | true => rw [h4] at h; simp at h
    | false =>
      rw [h4] at h
      simp only [cond_false] at h
      have h4 := of_decide_eq_false h4
      cases h5 : decide (4 < d) with
      | true => rw [h5] at h; simp at h
      | false =>
        rw [h5] at h
        simp only [cond_false] at h
        exact ⟨hne, by omega, by have := of_decide_eq_false h5; omega, h⟩
mutual
theorem lf_bd : ∀ (v : Val) (d : Int), lfV v → ckT (tyV v) d = 0 → BdV v
  | .mk k i b s t, d, h, hc => by
    by_cases hk : k = 4
    · obtain ⟨h1, h2, h3, h4⟩ := ckT_tup hk hc
      rw [tyVs_length] at h2
      exact ⟨by omega, lfs_bd t (d + 1) h.2.2.2 h4⟩
    · have h3 := (or_f h.2.1).2
      rw [show (k != 4) = true by simpa using hk] at h3
      have h6 : t = [] := by
        rw [Bool.true_and] at h3
        exact nil_of h3
      subst h6
      exact ⟨by simp, trivial⟩
theorem lfs_bd : ∀ (v : List Val) (d : Int), lfVs v → ckTs (tyVs v) d = 0 → BdVs v
  | [], d, _, _ => trivial
  | x :: r, d, h, hc => by
    simp only [tyVs, ckTs] at hc
    by_cases h1 : ckT (tyV x) d = 0
    · rw [h1] at hc
      simp only [bne_self_eq_false, cond_false] at hc
      exact ⟨lf_bd x d h.1 h1, lfs_bd r d h.2 hc⟩
    · rw [show (ckT (tyV x) d != 0) = true by simpa using h1] at hc
      exact absurd hc h1
end
end Go.Proofs.Ytbcjcekoonebiaa.Tl

set_option linter.unusedVariables false
set_option linter.unusedSimpArgs false
namespace Go.Proofs.Ytbcjcekoonebiaa.Tl
open Go Go.RowKit
/-- A value of a type that may be. -/
def OKv (v : Val) (t : Ty) : Prop := lfV v ∧ tyV v = t ∧ ckT t 0 = 0
def OKvs : List Val → List Ty → Prop
  | [], [] => True
  | v :: vs, t :: ts => OKv v t ∧ OKvs vs ts
  | _, _ => False
theorem OKvs.len : ∀ {vs : List Val} {ts : List Ty}, OKvs vs ts → vs.length = ts.length
  | [], [], _ => rfl
  | [], _ :: _, h => by simp [OKvs] at h
  | _ :: _, [], h => by simp [OKvs] at h
  | v :: vs, t :: ts, h => by simp only [List.length_cons, OKvs.len h.2]
theorem OKvs.lf : ∀ {vs : List Val} {ts : List Ty}, OKvs vs ts → lfVs vs ∧ tyVs vs = ts
  | [], [], _ => ⟨trivial, rfl⟩
  | [], _ :: _, h => by simp [OKvs] at h
  | _ :: _, [], h => by simp [OKvs] at h
  | v :: vs, t :: ts, h => ⟨⟨h.1.1, (OKvs.lf h.2).1⟩, by simp only [tyVs, h.1.2.1, (OKvs.lf h.2).2]⟩
theorem OKv.bd {v : Val} {t : Ty} (h : OKv v t) : BdV v := lf_bd v 0 h.1 (by rw [h.2.1]; exact h.2.2)
theorem OKv.text {v : Val} {t : Ty} (h : OKv v t) : v.s.size ≤ 255 := by
  cases v; exact h.1.2.2.1
theorem ok_int (i : Int) : OKv (.mk 1 i false ⟨#[]⟩ []) (.mk 1 []) := ⟨⟨rfl, rfl, Nat.zero_le _, trivial⟩, rfl, rfl⟩
theorem ok_bool (b : Bool) : OKv (.mk 2 0 b ⟨#[]⟩ []) (.mk 2 []) := ⟨⟨rfl, rfl, Nat.zero_le _, trivial⟩, rfl, rfl⟩
theorem ok_text (s : ByteArray) (h : s.size ≤ 255) : OKv (.mk 3 0 false s []) (.mk 3 []) := ⟨by simp [lfV, lfVs, h], rfl, rfl⟩
theorem lfVs_get : ∀ {l : List Val} {j : Nat} {v : Val}, lfVs l → l[j]? = some v → lfV v
  | [], j, v, h, hj => by simp at hj
  | x :: r, j, v, h, hj => by
    cases j with
    | zero => simp at hj; subst hj; exact h.1
    | succ j => exact lfVs_get h.2 (by simpa using hj)
theorem tyVs_get : ∀ {l : List Val} {j : Nat}, (tyVs l)[j]? = (l[j]?).map tyV
  | [], j => by simp [tyVs]
  | x :: r, j => by
    cases j with
    | zero => simp [tyVs]
    | succ j => simp [tyVs, tyVs_get (l := r)]
/-- A tuple's part. -/
theorem ok_part {v : Val} {t : Ty} (h : OKv v t) (hk : t.kind = 4) {j : Nat} (hj : j < t.of.length) : ∃ w, v.t[j]? = some w ∧ OKv w (th t.of j) := by
  obtain ⟨h1, rfl, h2⟩ := h
  cases v with
  | mk k i b s l =>
    have hk : k = 4 := hk
    obtain ⟨_, _, _, h4⟩ := ckT_tup hk h2
    have hj : j < (tyVs l).length := hj
    have hg : (tyVs l)[j]? = some (th (tyVs l) j) := th_get hj
    have hg2 := hg
    rw [tyVs_get] at hg2
    simp only [Option.map_eq_some_iff] at hg2
    obtain ⟨w, hw, he⟩ := hg2
    exact ⟨w, hw, lfVs_get h1.2.2.2 hw, he, ckT_down _ 0 (ckTs_get h4 hg)⟩

/-- What is made of values. -/
theorem arS_cases {o : List UInt8} (h : arS o ≠ -2) : o = [108, 105, 116] ∨ o = [120] ∨ o = [97, 116] ∨ o = [110, 101, 103] ∨ o = [110, 111, 116] ∨ o = [108, 101, 110] ∨ o = [97, 100, 100] ∨ o = [115, 117, 98] ∨ o = [109, 117, 108] ∨ o = [100, 105, 118] ∨ o = [114, 101, 109] ∨ o = [101, 113] ∨ o = [108, 116] ∨ o = [97, 110, 100] ∨ o = [111, 114] ∨ o = [99, 97, 116] ∨ o = [105, 102] ∨ o = [116, 117, 112] := by
  apply Classical.byContradiction
  intro hn
  simp only [not_or] at hn
  apply h
  obtain ⟨h1, h2, h3, h4, h5, h6, h7, h8, h9, h10, h11, h12, h13, h14, h15, h16, h17, h18⟩ := hn
  simp only [arS, beq_false_of_ne h1, beq_false_of_ne h2, beq_false_of_ne h3, beq_false_of_ne h4, beq_false_of_ne h5, beq_false_of_ne h6, beq_false_of_ne h7, beq_false_of_ne h8, beq_false_of_ne h9, beq_false_of_ne h10, beq_false_of_ne h11, beq_false_of_ne h12, beq_false_of_ne h13, beq_false_of_ne h14, beq_false_of_ne h15, beq_false_of_ne h16, beq_false_of_ne h17, beq_false_of_ne h18, cond_false]

theorem two_of {ws : List Val} {ts : List Ty} (h : OKvs ws ts) (hl : ts.length = 2) : ∃ a b s t, ws = [a, b] ∧ ts = [s, t] ∧ OKv a s ∧ OKv b t := by
  rcases ts with _ | ⟨s, _ | ⟨t, _ | ⟨u, ts⟩⟩⟩ <;> simp at hl
  rcases ws with _ | ⟨a, _ | ⟨b, _ | ⟨c, ws⟩⟩⟩ <;> simp [OKvs] at h
  exact ⟨a, b, s, t, rfl, rfl, h.1, h.2⟩
theorem one_of {ws : List Val} {ts : List Ty} (h : OKvs ws ts) (hl : ts.length = 1) : ∃ a s, ws = [a] ∧ ts = [s] ∧ OKv a s := by
  rcases ts with _ | ⟨s, _ | ⟨u, ts⟩⟩ <;> simp at hl
  rcases ws with _ | ⟨a, _ | ⟨c, ws⟩⟩ <;> simp [OKvs] at h
  exact ⟨a, s, rfl, rfl, h⟩
theorem allK2 {k : Int} {s t r u : Ty} (h : allK k [s, t] r = (u, 0)) : s.kind = k ∧ t.kind = k ∧ u = r := by
  simp only [allK] at h
  cases h1 : s.kind != k with
  | true => rw [h1] at h; simp at h
  | false =>
    cases h2 : t.kind != k with
    | true => rw [h1, h2] at h; simp at h
    | false => rw [h1, h2] at h; simp at h; exact ⟨bne_f h1, bne_f h2, h.symm⟩
theorem allK1 {k : Int} {s r u : Ty} (h : allK k [s] r = (u, 0)) : s.kind = k ∧ u = r := by
  simp only [allK] at h
  cases h1 : s.kind != k with
  | true => rw [h1] at h; simp at h
  | false => rw [h1] at h; simp at h; exact ⟨bne_f h1, h.symm⟩

/-- The two ways come to the same, of a type. -/
def Made (op : ByteArray) (m : Int) (ws : List Val) (t : Ty) : Prop :=
  ∃ w h, applyS op m ws = some (w, h) ∧ Ev (fun n => s_f63 n op m ws) (w, h) ∧ (h = 0 → OKv w t) ∧ (h ≠ 0 → w = zeroV)

theorem made {op : ByteArray} {m : Int} {ws : List Val} {ts : List Ty} {t : Ty} (hw : OKvs ws ts) (har : arS op.data.toList ≠ -2)
    (hlen : (((decide (arS op.data.toList ≥ 0)) && ((ts.length : Int) != arS op.data.toList)) || ((decide (arS op.data.toList < 0)) && ((decide ((ts.length : Int) < 1)) || (decide ((ts.length : Int) > 8))))) = false)
    (h1 : op.data.toList ≠ [108, 105, 116]) (h2 : op.data.toList ≠ [120]) (h3 : op.data.toList ≠ [97, 110, 100]) (h4 : op.data.toList ≠ [111, 114]) (h5 : op.data.toList ≠ [105, 102]) (ht : opTy op.data.toList m ts = (t, 0)) : Made op m ws t := by
  have hl : ∀ c : Int, 0 ≤ c → arS op.data.toList = c → (ts.length : Int) = c := by
    intro c hc e
    rw [e] at hlen
    simp only [decide_eq_true (show c ≥ 0 from hc), decide_eq_false (show ¬ c < 0 by omega), Bool.true_and, Bool.false_and, Bool.or_false] at hlen
    exact bne_f hlen
  unfold Made applyS s_f63
  generalize hop : op.data.toList = o at *
  rcases arS_cases har with rfl | rfl | rfl | rfl | rfl | rfl | rfl | rfl | rfl | rfl | rfl | rfl | rfl | rfl | rfl | rfl | rfl | rfl
  · exact absurd rfl h1
  · exact absurd rfl h2
  · -- at
    obtain ⟨a, s, rfl, rfl, ha⟩ := one_of hw (by have := hl 1 (by omega) rfl; omega)
    have ht : (bif s.kind != 4 then (zT, (5 : Int)) else bif decide (m < 0) then (zT, (1 : Int)) else bif decide (m ≥ (s.of.length : Int)) then (zT, (1 : Int)) else (th s.of m.toNat, (0 : Int))) = (t, 0) := ht
    cases c1 : s.kind != 4 with
    | true => rw [c1] at ht; simp at ht
    | false =>
      cases c2 : decide (m < 0) with
      | true => rw [c1, c2] at ht; simp at ht
      | false =>
        cases c3 : decide (m ≥ (s.of.length : Int)) with
        | true => rw [c1, c2, c3] at ht; simp at ht
        | false =>
          rw [c1, c2, c3] at ht
          simp only [cond_false, Prod.mk.injEq, and_true] at ht
          have c2 := of_decide_eq_false c2
          have c3 := of_decide_eq_false c3
          obtain ⟨w, q1, q2⟩ := ok_part ha (bne_f c1) (j := m.toNat) (by omega)
          refine ⟨w, 0, ?_, ?_, fun _ => ht ▸ q2, fun q => absurd rfl q⟩
          · simp only [if_true, if_pos (show 0 ≤ m by omega), q1]
          · exact Ev.t rfl (Ev.bindc rfl (Ev.g (by omega) (Ev.bindc q1 (Ev.mk _))))
  · -- neg
    obtain ⟨a, s, rfl, rfl, ha⟩ := one_of hw (by have := hl 1 (by omega) rfl; omega)
    obtain ⟨_, rfl⟩ := allK1 (show allK 1 [s] (.mk 1 []) = (t, 0) from ht)
    exact ⟨_, 0, by simp [oneS, hop], Ev.bindc rfl (Ev.mk _), fun _ => ok_int _, fun q => absurd rfl q⟩
  · -- not
    obtain ⟨a, s, rfl, rfl, ha⟩ := one_of hw (by have := hl 1 (by omega) rfl; omega)
    obtain ⟨_, rfl⟩ := allK1 (show allK 2 [s] (.mk 2 []) = (t, 0) from ht)
    exact ⟨_, 0, by simp [oneS, hop], Ev.bindc rfl (Ev.mk _), fun _ => ok_bool _, fun q => absurd rfl q⟩
  · -- len
    obtain ⟨a, s, rfl, rfl, ha⟩ := one_of hw (by have := hl 1 (by omega) rfl; omega)
    obtain ⟨_, rfl⟩ := allK1 (show allK 3 [s] (.mk 1 []) = (t, 0) from ht)
    exact ⟨_, 0, by simp [oneS, hop], Ev.bindc rfl (Ev.mk _), fun _ => ok_int _, fun q => absurd rfl q⟩
  · -- add
    obtain ⟨a, b, s, s', rfl, rfl, ha, hb⟩ := two_of hw (by have := hl 2 (by omega) rfl; omega)
    obtain ⟨_, _, rfl⟩ := allK2 (show allK 1 [s, s'] (.mk 1 []) = (t, 0) from ht)
    exact ⟨_, 0, by simp [bothS, hop], Ev.bindc rfl (Ev.bindc rfl (Ev.mk _)), fun _ => ok_int _, fun q => absurd rfl q⟩
  · -- sub
    obtain ⟨a, b, s, s', rfl, rfl, ha, hb⟩ := two_of hw (by have := hl 2 (by omega) rfl; omega)
    obtain ⟨_, _, rfl⟩ := allK2 (show allK 1 [s, s'] (.mk 1 []) = (t, 0) from ht)
    exact ⟨_, 0, by simp [bothS, hop], Ev.bindc rfl (Ev.bindc rfl (Ev.mk _)), fun _ => ok_int _, fun q => absurd rfl q⟩
  · -- mul
    obtain ⟨a, b, s, s', rfl, rfl, ha, hb⟩ := two_of hw (by have := hl 2 (by omega) rfl; omega)
    obtain ⟨_, _, rfl⟩ := allK2 (show allK 1 [s, s'] (.mk 1 []) = (t, 0) from ht)
    exact ⟨_, 0, by simp [bothS, hop], Ev.bindc rfl (Ev.bindc rfl (Ev.mk _)), fun _ => ok_int _, fun q => absurd rfl q⟩
  · -- div
    obtain ⟨a, b, s, s', rfl, rfl, ha, hb⟩ := two_of hw (by have := hl 2 (by omega) rfl; omega)
    obtain ⟨_, _, rfl⟩ := allK2 (show allK 1 [s, s'] (.mk 1 []) = (t, 0) from ht)
    by_cases h0 : b.i = 0
    · exact ⟨zeroV, 8, by simp [bothS, hop, h0], Ev.bindc rfl (Ev.t (by simp [h0]) (Ev.mk _)), (fun q => by cases q), fun _ => rfl⟩
    · refine ⟨.mk 1 (W64 (a.i.tdiv b.i)) false ⟨#[]⟩ [], 0, by simp [bothS, hop, h0], ?_, fun _ => ok_int _, fun q => absurd rfl q⟩
      refine Ev.bindc rfl (Ev.f (by simpa using h0) (Ev.bindc rfl ?_))
      by_cases h6 : b.i = -1
      · refine Ev.t (by simp [h6]) (Ev.t rfl (Ev.bindc rfl ((Ev.mk _).congr ?_)))
        rw [h6, show a.i.tdiv (-1) = 0 - a.i by rw [Int.tdiv_neg, Int.tdiv_one]; omega]
      · exact Ev.f (by simpa using h6) (Ev.t rfl (Ev.bindc rfl (Ev.bindc rfl (Ev.g h0 (Ev.mk _)))))
  · -- rem
    obtain ⟨a, b, s, s', rfl, rfl, ha, hb⟩ := two_of hw (by have := hl 2 (by omega) rfl; omega)
    obtain ⟨_, _, rfl⟩ := allK2 (show allK 1 [s, s'] (.mk 1 []) = (t, 0) from ht)
    by_cases h0 : b.i = 0
    · exact ⟨zeroV, 8, by simp [bothS, hop, h0], Ev.bindc rfl (Ev.t (by simp [h0]) (Ev.mk _)), (fun q => by cases q), fun _ => rfl⟩
    · refine ⟨.mk 1 (a.i.tmod b.i) false ⟨#[]⟩ [], 0, by simp [bothS, hop, h0], ?_, fun _ => ok_int _, fun q => absurd rfl q⟩
      refine Ev.bindc rfl (Ev.f (by simpa using h0) (Ev.bindc rfl ?_))
      by_cases h6 : b.i = -1
      · refine Ev.t (by simp [h6]) (Ev.f rfl ((Ev.mk _).congr ?_))
        rw [h6, show a.i.tmod (-1) = 0 by rw [Int.tmod_neg, Int.tmod_one]]
      · exact Ev.f (by simpa using h6) (Ev.f rfl (Ev.bindc rfl (Ev.bindc rfl (Ev.g h0 (Ev.mk _)))))
  · -- eq
    obtain ⟨a, b, s, s', rfl, rfl, ha, hb⟩ := two_of hw (by have := hl 2 (by omega) rfl; omega)
    have ht : (bif !(sameT s s') then (zT, 5) else ((.mk 2 [] : Ty), (0 : Int))) = (t, 0) := ht
    cases c1 : !(sameT s s') with
    | true => rw [c1] at ht; simp at ht
    | false =>
      rw [c1] at ht
      simp at ht
      exact ⟨_, 0, by simp [bothS, hop], Ev.bindc rfl (Ev.bindc rfl (Ev.bind (e25 a b ha.bd) (Ev.mk _))), fun _ => ht ▸ ok_bool _, fun q => absurd rfl q⟩
  · -- lt
    obtain ⟨a, b, s, s', rfl, rfl, ha, hb⟩ := two_of hw (by have := hl 2 (by omega) rfl; omega)
    have ht : (bif !(sameT s s') then (zT, 5) else ((.mk 2 [] : Ty), (0 : Int))) = (t, 0) := ht
    cases c1 : !(sameT s s') with
    | true => rw [c1] at ht; simp at ht
    | false =>
      rw [c1] at ht
      simp at ht
      exact ⟨_, 0, by simp [bothS, hop], Ev.bindc rfl (Ev.bindc rfl (Ev.bind (e64 a b ha.bd) (Ev.mk _))), fun _ => ht ▸ ok_bool _, fun q => absurd rfl q⟩
  · exact absurd rfl h3
  · exact absurd rfl h4
  · -- cat
    obtain ⟨a, b, s, s', rfl, rfl, ha, hb⟩ := two_of hw (by have := hl 2 (by omega) rfl; omega)
    obtain ⟨_, _, rfl⟩ := allK2 (show allK 3 [s, s'] (.mk 3 []) = (t, 0) from ht)
    have l1 := ha.text
    have l2 := hb.text
    by_cases h6 : 255 < a.s.size + b.s.size
    · refine ⟨zeroV, 4, by simp [bothS, hop, h6]; omega, Ev.bindc rfl (Ev.bindc rfl (Ev.g (by omega) (Ev.t ?_ (Ev.mk _)))), (fun q => by cases q), fun _ => rfl⟩
      rw [ByteArray.size_append]; exact decide_eq_true (by omega)
    · refine ⟨.mk 3 0 false (a.s ++ b.s) [], 0, by simp [bothS, hop, h6]; omega, Ev.bindc rfl (Ev.bindc rfl (Ev.g (by omega) (Ev.f ?_ (Ev.mk _)))), fun _ => ok_text _ (by rw [ByteArray.size_append]; omega), fun q => absurd rfl q⟩
      rw [ByteArray.size_append]; exact decide_eq_false (by omega)
  · exact absurd rfl h5
  · -- tup
    have ht : (bif ckT (.mk 4 ts) 0 != 0 then (zT, 9) else ((.mk 4 ts : Ty), (0 : Int))) = (t, 0) := ht
    cases c1 : ckT (.mk 4 ts) 0 != 0 with
    | true => rw [c1] at ht; simp at ht
    | false =>
      rw [c1] at ht
      simp at ht
      subst ht
      have c1 := bne_f c1
      obtain ⟨q1, q2, _, _⟩ := ckT_tup rfl c1
      have ql := hw.len
      obtain ⟨q3, q4⟩ := hw.lf
      cases ws with
      | nil => have q5 : ts = [] := List.eq_nil_of_length_eq_zero (by simpa using ql.symm); exact absurd q5 q1
      | cons w ws =>
        refine ⟨.mk 4 0 false ⟨#[]⟩ (w :: ws), 0, ?_, Ev.f rfl (Ev.t rfl (Ev.g (by omega) (Ev.mk _))), fun _ => ⟨?_, by simp only [tyV, q4], c1⟩, fun q => absurd rfl q⟩
        · simp at ql
          simp
          omega
        · exact ⟨rfl, rfl, Nat.zero_le _, q3⟩
end Go.Proofs.Ytbcjcekoonebiaa.Tl

set_option linter.unusedVariables false
set_option linter.unusedSimpArgs false
namespace Go.Proofs.Ytbcjcekoonebiaa.Tl
open Go Go.RowKit
end Go.Proofs.Ytbcjcekoonebiaa.Tl

set_option linter.unusedVariables false
set_option linter.unusedSimpArgs false
namespace Go.Proofs.Ytbcjcekoonebiaa.Tl
open Go Go.RowKit
def Res (e : Ex) (x : Val) (t : Ty) : Prop := ∃ w h, evalS e x = some (w, h) ∧ Ev (fun n => s_f24 n e x) (w, h) ∧ (h = 0 → OKv w t) ∧ (h ≠ 0 → w = zeroV)
def Ress : List Ex → Val → List Ty → Prop
  | [], _, [] => True
  | e :: r, x, t :: ts => Res e x t ∧ Ress r x ts
  | _, _, _ => False
theorem Ress.len : ∀ {l : List Ex} {x : Val} {ts : List Ty}, Ress l x ts → l.length = ts.length
  | [], _, [], _ => rfl
  | [], _, _ :: _, h => by simp [Ress] at h
  | _ :: _, _, [], h => by simp [Ress] at h
  | _ :: _, _, _ :: _, h => by simp only [List.length_cons, Ress.len h.2]

end Go.Proofs.Ytbcjcekoonebiaa.Tl

set_option linter.unusedVariables false
set_option linter.unusedSimpArgs false
namespace Go.Proofs.Ytbcjcekoonebiaa.Tl
open Go Go.RowKit
/-! ### what is made anew is as it was -/
mutual
theorem e85 : ∀ v : Val, BdV v → Ev (fun n => s_f85 n v) v
  | .mk k i b s t, h => by
    refine Ev.succ ?_
    simp only [s_f85]
    exact e85s t k i b s t 0 [] rfl rfl h.1 h.2
theorem e85s : ∀ (r : List Val) (k i : Int) (b : Bool) (s : ByteArray) (t : List Val) (j : Nat) (acc : List Val), acc ++ r = t → acc.length = j → t.length ≤ 20 → BdVs r → Ev (fun n => s_f85_l1 n (.mk k i b s t) j acc) (.mk k i b s t)
  | [], k, i, b, s, t, j, acc, h, hj, hl, hb => by
    refine Ev.succ ?_
    subst hj
    simp only [List.append_nil] at h
    subst h
    simp only [s_f85_l1, Val.kind, Val.i, Val.b, Val.s, Val.t]
    exact Ev.f (cj_f (Nat.le_refl _)) (Ev.mk _)
  | x :: r, k, i, b, s, t, j, acc, h, hj, hl, hb => by
    refine Ev.succ ?_
    have hx : t[j]? = some x := by subst h hj; simp
    have hlt : j < t.length := (List.getElem?_eq_some_iff.1 hx).1
    simp only [s_f85_l1, Val.t]
    exact Ev.t (cj_t hlt) (Ev.bindc hx (Ev.bind (e85 x hb.1) (Ev.g (by omega) (e85s r k i b s t (j + 1) (acc ++ [x]) (by simp [h]) (by simp [hj]) hl hb.2))))
end
theorem GInst.eta (x : GInst) : GInst.mk x.f0 x.f1 x.f2 = x := by cases x; rfl
theorem e51l (p : List GInst) (hp : p.length ≤ 1000000) (hb : ∀ i ∈ p, BdV i.f1) : ∀ (r acc : List GInst) (j : Nat), acc ++ r = p → acc.length = j → Ev (fun n => s_f51_l1 n p acc j) p
  | [], acc, j, h, hj => by
    refine Ev.succ ?_
    subst hj
    simp only [List.append_nil] at h
    subst h
    simp only [s_f51_l1]
    exact Ev.f (cj_f (Nat.le_refl _)) (Ev.mk _)
  | x :: r, acc, j, h, hj => by
    refine Ev.succ ?_
    have hx : p[j]? = some x := by subst h hj; simp
    have hlt : j < p.length := (List.getElem?_eq_some_iff.1 hx).1
    have hm : x ∈ p := by rw [← h]; simp
    simp only [s_f51_l1]
    refine Ev.t (cj_t hlt) (Ev.bindc hx (Ev.bindc hx (Ev.bind (e85 _ (hb x hm)) (Ev.bindc hx (Ev.g (by omega) ?_)))))
    rw [GInst.eta]
    exact e51l p hp hb r (acc ++ [x]) (j + 1) (by simp [h]) (by simp [hj])
theorem e51 (p : List GInst) (hp : p.length ≤ 1000000) (hb : ∀ i ∈ p, BdV i.f1) : Ev (fun n => s_f51 n p) p := by
  unfold s_f51
  exact e51l p hp hb p [] 0 rfl rfl

/-! ### programs put together -/
def isJ (i : GInst) : Bool := (i.f0.data.toList == [106, 109, 112]) || (i.f0.data.toList == [106, 102])
def mvI (k : Int) (i : GInst) : GInst := bif isJ i then GInst.mk i.f0 i.f1 (IntKind.i64.wrap (i.f2 + k)) else i
def mvP (k : Int) (p : List GInst) : List GInst := p.map (mvI k)
def joinP (p q : List GInst) : List GInst := p ++ mvP (p.length : Int) q
theorem mvP_length (k : Int) (p : List GInst) : (mvP k p).length = p.length := by simp [mvP]
theorem joinP_length (p q : List GInst) : (joinP p q).length = p.length + q.length := by simp [joinP, mvP]
theorem e120l (p : List GInst) (k : Int) (hp : p.length ≤ 1000000) : ∀ (r acc : List GInst) (j : Nat), p.drop j = r → acc.length = j → Ev (fun n => s_f120_l1 n p k acc j) (acc ++ mvP k r)
  | [], acc, j, h, hj => by
    refine Ev.succ ?_
    simp only [s_f120_l1]
    exact Ev.f (cj_f (drop_n h)) ((Ev.mk _).congr (by simp [mvP]))
  | x :: r, acc, j, h, hj => by
    obtain ⟨h1, h2, h3⟩ := drop_c h
    refine Ev.succ ?_
    simp only [s_f120_l1]
    refine Ev.t (cj_t h1) (Ev.bindc h2 ?_)
    have h4 := e120l p k hp r (acc ++ [mvI k x]) (j + 1) h3 (by simp [hj])
    have h5 : Ev (fun n => s_f120_l1 n p k (acc ++ [mvI k x]) (j + 1)) (acc ++ mvP k (x :: r)) := Ev.congr h4 (by simp [mvP])
    cases hc : isJ x with
    | true =>
      simp only [mvI, hc, cond_true] at h5
      exact Ev.t hc (Ev.g (by omega) h5)
    | false =>
      simp only [mvI, hc, cond_false] at h5
      exact Ev.f hc (Ev.g (by omega) h5)
theorem e120 (p : List GInst) (k : Int) (hp : p.length ≤ 1000000) : Ev (fun n => s_f120 n p k) (mvP k p) := by
  unfold s_f120
  have := e120l p k hp p [] 0 rfl rfl
  simpa using this
theorem e89 (p q : List GInst) (h : p.length + q.length ≤ 1000000) : Ev (fun n => s_f89 n p q) (joinP p q) := by
  unfold s_f89
  exact Ev.g (by omega) (Ev.bind (e120 q _ (by omega)) (Ev.g (by rw [mvP_length]; omega) (Ev.mk _)))
abbrev jfI (k : Int) : GInst := ⟨⟨#[106, 102]⟩, zeroV, k⟩
abbrev jmpI (k : Int) : GInst := ⟨⟨#[106, 109, 112]⟩, zeroV, k⟩
def chooseP (a b c : List GInst) : List GInst := joinP (joinP (a ++ [jfI ((a.length + 1 + b.length + 1 : Nat) : Int)]) b ++ [jmpI ((a.length + 1 + b.length + 1 + c.length : Nat) : Int)]) c
theorem chooseP_length (a b c : List GInst) : (chooseP a b c).length = a.length + 1 + b.length + 1 + c.length := by simp [chooseP, joinP_length]
theorem e87 (a b c : List GInst) (h : a.length + 1 + b.length + 1 + c.length ≤ 1000000) : Ev (fun n => s_f87 n a b c) (chooseP a b c) := by
  unfold s_f87
  have w1 : IntKind.i64.wrap ((a.length : Int) + 1) = ((a.length + 1 : Nat) : Int) := by rw [wrap64 (by omega) (by omega)]; omega
  have w2 : IntKind.i64.wrap (((a.length + 1 : Nat) : Int) + (b.length : Int)) = ((a.length + 1 + b.length : Nat) : Int) := by rw [wrap64 (by omega) (by omega)]; omega
  have w3 : IntKind.i64.wrap (((a.length + 1 + b.length : Nat) : Int) + 1) = ((a.length + 1 + b.length + 1 : Nat) : Int) := by rw [wrap64 (by omega) (by omega)]; omega
  have w4 : IntKind.i64.wrap (((a.length + 1 + b.length + 1 : Nat) : Int) + (c.length : Int)) = ((a.length + 1 + b.length + 1 + c.length : Nat) : Int) := by rw [wrap64 (by omega) (by omega)]; omega
  simp only [w1, w2, w3, w4]
  refine Ev.g (by omega) (Ev.g (by omega) (Ev.bind (e89 _ b (by simp; omega)) (Ev.g (by simp [joinP_length]; omega) (Ev.bind (e89 _ c (by simp [joinP_length]; omega)) (Ev.mk _)))))

/-! ### the program of an expression -/
abbrev pushI (v : Val) : GInst := ⟨⟨#[112, 117, 115, 104]⟩, v, 0⟩
/-- What stands at the end. -/
def opI (o : ByteArray) (m : Int) (k : Nat) : GInst :=
  bif o.data.toList == [97, 116] then ⟨⟨#[97, 116]⟩, zeroV, m⟩ else bif o.data.toList == [116, 117, 112] then ⟨⟨#[116, 117, 112]⟩, zeroV, (k : Int)⟩ else ⟨o, zeroV, 0⟩
def genO (o : ByteArray) (v : Val) (m : Int) (k : Nat) (ps : List (List GInst)) : List GInst :=
  bif o.data.toList == [108, 105, 116] then [pushI v]
  else bif o.data.toList == [120] then [⟨⟨#[120]⟩, zeroV, 0⟩]
  else bif o.data.toList == [97, 110, 100] then chooseP (ps.getD 0 []) (ps.getD 1 []) [pushI (.mk 2 0 false ⟨#[]⟩ [])]
  else bif o.data.toList == [111, 114] then chooseP (ps.getD 0 []) [pushI (.mk 2 0 true ⟨#[]⟩ [])] (ps.getD 1 [])
  else bif o.data.toList == [105, 102] then chooseP (ps.getD 0 []) (ps.getD 1 []) (ps.getD 2 [])
  else ps.foldl joinP [] ++ [opI o m k]
mutual
def genE : Ex → List GInst
  | .mk o v m a => genO o v m a.length (genEs a)
def genEs : List Ex → List (List GInst)
  | [] => []
  | e :: r => genE e :: genEs r
end
theorem genEs_get : ∀ {l : List Ex} {j : Nat} {e : Ex}, l[j]? = some e → (genEs l).getD j [] = genE e
  | [], j, e, h => by simp at h
  | x :: r, 0, e, h => by simp at h; subst h; simp [genEs]
  | x :: r, j + 1, e, h => by
    simp only [List.getElem?_cons_succ] at h
    have := genEs_get h
    simpa [genEs] using this
def lenL : List (List GInst) → Nat
  | [] => 0
  | g :: r => g.length + lenL r
theorem foldl_length : ∀ (gs : List (List GInst)) (acc : List GInst), (gs.foldl joinP acc).length = acc.length + lenL gs
  | [], acc => by simp [lenL]
  | g :: r, acc => by
    simp only [List.foldl_cons, foldl_length r, joinP_length, lenL]
    omega
/-- An expression whose ops are known, with as many arguments as they have. -/
def ArN (o : List UInt8) (k : Nat) : Prop := arS o ≠ -2 ∧ (0 ≤ arS o → (k : Int) = arS o) ∧ (arS o < 0 → 1 ≤ k)
mutual
def WfE : Ex → Prop
  | .mk o v m a => ArN o.data.toList a.length ∧ WfEs a
def WfEs : List Ex → Prop
  | [] => True
  | e :: r => WfE e ∧ WfEs r
end
def Gens : List Ex → Prop
  | [] => True
  | e :: r => ((genE e).length ≤ 1000000 → Ev (fun n => s_f52 n e) (genE e)) ∧ Gens r
theorem Gens.get : ∀ {l : List Ex} {j : Nat} {e : Ex}, Gens l → l[j]? = some e → (genE e).length ≤ 1000000 → Ev (fun n => s_f52 n e) (genE e)
  | [], j, e, _, h => by simp at h
  | x :: r, 0, e, hg, h => by simp at h; subst h; exact hg.1
  | x :: r, j + 1, e, hg, h => by
    simp only [List.getElem?_cons_succ] at h
    exact Gens.get hg.2 h
theorem e52l (o : ByteArray) (v : Val) (m : Int) (a : List Ex) (ha : a.length ≤ 1000000) : ∀ (r : List Ex) (acc : List GInst) (j : Nat), a.drop j = r → Gens r → acc.length + lenL (genEs r) + 1 ≤ 1000000 → Ev (fun n => s_f52_l1 n (.mk o v m a) acc j) ((genEs r).foldl joinP acc ++ [opI o m a.length])
  | [], acc, j, h, hg, hl => by
    refine Ev.succ ?_
    simp only [s_f52_l1, Ex.op, Ex.a, Ex.n, genEs, List.foldl_nil, opI]
    simp only [genEs, lenL] at hl
    refine Ev.f (cj_f (drop_n h)) ?_
    cases o.data.toList == [97, 116] with
    | true => exact Ev.t rfl (Ev.g (by omega) (Ev.mk _))
    | false =>
      refine Ev.f rfl ?_
      cases o.data.toList == [116, 117, 112] with
      | true => exact Ev.t rfl (Ev.g (by omega) (Ev.mk _))
      | false => exact Ev.f rfl (Ev.g (by omega) (Ev.mk _))
  | x :: r, acc, j, h, hg, hl => by
    obtain ⟨h1, h2, h3⟩ := drop_c h
    simp only [genEs, lenL] at hl
    refine Ev.succ ?_
    simp only [s_f52_l1, Ex.a, genEs, List.foldl_cons]
    exact Ev.t (cj_t h1) (Ev.bindc h2 (Ev.bind (hg.1 (by omega)) (Ev.bind (e89 _ _ (by omega)) (e52l o v m a ha r _ (j + 1) h3 hg.2 (by rw [joinP_length]; omega)))))
theorem ArN.eq {o : List UInt8} {k : Nat} (h : ArN o k) {c : Nat} (hc : arS o = (c : Int)) : k = c := by have := h.2.1 (by omega); omega
theorem get_lt {α : Type} {l : List α} {j : Nat} (h : j < l.length) : ∃ e, l[j]? = some e := ⟨_, List.getElem?_eq_getElem h⟩
theorem e52a (o : ByteArray) (v : Val) (m : Int) (a : List Ex) (h : ArN o.data.toList a.length) (ha : a.length ≤ 1000000) (hg : Gens a) (hl : (genE (.mk o v m a)).length ≤ 1000000) : Ev (fun n => s_f52 n (.mk o v m a)) (genE (.mk o v m a)) := by
  refine Ev.succ ?_
  simp only [genE, genO] at hl ⊢
  simp only [s_f52, Ex.op, Ex.v, Ex.a, Ex.n]
  cases c1 : o.data.toList == [108, 105, 116] with
  | true => exact Ev.t rfl (Ev.mk _)
  | false =>
    rw [c1] at hl
    simp only [cond_false] at hl ⊢
    cases c2 : o.data.toList == [120] with
    | true => exact Ev.t rfl (Ev.mk _)
    | false =>
      rw [c2] at hl
      simp only [cond_false] at hl ⊢
      cases c3 : o.data.toList == [97, 110, 100] with
      | true =>
        rw [c3] at hl
        simp only [cond_true, chooseP_length, List.length_cons, List.length_nil] at hl ⊢
        have hk := h.eq (c := 2) (by rw [eq_of_beq c3]; rfl)
        obtain ⟨x, hx⟩ := get_lt (l := a) (j := 0) (by omega)
        obtain ⟨y, hy⟩ := get_lt (l := a) (j := 1) (by omega)
        rw [genEs_get hx, genEs_get hy] at hl ⊢
        exact Ev.bindc hx (Ev.bind (hg.get hx (by omega)) (Ev.bindc hy (Ev.bind (hg.get hy (by omega)) (Ev.bind (e87 _ _ _ (by simp; omega)) (Ev.mk _)))))
      | false =>
        rw [c3] at hl
        simp only [cond_false] at hl ⊢
        cases c4 : o.data.toList == [111, 114] with
        | true =>
          rw [c4] at hl
          simp only [cond_true, chooseP_length, List.length_cons, List.length_nil] at hl ⊢
          have hk := h.eq (c := 2) (by rw [eq_of_beq c4]; rfl)
          obtain ⟨x, hx⟩ := get_lt (l := a) (j := 0) (by omega)
          obtain ⟨y, hy⟩ := get_lt (l := a) (j := 1) (by omega)
          rw [genEs_get hx, genEs_get hy] at hl ⊢
          exact Ev.bindc hx (Ev.bind (hg.get hx (by omega)) (Ev.bindc hy (Ev.bind (hg.get hy (by omega)) (Ev.bind (e87 _ _ _ (by simp; omega)) (Ev.mk _)))))
        | false =>
          rw [c4] at hl
          simp only [cond_false] at hl ⊢
          cases c5 : o.data.toList == [105, 102] with
          | true =>
            rw [c5] at hl
            simp only [cond_true, chooseP_length] at hl ⊢
            have hk := h.eq (c := 3) (by rw [eq_of_beq c5]; rfl)
            obtain ⟨x, hx⟩ := get_lt (l := a) (j := 0) (by omega)
            obtain ⟨y, hy⟩ := get_lt (l := a) (j := 1) (by omega)
            obtain ⟨z, hz⟩ := get_lt (l := a) (j := 2) (by omega)
            rw [genEs_get hx, genEs_get hy, genEs_get hz] at hl ⊢
            exact Ev.bindc hx (Ev.bind (hg.get hx (by omega)) (Ev.bindc hy (Ev.bind (hg.get hy (by omega)) (Ev.bindc hz (Ev.bind (hg.get hz (by omega)) (Ev.bind (e87 _ _ _ (by omega)) (Ev.mk _)))))))
          | false =>
            rw [c5] at hl
            simp only [cond_false, List.length_append, foldl_length, List.length_cons, List.length_nil] at hl ⊢
            exact e52l o v m a ha a [] 0 rfl hg (by simp; omega)
theorem chooseP_pos (a b c : List GInst) : 1 ≤ (chooseP a b c).length := by rw [chooseP_length]; omega
theorem genE_pos : ∀ e : Ex, 1 ≤ (genE e).length
  | .mk o v m a => by
    simp only [genE, genO]
    cases o.data.toList == [108, 105, 116] <;> cases o.data.toList == [120] <;> cases o.data.toList == [97, 110, 100] <;> cases o.data.toList == [111, 114] <;> cases o.data.toList == [105, 102] <;> simp only [cond_true, cond_false, List.length_cons, List.length_nil, List.length_append] <;> first | omega | exact chooseP_pos _ _ _
theorem lenL_ge : ∀ l : List Ex, l.length ≤ lenL (genEs l)
  | [] => Nat.zero_le _
  | e :: r => by
    have := genE_pos e
    have := lenL_ge r
    simp only [List.length_cons, genEs, lenL]
    omega
theorem ArN.le {o : List UInt8} {k : Nat} (h : ArN o k) (hn : arS o ≠ -1) : k ≤ 3 := by
  have h1 : arS o ≤ 3 ∧ (0 ≤ arS o ∨ arS o = -1 ∨ arS o = -2) := by
    rcases arS_cases h.1 with e | e | e | e | e | e | e | e | e | e | e | e | e | e | e | e | e | e <;> (subst e; decide)
  rcases h1.2 with h2 | h2 | h2
  · have := h.2.1 h2; omega
  · exact absurd h2 hn
  · exact absurd h2 h.1
mutual
theorem e52 : ∀ e : Ex, WfE e → (genE e).length ≤ 1000000 → Ev (fun n => s_f52 n e) (genE e)
  | .mk o v m a, h, hl => by
    refine e52a o v m a h.1 ?_ (e52s a h.2) hl
    by_cases hn : arS o.data.toList = -1
    · have ht : o.data.toList = [116, 117, 112] := by
        rcases arS_cases h.1.1 with e | e | e | e | e | e | e | e | e | e | e | e | e | e | e | e | e | e <;> first | exact e | (rw [e] at hn; exact absurd hn (by decide))
      simp only [genE, genO, ht] at hl
      have := lenL_ge a
      simp [foldl_length] at hl
      omega
    · have := h.1.le hn
      omega
theorem e52s : ∀ l : List Ex, WfEs l → Gens l
  | [], _ => trivial
  | e :: r, h => ⟨e52 e h.1, e52s r h.2⟩
end
end Go.Proofs.Ytbcjcekoonebiaa.Tl

set_option linter.unusedVariables false
set_option linter.unusedSimpArgs false
namespace Go.Proofs.Ytbcjcekoonebiaa.Tl
open Go Go.RowKit
mutual
def BdT : Ty → Prop
  | .mk k l => l.length ≤ 1000 ∧ BdTs l
def BdTs : List Ty → Prop
  | [] => True
  | x :: r => BdT x ∧ BdTs r
end
mutual
theorem e112 : ∀ v : Ty, BdT v → Ev (fun n => s_f112 n v) v
  | .mk k t, h => by
    refine Ev.succ ?_
    simp only [s_f112]
    exact e112s t k t 0 [] rfl rfl h.1 h.2
theorem e112s : ∀ (r : List Ty) (k : Int) (t : List Ty) (j : Nat) (acc : List Ty), acc ++ r = t → acc.length = j → t.length ≤ 1000 → BdTs r → Ev (fun n => s_f112_l1 n (.mk k t) j acc) (.mk k t)
  | [], k, t, j, acc, h, hj, hl, hb => by
    refine Ev.succ ?_
    subst hj
    simp only [List.append_nil] at h
    subst h
    simp only [s_f112_l1, Ty.kind, Ty.of]
    exact Ev.f (cj_f (Nat.le_refl _)) (Ev.mk _)
  | x :: r, k, t, j, acc, h, hj, hl, hb => by
    refine Ev.succ ?_
    have hx : t[j]? = some x := by subst h hj; simp
    have hlt : j < t.length := (List.getElem?_eq_some_iff.1 hx).1
    simp only [s_f112_l1, Ty.of]
    exact Ev.t (cj_t hlt) (Ev.bindc hx (Ev.bind (e112 x hb.1) (Ev.g (by omega) (e112s r k t (j + 1) (acc ++ [x]) (by simp [h]) (by simp [hj]) hl hb.2))))
end
theorem GOp.eta (o : GOp) : GOp.mk o.f0 o.f1 o.f2 o.f3 o.f4 o.f5 o.f6 = o := by cases o; rfl
/-- An operator whose parts are few. -/
structure BdO (o : GOp) : Prop where
  ty : BdT o.f2
  key : BdE o.f4
  len : o.f3.length ≤ 1000
  es : BdEs o.f3
theorem e76l (o : GOp) (hl : o.f3.length ≤ 1000) : ∀ (r acc : List Ex) (j : Nat), acc ++ r = o.f3 → acc.length = j → BdEs r → Ev (fun n => s_f76_l1 n o o.f2 o.f4 j acc) o
  | [], acc, j, h, hj, hb => by
    refine Ev.succ ?_
    subst hj
    simp only [List.append_nil] at h
    subst h
    simp only [s_f76_l1]
    exact Ev.f (cj_f (Nat.le_refl _)) ((Ev.mk _).congr (GOp.eta o))
  | x :: r, acc, j, h, hj, hb => by
    refine Ev.succ ?_
    have hx : o.f3[j]? = some x := by rw [← h]; subst hj; simp
    have hlt : j < o.f3.length := (List.getElem?_eq_some_iff.1 hx).1
    simp only [s_f76_l1]
    exact Ev.t (cj_t hlt) (Ev.bindc hx (Ev.bind (e19 x hb.1) (Ev.g (by omega) (e76l o hl r (acc ++ [x]) (j + 1) (by simp [h]) (by simp [hj]) hb.2))))
theorem e76 (o : GOp) (h : BdO o) : Ev (fun n => s_f76 n o) o := by
  unfold s_f76
  exact Ev.bind (e112 _ h.ty) (Ev.bind (e19 _ h.key) (e76l o h.len o.f3 [] 0 rfl rfl h.es))

abbrev emI (k : Int) : GInst := ⟨⟨#[101, 109, 105, 116]⟩, zeroV, k⟩
abbrev rtI : GInst := ⟨⟨#[114, 101, 116]⟩, zeroV, 0⟩
abbrev xI : GInst := ⟨⟨#[120]⟩, zeroV, 0⟩
def genOp (o : GOp) : List GInst :=
  bif o.f0 == 2 || o.f0 == 5 then (genEs o.f3).getD 0 [] ++ [emI 1, rtI]
  else bif o.f0 == 3 then ((genEs o.f3).getD 0 [] ++ [jfI ((((genEs o.f3).getD 0 []).length + 3 : Nat) : Int), xI]) ++ [emI 1, rtI]
  else bif o.f0 == 4 then (genEs o.f3).foldl joinP [] ++ [emI (o.f3.length : Int), rtI]
  else [xI, emI 1, rtI]
theorem e75l (o : GOp) : ∀ (r : List Ex) (acc : List GInst) (j : Nat), o.f3.drop j = r → Gens r → acc.length + lenL (genEs r) + 2 ≤ 1000000 → Ev (fun n => s_f75_l1 n o acc j) ((genEs r).foldl joinP acc ++ [emI (o.f3.length : Int), rtI])
  | [], acc, j, h, hg, hl => by
    refine Ev.succ ?_
    simp only [genEs, lenL] at hl
    simp only [s_f75_l1, genEs, List.foldl_nil]
    exact Ev.f (cj_f (drop_n h)) (Ev.g (by omega) (Ev.mk _))
  | x :: r, acc, j, h, hg, hl => by
    obtain ⟨h1, h2, h3⟩ := drop_c h
    simp only [genEs, lenL] at hl
    refine Ev.succ ?_
    simp only [s_f75_l1, genEs, List.foldl_cons]
    exact Ev.t (cj_t h1) (Ev.bindc h2 (Ev.bind (hg.1 (by omega)) (Ev.bind (e89 _ _ (by omega)) (e75l o r _ (j + 1) h3 hg.2 (by rw [joinP_length]; omega)))))
theorem e75 (o : GOp) (hw : WfEs o.f3) (hn : o.f0 = 2 ∨ o.f0 = 5 ∨ o.f0 = 3 → 0 < o.f3.length) (hl : (genOp o).length ≤ 1000000) : Ev (fun n => s_f75 n o) (genOp o) := by
  have hg := e52s o.f3 hw
  unfold s_f75
  unfold genOp at hl ⊢
  cases c1 : o.f0 == 2 with
  | true =>
    obtain ⟨x, hx⟩ := get_lt (hn (.inl (eq_of_beq c1)))
    rw [c1, Bool.true_or, cond_true, genEs_get hx] at hl
    simp only [Bool.true_or, cond_true]
    rw [genEs_get hx]
    simp only [List.length_append, List.length_cons, List.length_nil] at hl
    exact Ev.bindc hx (Ev.bind (hg.get hx (by omega)) (Ev.g (by omega) (Ev.mk _)))
  | false =>
    simp only [c1, Bool.false_or] at hl ⊢
    refine Ev.f rfl ?_
    cases c2 : o.f0 == 5 with
    | true =>
      obtain ⟨x, hx⟩ := get_lt (hn (.inr (.inl (eq_of_beq c2))))
      rw [c2, cond_true, genEs_get hx] at hl
      simp only [cond_true]
      rw [genEs_get hx]
      simp only [List.length_append, List.length_cons, List.length_nil] at hl
      exact Ev.bindc hx (Ev.bind (hg.get hx (by omega)) (Ev.g (by omega) (Ev.mk _)))
    | false =>
      simp only [c2, cond_false] at hl ⊢
      cases c3 : o.f0 == 3 with
      | true =>
        obtain ⟨x, hx⟩ := get_lt (hn (.inr (.inr (eq_of_beq c3))))
        rw [c3, cond_true, genEs_get hx] at hl
        simp only [cond_true]
        rw [genEs_get hx]
        simp only [List.length_append, List.length_cons, List.length_nil] at hl
        have w : IntKind.i64.wrap (((genE x).length : Int) + 3) = (((genE x).length + 3 : Nat) : Int) := by rw [wrap64 (by omega) (by omega)]; omega
        refine Ev.bindc hx (Ev.bind (hg.get hx (by omega)) (Ev.g (by omega) (Ev.g (by simp; omega) ?_)))
        rw [w]
        exact Ev.mk _
      | false =>
        simp only [c3, cond_false] at hl ⊢
        cases c4 : o.f0 == 4 with
        | true =>
          rw [c4, cond_true] at hl
          simp only [List.length_append, foldl_length, List.length_cons, List.length_nil] at hl
          exact Ev.t rfl (e75l o o.f3 [] 0 rfl hg (by simp; omega))
        | false => exact Ev.f rfl (Ev.g (by decide) (Ev.mk _))
end Go.Proofs.Ytbcjcekoonebiaa.Tl

set_option linter.unusedVariables false
set_option linter.unusedSimpArgs false
namespace Go.Proofs.Ytbcjcekoonebiaa.Tl
open Go Go.RowKit
end Go.Proofs.Ytbcjcekoonebiaa.Tl

set_option linter.unusedVariables false
set_option linter.unusedSimpArgs false
namespace Go.Proofs.Ytbcjcekoonebiaa.Tl
open Go Go.RowKit
theorem cmpV_int (a b : Int) : cmpV (intV a) (intV b) = cmpI a b := by
  have h1 : cmpI 1 1 = 0 := rfl
  have h2 : cmpI (bI false) (bI false) = 0 := rfl
  have h3 : cmpB ⟨#[]⟩ ⟨#[]⟩ = 0 := rfl
  simp only [intV, cmpV, Val.kind, Val.i, Val.b, Val.s, Val.t, h1, h2, h3, orI, if_true, cmpVs]
  split <;> simp_all
theorem cmpI_lt (a b : Int) : decide (cmpI a b < 0) = decide (a < b) := by
  unfold cmpI
  by_cases h : a < b
  · simp [h]
  · simp only [h, if_false]
    split <;> simp
abbrev two (a b : Int) : Val := tupV [intV a, intV b]
end Go.Proofs.Ytbcjcekoonebiaa.Tl

set_option linter.unusedVariables false
set_option linter.unusedSimpArgs false
namespace Go.Proofs.Ytbcjcekoonebiaa.Tl
open Go Go.RowKit
/-! ### where a program stands -/
def At (p : List GInst) (j : Nat) (q : List GInst) : Prop := j + q.length ≤ p.length ∧ ∀ (k : Nat) (i : GInst), q[k]? = some i → p[j + k]? = some (mvI (j : Int) i)
theorem At.left {p : List GInst} {j : Nat} {a b : List GInst} (h : At p j (a ++ b)) : At p j a := by
  refine ⟨by have := h.1; simp at this; omega, fun k i hk => h.2 k i ?_⟩
  have hlt : k < a.length := (List.getElem?_eq_some_iff.1 hk).1
  rw [List.getElem?_append_left hlt]
  exact hk
def Ats (p : List GInst) : Nat → List (List GInst) → Prop
  | _, [] => True
  | j, g :: r => At p j g ∧ Ats p (j + g.length) r
/-! ### runs -/
abbrev RunsTo (p : List GInst) (x : Val) (j : Nat) (st out : List Val) (R : List Val × Int) : Prop := ∀ v, Ev (RunF p x j st out v) R
/-- From where it stands: a value on the stack, behind it; or an error. -/
def Goes (g : List GInst) (x w : Val) (h : Int) : Prop :=
  ∀ (p : List GInst) (j : Nat) (st out : List Val) (R : List Val × Int), At p j g → p.length ≤ 1000000 → out.length + st.length + g.length + 1 ≤ 1000000 →
    (h = 0 → RunsTo p x (j + g.length) (st ++ [w]) out R) → (h ≠ 0 → R = ([], h)) → RunsTo p x j st out R
def GoesL (gs : List (List GInst)) (x : Val) (ws : List Val) (h : Int) : Prop :=
  ∀ (p : List GInst) (j : Nat) (st out : List Val) (R : List Val × Int), Ats p j gs → p.length ≤ 1000000 → out.length + st.length + lenL gs + 1 ≤ 1000000 →
    (h = 0 → RunsTo p x (j + lenL gs) (st ++ ws) out R) → (h ≠ 0 → R = ([], h)) → RunsTo p x j st out R
theorem goes_nil (x : Val) : GoesL [] x [] 0 := fun p j st out R hA hp hs k1 k2 => by
  have := k1 rfl
  simpa [lenL] using this
theorem goes_cons {g : List GInst} {gs : List (List GInst)} {x w : Val} {ws : List Val} {h h' : Int} (hg : 1 ≤ g.length) (h1 : Goes g x w h) (h2 : h = 0 → GoesL gs x ws h') : GoesL (g :: gs) x (bif h == 0 then w :: ws else []) (bif h == 0 then h' else h) := by
  intro p j st out R hA hp hs k1 k2
  simp only [lenL] at hs k1
  refine h1 p j st out R hA.1 hp (by omega) (fun hz => ?_) (fun hne => ?_)
  · subst hz
    refine h2 rfl p (j + g.length) (st ++ [w]) out R hA.2 hp (by simp; omega) (fun hz2 => ?_) (fun hne => k2 hne)
    have := k1 hz2
    simp only [beq_self_eq_true, cond_true] at this
    rw [List.append_assoc]
    rw [Nat.add_assoc]
    exact this
  · rw [show (h == 0) = false from beq_false_of_ne hne] at k2
    exact k2 hne

/-! ### expressions that may be -/
def GRes (e : Ex) (x : Val) (t : Ty) : Prop := ∃ w h, evalS e x = some (w, h) ∧ (h = 0 → OKv w t) ∧ Goes (genE e) x w h
def GRess : List Ex → Val → List Ty → Prop
  | [], _, [] => True
  | e :: r, x, t :: ts => GRes e x t ∧ GRess r x ts
  | _, _, _ => False
theorem GRess.len : ∀ {l : List Ex} {x : Val} {ts : List Ty}, GRess l x ts → l.length = ts.length
  | [], _, [], _ => rfl
  | [], _, _ :: _, h => by simp [GRess] at h
  | _ :: _, _, [], h => by simp [GRess] at h
  | _ :: _, _, _ :: _, h => by simp only [List.length_cons, GRess.len h.2]
theorem GRess.go : ∀ {l : List Ex} {x : Val} {ts : List Ty}, GRess l x ts → ∃ ws g, allS l x = some (ws, g) ∧ (g = 0 → OKvs ws ts) ∧ GoesL (genEs l) x ws g
  | [], x, [], _ => ⟨[], 0, rfl, fun _ => trivial, goes_nil x⟩
  | [], _, _ :: _, h => by simp [GRess] at h
  | _ :: _, _, [], h => by simp [GRess] at h
  | e :: r, x, t :: ts, h => by
    obtain ⟨⟨w, f, q1, q2, q3⟩, hr⟩ := h
    obtain ⟨ws, g, r1, r2, r3⟩ := hr.go
    have hG := goes_cons (genE_pos e) q3 (fun _ => r3)
    by_cases hf : f = 0
    · subst hf
      by_cases hg : g = 0
      · subst hg
        exact ⟨w :: ws, 0, by simp [allS, q1, r1], fun _ => ⟨q2 rfl, r2 rfl⟩, hG⟩
      · refine ⟨[], g, by simp [allS, q1, r1, hg], fun q => absurd q hg, ?_⟩
        intro p j st out R hA hp hs k1 k2
        exact hG p j st out R hA hp hs (fun q => absurd q hg) k2
    · refine ⟨[], f, by simp [allS, q1, hf], fun q => absurd q hf, ?_⟩
      rw [show (f == 0) = false from beq_false_of_ne hf] at hG
      exact hG
end Go.Proofs.Ytbcjcekoonebiaa.Tl
