/- Definitions and walks: Run. Conditions: none. -/
import Derived.Test.YtbcjcekoonebiaaTlMc
set_option linter.unusedVariables false
set_option linter.unusedSimpArgs false
namespace Go.Proofs.Ytbcjcekoonebiaa.Tl
open Go Go.RowKit

abbrev c_st_GInst (x : GInst) : List AV := [.str x.f0, .int .i64 x.f1.kind, .int .i64 x.f1.i, .bool x.f1.b, .str x.f1.s, .sl .ro 5 (encs x.f1.t), .int .i64 x.f2]
def r_st_GInst (l : List GInst) : List (List AV) := rowF c_st_GInst l
theorem r_st_GInst_length (l : List GInst) : (r_st_GInst l).length = l.length := rowF_length _ l
theorem r_st_GInst_get {l : List GInst} {j : Nat} {x : GInst} (h : l[j]? = some x) : (r_st_GInst l)[j]? = some (c_st_GInst x) := rowF_get h
theorem r_st_GInst_append (l m : List GInst) : r_st_GInst (l ++ m) = r_st_GInst l ++ r_st_GInst m := rowF_append _ l m
theorem r_st_GInst_pure (S : Nat → Bool) (l : List GInst) : inR S (r_st_GInst l) = true := rowF_pure S (fun x => by simp [pureA, pureL, pureR, inA, inL, inR, inO, idsIn, encs_pure, enxs_pure, enys_pure, valC_pure, exC_pure, tyC_pure, c_st_GInst, r_int_u8_pure]) l

mutual
def s_f40_l1 : Nat → (List GInst) → Int → Nat → (List Val) → Int → Int → Bool → ByteArray → (List Val) → (List Val) → Option (List Val × Int)
  | 0, _, _, _, _, _, _, _, _, _, _ => none
  | n + 1, a0, v1_1, v1_2, v1_3, v1_4, v1_5, v1_6, v1_7, v1_8, v1_9 => (bif (decide (v1_1 < (a0.length : Int))) then (if 0 ≤ v1_1 then ((a0[v1_1.toNat]?).bind fun x16 => (bif (x16.f0.data.toList == [114, 101, 116]) then some (v1_9, 0) else (bif (x16.f0.data.toList == [106, 109, 112]) then (s_f40_l1 n a0 (IntKind.i64.wrap ((IntKind.i64.wrap (x16.f2 - 1)) + 1)) v1_2 v1_3 v1_4 v1_5 v1_6 v1_7 v1_8 v1_9) else (bif (x16.f0.data.toList == [106, 102]) then (if 0 ≤ (1 : Int) ∧ (1 : Int).toNat ≤ v1_3.length ∧ v1_3.length ≤ 1000000 then (((v1_3.drop (v1_3.length - (1 : Int).toNat))[0]?).bind fun x23 => (bif (!x23.b) then (s_f40_l1 n a0 (IntKind.i64.wrap ((IntKind.i64.wrap (x16.f2 - 1)) + 1)) (v1_2 + 1) (v1_3.take (v1_3.length - (1 : Int).toNat)) (((Val.mk v1_4 v1_5 v1_6 v1_7 v1_8)).kind) (((Val.mk v1_4 v1_5 v1_6 v1_7 v1_8)).i) (((Val.mk v1_4 v1_5 v1_6 v1_7 v1_8)).b) (((Val.mk v1_4 v1_5 v1_6 v1_7 v1_8)).s) (((Val.mk v1_4 v1_5 v1_6 v1_7 v1_8)).t) v1_9) else (s_f40_l1 n a0 (IntKind.i64.wrap (v1_1 + 1)) (v1_2 + 1) (v1_3.take (v1_3.length - (1 : Int).toNat)) (((Val.mk v1_4 v1_5 v1_6 v1_7 v1_8)).kind) (((Val.mk v1_4 v1_5 v1_6 v1_7 v1_8)).i) (((Val.mk v1_4 v1_5 v1_6 v1_7 v1_8)).b) (((Val.mk v1_4 v1_5 v1_6 v1_7 v1_8)).s) (((Val.mk v1_4 v1_5 v1_6 v1_7 v1_8)).t) v1_9))) else none) else ((s_f73 n (Mach.mk (Val.mk v1_4 v1_5 v1_6 v1_7 v1_8) (Ar.mk v1_2 v1_3) v1_9) x16).bind fun q26 => (bif (q26.2 != 0) then some ([], q26.2) else (s_f40_l1 n a0 (IntKind.i64.wrap (v1_1 + 1)) q26.1.f1.v q26.1.f1.l q26.1.f0.kind q26.1.f0.i q26.1.f0.b q26.1.f0.s q26.1.f0.t q26.1.f2))))))) else none) else some (v1_9, 0))
end
def s_f40 (n : Nat) (a0 : List GInst) (a1 : Val) : Option (List Val × Int) :=
  (s_f40_l1 n a0 0 0 [] a1.kind a1.i a1.b a1.s a1.t [])

theorem w_f40 (n : Nat) (a0 : List GInst) (a1 : Val) (r : List Val × Int) (hr : s_f40 n a0 a1 = some r) : ACall Try.prog 40 [.sl .ro 7 (r_st_GInst a0), .agg (valC a1)] (.tup [.sl .ro 5 (encs r.1), .int .i64 r.2]) := by
  refine ACall.go [(0, .sl .ro 7 (r_st_GInst a0)), (1, .agg (valC a1))] Try.func40 rfl Try.ntmps40 rfl rfl (by simp [pureA, pureL, pureR, inA, inL, inR, inO, idsIn, encs_pure, enxs_pure, enys_pure, valC_pure, exC_pure, tyC_pure, r_int_u8_pure, r_st_GInst_pure]) ?_
  rw [s_f40] at hr
  refine AW.seq ?_
  refine AW.region (M := fun _ => true) ?_
  refine AL.bx good (d := 3) (l := [.int .i64 a1.kind, .int .i64 a1.i, .bool a1.b, .str a1.s, .sl .ro 5 (encs a1.t)]) rfl rfl rfl rfl rfl rfl 0 rfl ?_
  refine AL.v good (d := 4) (v := .sl .nil 0 []) rfl rfl rfl rfl ?_
  refine AL.v good (d := 5) (v := .int .i64 0) rfl rfl rfl rfl ?_
  refine AW.seq ?_
  refine AW.region (M := fun _ => true) ?_
  refine AL.v good (d := 10) (v := .agg [.int .i64 a1.kind, .int .i64 a1.i, .bool a1.b, .str a1.s, .sl .ro 5 (encs a1.t)]) rfl rfl rfl rfl ?_
  refine AL.bld good (d := 11) (l := [.int .i64 a1.kind, .int .i64 a1.i, .bool a1.b, .str a1.s, .sl .ro 5 (encs a1.t), .sl .nil 0 [], .sl .nil 0 []]) rfl rfl rfl rfl rfl rfl rfl ?_
  refine AL.bx good (d := 12) (l := [.int .i64 a1.kind, .int .i64 a1.i, .bool a1.b, .str a1.s, .sl .ro 5 (encs a1.t), .sl .nil 0 [], .sl .nil 0 []]) rfl rfl rfl rfl rfl rfl 1 rfl ?_
  refine AL.v good (d := 6) (v := .ptr 1 0) rfl rfl rfl rfl ?_
  refine AW.adoptM 1 rfl 5 rfl 2 5 24 rfl rfl ?_
  refine AW.adoptB 1 rfl 6 rfl 3 5 24 rfl rfl ?_
  refine AW.seq ?_
  refine AW.seq ?_
  refine AW.region (M := fun _ => true) ?_
  refine AL.v good (d := 7) (v := .int .i64 0) rfl rfl rfl rfl ?_
  refine AW.block ?_
  refine AW.lpw (fun x : Nat × Int × Nat × (List Val) × Int × Int × Bool × ByteArray × (List Val) × (List Val) => [(0, .sl .ro 7 (r_st_GInst a0)), (6, .ptr 1 0), (7, .int .i64 x.2.1)]) (fun x => [(1, .box 144 [.int .i64 x.2.2.2.2.1, .int .i64 x.2.2.2.2.2.1, .bool x.2.2.2.2.2.2.1, .str x.2.2.2.2.2.2.2.1, .sl .ro 5 (encs x.2.2.2.2.2.2.2.2.1), .mv 2 x.2.2.1 .hdr, .sl (.own 3) 5 (encs x.2.2.2.2.2.2.2.2.2)]), (2, .arr 24 5 x.2.2.1 (encs x.2.2.2.1)), (3, .row 24 5 (encs x.2.2.2.2.2.2.2.2.2).length)]) (fun x => s_f40_l1 x.1 a0 x.2.1 x.2.2.1 x.2.2.2.1 x.2.2.2.2.1 x.2.2.2.2.2.1 x.2.2.2.2.2.2.1 x.2.2.2.2.2.2.2.1 x.2.2.2.2.2.2.2.2.1 x.2.2.2.2.2.2.2.2.2 = some r ∧ x.1 ≤ n) (fun x => x.1) (n, 0, 0, [], a1.kind, a1.i, a1.b, a1.s, a1.t, []) ⟨(fun _ h => by cases h), List.forall_mem_cons.2 ⟨⟨⟨_, rfl, Wv.refl _⟩, (by simp [pureA, pureL, pureR, inA, inL, inR, inO, idsIn, encs_pure, enxs_pure, enys_pure, valC_pure, exC_pure, tyC_pure, r_int_u8_pure, r_st_GInst_pure])⟩, List.forall_mem_cons.2 ⟨⟨⟨_, rfl, Wv.refl _⟩, (by simp [pureA, pureL, pureR, inA, inL, inR, inO, idsIn, encs_pure, enxs_pure, enys_pure, valC_pure, exC_pure, tyC_pure, r_int_u8_pure, r_st_GInst_pure])⟩, List.forall_mem_cons.2 ⟨⟨⟨_, rfl, Wv.refl _⟩, (by simp [pureA, pureL, pureR, inA, inL, inR, inO, idsIn, encs_pure, enxs_pure, enys_pure, valC_pure, exC_pure, tyC_pure, r_int_u8_pure, r_st_GInst_pure])⟩, (fun _ h => by cases h)⟩⟩⟩, List.forall_mem_cons.2 ⟨⟨⟨_, rfl, ⟨rfl, ⟨Wv.refl _, Wv.refl _, Wv.refl _, Wv.refl _, Wv.refl _, Wv.refl _, Wv.refl _, trivial⟩⟩⟩, (by simp [pureA, pureL, pureR, inA, inL, inR, inO, idsIn, encs_pure, enxs_pure, enys_pure, valC_pure, exC_pure, tyC_pure, r_int_u8_pure, r_st_GInst_pure])⟩, List.forall_mem_cons.2 ⟨⟨⟨_, rfl, ⟨rfl, rfl, rfl, WvR.refl _⟩⟩, (by simp [pureA, pureL, pureR, inA, inL, inR, inO, idsIn, encs_pure, enxs_pure, enys_pure, valC_pure, exC_pure, tyC_pure, r_int_u8_pure, r_st_GInst_pure])⟩, List.forall_mem_cons.2 ⟨⟨⟨_, rfl, ⟨rfl, rfl, rfl⟩⟩, (by simp [pureA, pureL, pureR, inA, inL, inR, inO, idsIn, encs_pure, enxs_pure, enys_pure, valC_pure, exC_pure, tyC_pure, r_int_u8_pure, r_st_GInst_pure])⟩, (fun _ h => by cases h)⟩⟩⟩⟩ ⟨hr, Nat.le_refl _⟩ (fun ⟨m, v1_1, v1_2, v1_3, v1_4, v1_5, v1_6, v1_7, v1_8, v1_9⟩ hx => ?_)
  obtain ⟨hr, hm⟩ := hx
  try dsimp only at hr hm
  cases m with
  | zero => rw [s_f40_l1] at hr; cases hr
  | succ m =>
    rw [s_f40_l1] at hr
    show AW Try.prog _ _ _ (mkS 65 [(0, .sl .ro 7 (r_st_GInst a0)), (6, .ptr 1 0), (7, .int .i64 v1_1)] [(1, .box 144 [.int .i64 v1_4, .int .i64 v1_5, .bool v1_6, .str v1_7, .sl .ro 5 (encs v1_8), .mv 2 v1_2 .hdr, .sl (.own 3) 5 (encs v1_9)]), (2, .arr 24 5 v1_2 (encs v1_3)), (3, .row 24 5 (encs v1_9).length)])
    refine AW.seq ?_
    refine AW.seq ?_
    refine AW.region (M := fun _ => true) ?_
    refine AL.v good (d := 13) (v := .int .i64 v1_1) rfl rfl rfl rfl ?_
    refine AL.v good (d := 14) (v := .sl .ro 7 (r_st_GInst a0)) rfl rfl rfl rfl ?_
    refine AL.ln good (d := 15) (m := a0.length) rfl rfl rfl rfl rfl rfl (r_st_GInst_length _) ?_
    refine AL.v good (d := 16) (v := .bool (decide (v1_1 < (a0.length : Int)))) rfl rfl rfl rfl ?_
    refine AW.if rfl (fun h15 => ?_) (fun h15 => ?_)
    · replace hr := cnd_t h15 hr
      refine AW.skip ?_
      refine AW.seq ?_
      refine AW.block ?_
      refine AW.seq ?_
      refine AW.region (M := fun _ => true) ?_
      refine AL.v good (d := 19) (v := .sl .ro 7 (r_st_GInst a0)) rfl rfl rfl rfl ?_
      refine AL.v good (d := 20) (v := .int .i64 v1_1) rfl rfl rfl rfl ?_
      obtain ⟨h18, hr⟩ := grd hr
      obtain ⟨x16, h17, hr⟩ := bnd1 hr
      refine AL.ix good (d := 21) (r := [.str x16.f0, .int .i64 x16.f1.kind, .int .i64 x16.f1.i, .bool x16.f1.b, .str x16.f1.s, .sl .ro 5 (encs x16.f1.t), .int .i64 x16.f2]) rfl rfl rfl rfl rfl rfl rfl h18 (r_st_GInst_get h17) ?_
      refine AL.v good (d := 22) (v := .agg [.str x16.f0, .int .i64 x16.f1.kind, .int .i64 x16.f1.i, .bool x16.f1.b, .str x16.f1.s, .sl .ro 5 (encs x16.f1.t), .int .i64 x16.f2]) rfl rfl rfl rfl ?_
      refine AL.alc good (d := 8) rfl rfl rfl rfl rfl 4 rfl ?_
      refine AL.st2 good (c2 := [.str x16.f0, .int .i64 x16.f1.kind, .int .i64 x16.f1.i, .bool x16.f1.b, .str x16.f1.s, .sl .ro 5 (encs x16.f1.t), .int .i64 x16.f2]) rfl rfl rfl rfl rfl rfl rfl rfl rfl rfl rfl rfl ?_
      refine AW.block ?_
      refine AW.seq ?_
      refine AW.region (M := fun _ => true) ?_
      refine AL.v good (d := 30) (v := .ptr 4 0) rfl rfl rfl rfl ?_
      refine AL.v good (d := 31) (v := .str x16.f0) rfl rfl rfl rfl ?_
      refine AL.sb good (d := 32) (b := (x16.f0.data.toList == [114, 101, 116])) rfl rfl rfl rfl rfl rfl rfl ?_
      refine AL.v good (d := 29) (v := .bool (x16.f0.data.toList == [114, 101, 116])) rfl rfl rfl rfl ?_
      refine AW.if rfl (fun h19 => ?_) (fun h19 => ?_)
      · replace hr := cnd_t h19 hr
        refine AW.seq ?_
        refine AW.region (M := fun _ => true) ?_
        refine AL.v good (d := 33) (v := .ptr 1 0) rfl rfl rfl rfl ?_
        refine AL.v good (d := 34) (v := .ptr 1 0) rfl rfl rfl rfl ?_
        refine AL.v good (d := 35) (v := .ptr 1 6) rfl rfl rfl rfl ?_
        refine AL.v good (d := 36) (v := .sl (.own 3) 5 (encs v1_9)) rfl rfl rfl rfl ?_
        refine AL.v good (d := 4) (v := .sl (.own 3) 5 (encs v1_9)) rfl rfl rfl rfl ?_
        refine AL.v good (d := 5) (v := .int .i64 0) rfl rfl rfl rfl ?_
        refine AW.ret ?_
        obtain rfl := Option.some.inj hr
        exact RetQ.w good (.inr rfl) rfl rfl ⟨⟨.inr rfl, WvR.refl _, .inl rfl⟩, Wv.refl _, trivial⟩ (by simp [pureA, pureL, pureR, inA, inL, inR, inO, idsIn, encs_pure, enxs_pure, enys_pure, valC_pure, exC_pure, tyC_pure, r_int_u8_pure, r_st_GInst_pure])
      · replace hr := cnd_f h19 hr
        refine AW.seq ?_
        refine AW.seq ?_
        refine AW.region (M := fun _ => true) ?_
        refine AL.v good (d := 38) (v := .ptr 4 0) rfl rfl rfl rfl ?_
        refine AL.v good (d := 39) (v := .str x16.f0) rfl rfl rfl rfl ?_
        refine AL.sb good (d := 40) (b := (x16.f0.data.toList == [106, 109, 112])) rfl rfl rfl rfl rfl rfl rfl ?_
        refine AL.v good (d := 37) (v := .bool (x16.f0.data.toList == [106, 109, 112])) rfl rfl rfl rfl ?_
        refine AW.if rfl (fun h20 => ?_) (fun h20 => ?_)
        · replace hr := cnd_t h20 hr
          refine AW.skip ?_
          refine AW.if rfl (fun h => ?_) (fun h => by cases h20.symm.trans h)
          refine AW.region (M := fun _ => true) ?_
          refine AL.v good (d := 54) (v := .ptr 4 6) rfl rfl rfl rfl ?_
          refine AL.v good (d := 55) (v := .int .i64 x16.f2) rfl rfl rfl rfl ?_
          refine AL.v good (d := 56) (v := .int .i64 (IntKind.i64.wrap (x16.f2 - 1))) rfl rfl rfl rfl ?_
          refine AL.v good (d := 7) (v := .int .i64 (IntKind.i64.wrap (x16.f2 - 1))) rfl rfl rfl rfl ?_
          refine AW.region (M := fun _ => true) ?_
          refine AL.v good (d := 17) (v := .int .i64 (IntKind.i64.wrap (x16.f2 - 1))) rfl rfl rfl rfl ?_
          refine AL.v good (d := 18) (v := .int .i64 (IntKind.i64.wrap ((IntKind.i64.wrap (x16.f2 - 1)) + 1))) rfl rfl rfl rfl ?_
          refine AL.v good (d := 7) (v := .int .i64 (IntKind.i64.wrap ((IntKind.i64.wrap (x16.f2 - 1)) + 1))) rfl rfl rfl rfl ?_
          exact ⟨(m, (IntKind.i64.wrap ((IntKind.i64.wrap (x16.f2 - 1)) + 1)), v1_2, v1_3, v1_4, v1_5, v1_6, v1_7, v1_8, v1_9), _, _, rfl, ⟨(fun _ h => by cases h), List.forall_mem_cons.2 ⟨⟨⟨_, rfl, Wv.refl _⟩, (by simp [pureA, pureL, pureR, inA, inL, inR, inO, idsIn, encs_pure, enxs_pure, enys_pure, valC_pure, exC_pure, tyC_pure, r_int_u8_pure, r_st_GInst_pure])⟩, List.forall_mem_cons.2 ⟨⟨⟨_, rfl, Wv.refl _⟩, (by simp [pureA, pureL, pureR, inA, inL, inR, inO, idsIn, encs_pure, enxs_pure, enys_pure, valC_pure, exC_pure, tyC_pure, r_int_u8_pure, r_st_GInst_pure])⟩, List.forall_mem_cons.2 ⟨⟨⟨_, rfl, Wv.refl _⟩, (by simp [pureA, pureL, pureR, inA, inL, inR, inO, idsIn, encs_pure, enxs_pure, enys_pure, valC_pure, exC_pure, tyC_pure, r_int_u8_pure, r_st_GInst_pure])⟩, (fun _ h => by cases h)⟩⟩⟩, List.forall_mem_cons.2 ⟨⟨⟨_, rfl, ⟨rfl, ⟨Wv.refl _, Wv.refl _, Wv.refl _, Wv.refl _, Wv.refl _, Wv.refl _, Wv.refl _, trivial⟩⟩⟩, (by simp [pureA, pureL, pureR, inA, inL, inR, inO, idsIn, encs_pure, enxs_pure, enys_pure, valC_pure, exC_pure, tyC_pure, r_int_u8_pure, r_st_GInst_pure])⟩, List.forall_mem_cons.2 ⟨⟨⟨_, rfl, ⟨rfl, rfl, rfl, WvR.refl _⟩⟩, (by simp [pureA, pureL, pureR, inA, inL, inR, inO, idsIn, encs_pure, enxs_pure, enys_pure, valC_pure, exC_pure, tyC_pure, r_int_u8_pure, r_st_GInst_pure])⟩, List.forall_mem_cons.2 ⟨⟨⟨_, rfl, ⟨rfl, rfl, rfl⟩⟩, (by simp [pureA, pureL, pureR, inA, inL, inR, inO, idsIn, encs_pure, enxs_pure, enys_pure, valC_pure, exC_pure, tyC_pure, r_int_u8_pure, r_st_GInst_pure])⟩, (fun _ h => by cases h)⟩⟩⟩⟩, ⟨hr, Nat.le_of_succ_le hm⟩, Nat.lt_succ_self _⟩
        · replace hr := cnd_f h20 hr
          refine AW.region (M := fun _ => true) ?_
          refine AL.v good (d := 41) (v := .ptr 4 0) rfl rfl rfl rfl ?_
          refine AL.v good (d := 42) (v := .str x16.f0) rfl rfl rfl rfl ?_
          refine AL.sb good (d := 43) (b := (x16.f0.data.toList == [106, 102])) rfl rfl rfl rfl rfl rfl rfl ?_
          refine AL.v good (d := 44) (v := .bool (x16.f0.data.toList == [106, 102])) rfl rfl rfl rfl ?_
          refine AL.cs 44 rfl (fun h21 => ?_) (fun h21 => ?_)
          · replace hr := cnd_t h21 hr
            refine AL.v good (d := 45) (v := .ptr 1 0) rfl rfl rfl rfl ?_
            refine AL.v good (d := 46) (v := .ptr 1 0) rfl rfl rfl rfl ?_
            refine AL.v good (d := 47) (v := .ptr 1 5) rfl rfl rfl rfl ?_
            obtain ⟨h22, hr⟩ := grd hr
            refine AL.clW good (d := 48) (xs := [.ptr 1 5, .int .i64 1]) (rd := [(1, .box 144 [.int .i64 ((((Mach.mk (Val.mk v1_4 v1_5 v1_6 v1_7 v1_8) (Ar.mk v1_2 v1_3) v1_9)).f0).kind), .int .i64 ((((Mach.mk (Val.mk v1_4 v1_5 v1_6 v1_7 v1_8) (Ar.mk v1_2 v1_3) v1_9)).f0).i), .bool ((((Mach.mk (Val.mk v1_4 v1_5 v1_6 v1_7 v1_8) (Ar.mk v1_2 v1_3) v1_9)).f0).b), .str ((((Mach.mk (Val.mk v1_4 v1_5 v1_6 v1_7 v1_8) (Ar.mk v1_2 v1_3) v1_9)).f0).s), .sl .ro 5 (encs ((((Mach.mk (Val.mk v1_4 v1_5 v1_6 v1_7 v1_8) (Ar.mk v1_2 v1_3) v1_9)).f0).t)), .mv 2 ((((Mach.mk (Val.mk v1_4 v1_5 v1_6 v1_7 v1_8) (Ar.mk v1_2 v1_3) v1_9)).f1).v) .hdr, .sl (.own 3) 5 (encs (((Mach.mk (Val.mk v1_4 v1_5 v1_6 v1_7 v1_8) (Ar.mk v1_2 v1_3) v1_9)).f2))]), (2, .arr 24 5 ((((Mach.mk (Val.mk v1_4 v1_5 v1_6 v1_7 v1_8) (Ar.mk v1_2 v1_3) v1_9)).f1).v) (encs ((((Mach.mk (Val.mk v1_4 v1_5 v1_6 v1_7 v1_8) (Ar.mk v1_2 v1_3) v1_9)).f1).l))), (3, .row 24 5 (encs (((Mach.mk (Val.mk v1_4 v1_5 v1_6 v1_7 v1_8) (Ar.mk v1_2 v1_3) v1_9)).f2)).length)]) (up := [(1, .box 144 [.int .i64 (((Val.mk v1_4 v1_5 v1_6 v1_7 v1_8)).kind), .int .i64 (((Val.mk v1_4 v1_5 v1_6 v1_7 v1_8)).i), .bool (((Val.mk v1_4 v1_5 v1_6 v1_7 v1_8)).b), .str (((Val.mk v1_4 v1_5 v1_6 v1_7 v1_8)).s), .sl .ro 5 (encs (((Val.mk v1_4 v1_5 v1_6 v1_7 v1_8)).t)), .mv 2 (v1_2 + 1) .hdr, .sl (.own 3) 5 (encs v1_9)]), (2, .arr 24 5 (v1_2 + 1) (encs (v1_3.take (v1_3.length - (1 : Int).toNat)))), (3, .row 24 5 (encs v1_9).length)]) (res := .sl .ro 5 (encs (v1_3.drop (v1_3.length - (1 : Int).toNat)))) rfl rfl rfl rfl rfl rfl rfl (o_f72_1_2_3 (Mach.mk (Val.mk v1_4 v1_5 v1_6 v1_7 v1_8) (Ar.mk v1_2 v1_3) v1_9) 1 h22) ⟨(Wv.refl _), (Wv.refl _), trivial⟩ (List.forall_mem_cons.2 ⟨rfl, (List.forall_mem_cons.2 ⟨rfl, (List.forall_mem_cons.2 ⟨rfl, (fun _ h => by cases h)⟩)⟩)⟩) (List.forall_mem_cons.2 ⟨⟨_, .head _⟩, (List.forall_mem_cons.2 ⟨⟨_, .tail _ (.head _)⟩, (List.forall_mem_cons.2 ⟨⟨_, .tail _ (.tail _ (.head _))⟩, (fun _ h => by cases h)⟩)⟩)⟩) rfl rfl ?_
            obtain ⟨x23, h24, hr⟩ := bnd1 hr
            refine AL.ix good (d := 49) (r := [.int .i64 x23.kind, .int .i64 x23.i, .bool x23.b, .str x23.s, .sl .ro 5 (encs x23.t)]) rfl rfl rfl rfl rfl rfl rfl (by decide) (encs_get h24) ?_
            refine AL.v good (d := 50) (v := .ep [.bool x23.b, .str x23.s, .sl .ro 5 (encs x23.t)]) rfl rfl rfl rfl ?_
            refine AL.v good (d := 51) (v := .bool x23.b) rfl rfl rfl rfl ?_
            refine AL.v good (d := 52) (v := .bool (!x23.b)) rfl rfl rfl rfl ?_
            refine AL.v good (d := 53) (v := .bool (!x23.b)) rfl rfl rfl rfl ?_
            refine AL.v good (d := 37) (v := .bool (!x23.b)) rfl rfl rfl rfl ?_
            refine AW.if rfl (fun h25 => ?_) (fun h25 => ?_)
            · replace hr := cnd_t h25 hr
              refine AW.region (M := fun _ => true) ?_
              refine AL.v good (d := 54) (v := .ptr 4 6) rfl rfl rfl rfl ?_
              refine AL.v good (d := 55) (v := .int .i64 x16.f2) rfl rfl rfl rfl ?_
              refine AL.v good (d := 56) (v := .int .i64 (IntKind.i64.wrap (x16.f2 - 1))) rfl rfl rfl rfl ?_
              refine AL.v good (d := 7) (v := .int .i64 (IntKind.i64.wrap (x16.f2 - 1))) rfl rfl rfl rfl ?_
              refine AW.region (M := fun _ => true) ?_
              refine AL.v good (d := 17) (v := .int .i64 (IntKind.i64.wrap (x16.f2 - 1))) rfl rfl rfl rfl ?_
              refine AL.v good (d := 18) (v := .int .i64 (IntKind.i64.wrap ((IntKind.i64.wrap (x16.f2 - 1)) + 1))) rfl rfl rfl rfl ?_
              refine AL.v good (d := 7) (v := .int .i64 (IntKind.i64.wrap ((IntKind.i64.wrap (x16.f2 - 1)) + 1))) rfl rfl rfl rfl ?_
              exact ⟨(m, (IntKind.i64.wrap ((IntKind.i64.wrap (x16.f2 - 1)) + 1)), (v1_2 + 1), (v1_3.take (v1_3.length - (1 : Int).toNat)), ((Val.mk v1_4 v1_5 v1_6 v1_7 v1_8)).kind, ((Val.mk v1_4 v1_5 v1_6 v1_7 v1_8)).i, ((Val.mk v1_4 v1_5 v1_6 v1_7 v1_8)).b, ((Val.mk v1_4 v1_5 v1_6 v1_7 v1_8)).s, ((Val.mk v1_4 v1_5 v1_6 v1_7 v1_8)).t, v1_9), _, _, rfl, ⟨(fun _ h => by cases h), List.forall_mem_cons.2 ⟨⟨⟨_, rfl, Wv.refl _⟩, (by simp [pureA, pureL, pureR, inA, inL, inR, inO, idsIn, encs_pure, enxs_pure, enys_pure, valC_pure, exC_pure, tyC_pure, r_int_u8_pure, r_st_GInst_pure])⟩, List.forall_mem_cons.2 ⟨⟨⟨_, rfl, Wv.refl _⟩, (by simp [pureA, pureL, pureR, inA, inL, inR, inO, idsIn, encs_pure, enxs_pure, enys_pure, valC_pure, exC_pure, tyC_pure, r_int_u8_pure, r_st_GInst_pure])⟩, List.forall_mem_cons.2 ⟨⟨⟨_, rfl, Wv.refl _⟩, (by simp [pureA, pureL, pureR, inA, inL, inR, inO, idsIn, encs_pure, enxs_pure, enys_pure, valC_pure, exC_pure, tyC_pure, r_int_u8_pure, r_st_GInst_pure])⟩, (fun _ h => by cases h)⟩⟩⟩, List.forall_mem_cons.2 ⟨⟨⟨_, rfl, ⟨rfl, ⟨Wv.refl _, Wv.refl _, Wv.refl _, Wv.refl _, Wv.refl _, Wv.refl _, Wv.refl _, trivial⟩⟩⟩, (by simp [pureA, pureL, pureR, inA, inL, inR, inO, idsIn, encs_pure, enxs_pure, enys_pure, valC_pure, exC_pure, tyC_pure, r_int_u8_pure, r_st_GInst_pure])⟩, List.forall_mem_cons.2 ⟨⟨⟨_, rfl, ⟨rfl, rfl, rfl, WvR.refl _⟩⟩, (by simp [pureA, pureL, pureR, inA, inL, inR, inO, idsIn, encs_pure, enxs_pure, enys_pure, valC_pure, exC_pure, tyC_pure, r_int_u8_pure, r_st_GInst_pure])⟩, List.forall_mem_cons.2 ⟨⟨⟨_, rfl, ⟨rfl, rfl, rfl⟩⟩, (by simp [pureA, pureL, pureR, inA, inL, inR, inO, idsIn, encs_pure, enxs_pure, enys_pure, valC_pure, exC_pure, tyC_pure, r_int_u8_pure, r_st_GInst_pure])⟩, (fun _ h => by cases h)⟩⟩⟩⟩, ⟨hr, Nat.le_of_succ_le hm⟩, Nat.lt_succ_self _⟩
            · replace hr := cnd_f h25 hr
              refine AW.seq ?_
              refine AW.region (M := fun _ => true) ?_
              refine AL.v good (d := 58) (v := .ptr 4 0) rfl rfl rfl rfl ?_
              refine AL.v good (d := 59) (v := .str x16.f0) rfl rfl rfl rfl ?_
              refine AL.sb good (d := 60) (b := (x16.f0.data.toList == [106, 102])) rfl rfl rfl rfl rfl rfl rfl ?_
              refine AL.v good (d := 57) (v := .bool (x16.f0.data.toList == [106, 102])) rfl rfl rfl rfl ?_
              refine AW.if rfl (fun h => ?_) (fun h => by cases h21.symm.trans h)
              refine AW.skip ?_
              refine AW.region (M := fun _ => true) ?_
              refine AL.v good (d := 17) (v := .int .i64 v1_1) rfl rfl rfl rfl ?_
              refine AL.v good (d := 18) (v := .int .i64 (IntKind.i64.wrap (v1_1 + 1))) rfl rfl rfl rfl ?_
              refine AL.v good (d := 7) (v := .int .i64 (IntKind.i64.wrap (v1_1 + 1))) rfl rfl rfl rfl ?_
              exact ⟨(m, (IntKind.i64.wrap (v1_1 + 1)), (v1_2 + 1), (v1_3.take (v1_3.length - (1 : Int).toNat)), ((Val.mk v1_4 v1_5 v1_6 v1_7 v1_8)).kind, ((Val.mk v1_4 v1_5 v1_6 v1_7 v1_8)).i, ((Val.mk v1_4 v1_5 v1_6 v1_7 v1_8)).b, ((Val.mk v1_4 v1_5 v1_6 v1_7 v1_8)).s, ((Val.mk v1_4 v1_5 v1_6 v1_7 v1_8)).t, v1_9), _, _, rfl, ⟨(fun _ h => by cases h), List.forall_mem_cons.2 ⟨⟨⟨_, rfl, Wv.refl _⟩, (by simp [pureA, pureL, pureR, inA, inL, inR, inO, idsIn, encs_pure, enxs_pure, enys_pure, valC_pure, exC_pure, tyC_pure, r_int_u8_pure, r_st_GInst_pure])⟩, List.forall_mem_cons.2 ⟨⟨⟨_, rfl, Wv.refl _⟩, (by simp [pureA, pureL, pureR, inA, inL, inR, inO, idsIn, encs_pure, enxs_pure, enys_pure, valC_pure, exC_pure, tyC_pure, r_int_u8_pure, r_st_GInst_pure])⟩, List.forall_mem_cons.2 ⟨⟨⟨_, rfl, Wv.refl _⟩, (by simp [pureA, pureL, pureR, inA, inL, inR, inO, idsIn, encs_pure, enxs_pure, enys_pure, valC_pure, exC_pure, tyC_pure, r_int_u8_pure, r_st_GInst_pure])⟩, (fun _ h => by cases h)⟩⟩⟩, List.forall_mem_cons.2 ⟨⟨⟨_, rfl, ⟨rfl, ⟨Wv.refl _, Wv.refl _, Wv.refl _, Wv.refl _, Wv.refl _, Wv.refl _, Wv.refl _, trivial⟩⟩⟩, (by simp [pureA, pureL, pureR, inA, inL, inR, inO, idsIn, encs_pure, enxs_pure, enys_pure, valC_pure, exC_pure, tyC_pure, r_int_u8_pure, r_st_GInst_pure])⟩, List.forall_mem_cons.2 ⟨⟨⟨_, rfl, ⟨rfl, rfl, rfl, WvR.refl _⟩⟩, (by simp [pureA, pureL, pureR, inA, inL, inR, inO, idsIn, encs_pure, enxs_pure, enys_pure, valC_pure, exC_pure, tyC_pure, r_int_u8_pure, r_st_GInst_pure])⟩, List.forall_mem_cons.2 ⟨⟨⟨_, rfl, ⟨rfl, rfl, rfl⟩⟩, (by simp [pureA, pureL, pureR, inA, inL, inR, inO, idsIn, encs_pure, enxs_pure, enys_pure, valC_pure, exC_pure, tyC_pure, r_int_u8_pure, r_st_GInst_pure])⟩, (fun _ h => by cases h)⟩⟩⟩⟩, ⟨hr, Nat.le_of_succ_le hm⟩, Nat.lt_succ_self _⟩
          · replace hr := cnd_f h21 hr
            refine AL.sk good (d := 45) rfl rfl rfl ?_
            refine AL.sk good (d := 46) rfl rfl rfl ?_
            refine AL.sk good (d := 47) rfl rfl rfl ?_
            refine AL.sk good (d := 48) rfl rfl rfl ?_
            refine AL.sk good (d := 49) rfl rfl rfl ?_
            refine AL.sk good (d := 50) rfl rfl rfl ?_
            refine AL.sk good (d := 51) rfl rfl rfl ?_
            refine AL.sk good (d := 52) rfl rfl rfl ?_
            refine AL.v good (d := 53) (v := .bool false) rfl rfl rfl rfl ?_
            refine AL.v good (d := 37) (v := .bool false) rfl rfl rfl rfl ?_
            refine AW.if rfl (fun h => by cases h) (fun h => ?_)
            refine AW.seq ?_
            refine AW.region (M := fun _ => true) ?_
            refine AL.v good (d := 58) (v := .ptr 4 0) rfl rfl rfl rfl ?_
            refine AL.v good (d := 59) (v := .str x16.f0) rfl rfl rfl rfl ?_
            refine AL.sb good (d := 60) (b := (x16.f0.data.toList == [106, 102])) rfl rfl rfl rfl rfl rfl rfl ?_
            refine AL.v good (d := 57) (v := .bool (x16.f0.data.toList == [106, 102])) rfl rfl rfl rfl ?_
            refine AW.if rfl (fun h => by cases h21.symm.trans h) (fun h => ?_)
            refine AW.seq ?_
            refine AW.region (M := fun _ => true) ?_
            refine AL.v good (d := 23) (v := .ptr 1 0) rfl rfl rfl rfl ?_
            refine AL.v good (d := 24) (v := .agg [.str x16.f0, .int .i64 x16.f1.kind, .int .i64 x16.f1.i, .bool x16.f1.b, .str x16.f1.s, .sl .ro 5 (encs x16.f1.t), .int .i64 x16.f2]) rfl rfl rfl rfl ?_
            obtain ⟨q26, h27, hr⟩ := bnd1 hr
            refine AL.clW good (d := 25) (xs := [.ptr 1 0, .agg [.str x16.f0, .int .i64 x16.f1.kind, .int .i64 x16.f1.i, .bool x16.f1.b, .str x16.f1.s, .sl .ro 5 (encs x16.f1.t), .int .i64 x16.f2]]) (rd := [(1, .box 144 [.int .i64 ((((Mach.mk (Val.mk v1_4 v1_5 v1_6 v1_7 v1_8) (Ar.mk v1_2 v1_3) v1_9)).f0).kind), .int .i64 ((((Mach.mk (Val.mk v1_4 v1_5 v1_6 v1_7 v1_8) (Ar.mk v1_2 v1_3) v1_9)).f0).i), .bool ((((Mach.mk (Val.mk v1_4 v1_5 v1_6 v1_7 v1_8) (Ar.mk v1_2 v1_3) v1_9)).f0).b), .str ((((Mach.mk (Val.mk v1_4 v1_5 v1_6 v1_7 v1_8) (Ar.mk v1_2 v1_3) v1_9)).f0).s), .sl .ro 5 (encs ((((Mach.mk (Val.mk v1_4 v1_5 v1_6 v1_7 v1_8) (Ar.mk v1_2 v1_3) v1_9)).f0).t)), .mv 2 ((((Mach.mk (Val.mk v1_4 v1_5 v1_6 v1_7 v1_8) (Ar.mk v1_2 v1_3) v1_9)).f1).v) .hdr, .sl (.own 3) 5 (encs (((Mach.mk (Val.mk v1_4 v1_5 v1_6 v1_7 v1_8) (Ar.mk v1_2 v1_3) v1_9)).f2))]), (2, .arr 24 5 ((((Mach.mk (Val.mk v1_4 v1_5 v1_6 v1_7 v1_8) (Ar.mk v1_2 v1_3) v1_9)).f1).v) (encs ((((Mach.mk (Val.mk v1_4 v1_5 v1_6 v1_7 v1_8) (Ar.mk v1_2 v1_3) v1_9)).f1).l))), (3, .row 24 5 (encs (((Mach.mk (Val.mk v1_4 v1_5 v1_6 v1_7 v1_8) (Ar.mk v1_2 v1_3) v1_9)).f2)).length)]) (up := [(1, .box 144 [.int .i64 q26.1.f0.kind, .int .i64 q26.1.f0.i, .bool q26.1.f0.b, .str q26.1.f0.s, .sl .ro 5 (encs q26.1.f0.t), .mv 2 q26.1.f1.v .hdr, .sl (.own 3) 5 (encs q26.1.f2)]), (2, .arr 24 5 q26.1.f1.v (encs q26.1.f1.l)), (3, .row 24 5 (encs q26.1.f2).length)]) (res := .int .i64 q26.2) rfl rfl rfl rfl rfl rfl rfl (w_f73_1_2_3 _ _ _ _ h27) ⟨(Wv.refl _), (Wv.refl _), trivial⟩ (List.forall_mem_cons.2 ⟨rfl, (List.forall_mem_cons.2 ⟨rfl, (List.forall_mem_cons.2 ⟨rfl, (fun _ h => by cases h)⟩)⟩)⟩) (List.forall_mem_cons.2 ⟨⟨_, .head _⟩, (List.forall_mem_cons.2 ⟨⟨_, .tail _ (.head _)⟩, (List.forall_mem_cons.2 ⟨⟨_, .tail _ (.tail _ (.head _))⟩, (fun _ h => by cases h)⟩)⟩)⟩) rfl rfl ?_
            refine AL.v good (d := 9) (v := .int .i64 q26.2) rfl rfl rfl rfl ?_
            refine AW.seq ?_
            refine AW.region (M := fun _ => true) ?_
            refine AL.v good (d := 26) (v := .int .i64 q26.2) rfl rfl rfl rfl ?_
            refine AL.v good (d := 27) (v := .bool (q26.2 != 0)) rfl rfl rfl rfl ?_
            refine AW.if rfl (fun h28 => ?_) (fun h28 => ?_)
            · replace hr := cnd_t h28 hr
              refine AW.seq ?_
              refine AW.region (M := fun _ => true) ?_
              refine AL.v good (d := 28) (v := .int .i64 q26.2) rfl rfl rfl rfl ?_
              refine AL.v good (d := 4) (v := .sl .nil 0 []) rfl rfl rfl rfl ?_
              refine AL.v good (d := 5) (v := .int .i64 q26.2) rfl rfl rfl rfl ?_
              refine AW.ret ?_
              obtain rfl := Option.some.inj hr
              exact RetQ.w good (.inr rfl) rfl rfl ⟨⟨.inr rfl, trivial, .inr rfl⟩, Wv.refl _, trivial⟩ (by simp [pureA, pureL, pureR, inA, inL, inR, inO, idsIn, encs_pure, enxs_pure, enys_pure, valC_pure, exC_pure, tyC_pure, r_int_u8_pure, r_st_GInst_pure])
            · replace hr := cnd_f h28 hr
              refine AW.skip ?_
              refine AW.region (M := fun _ => true) ?_
              refine AL.v good (d := 17) (v := .int .i64 v1_1) rfl rfl rfl rfl ?_
              refine AL.v good (d := 18) (v := .int .i64 (IntKind.i64.wrap (v1_1 + 1))) rfl rfl rfl rfl ?_
              refine AL.v good (d := 7) (v := .int .i64 (IntKind.i64.wrap (v1_1 + 1))) rfl rfl rfl rfl ?_
              exact ⟨(m, (IntKind.i64.wrap (v1_1 + 1)), q26.1.f1.v, q26.1.f1.l, q26.1.f0.kind, q26.1.f0.i, q26.1.f0.b, q26.1.f0.s, q26.1.f0.t, q26.1.f2), _, _, rfl, ⟨(fun _ h => by cases h), List.forall_mem_cons.2 ⟨⟨⟨_, rfl, Wv.refl _⟩, (by simp [pureA, pureL, pureR, inA, inL, inR, inO, idsIn, encs_pure, enxs_pure, enys_pure, valC_pure, exC_pure, tyC_pure, r_int_u8_pure, r_st_GInst_pure])⟩, List.forall_mem_cons.2 ⟨⟨⟨_, rfl, Wv.refl _⟩, (by simp [pureA, pureL, pureR, inA, inL, inR, inO, idsIn, encs_pure, enxs_pure, enys_pure, valC_pure, exC_pure, tyC_pure, r_int_u8_pure, r_st_GInst_pure])⟩, List.forall_mem_cons.2 ⟨⟨⟨_, rfl, Wv.refl _⟩, (by simp [pureA, pureL, pureR, inA, inL, inR, inO, idsIn, encs_pure, enxs_pure, enys_pure, valC_pure, exC_pure, tyC_pure, r_int_u8_pure, r_st_GInst_pure])⟩, (fun _ h => by cases h)⟩⟩⟩, List.forall_mem_cons.2 ⟨⟨⟨_, rfl, ⟨rfl, ⟨Wv.refl _, Wv.refl _, Wv.refl _, Wv.refl _, Wv.refl _, Wv.refl _, Wv.refl _, trivial⟩⟩⟩, (by simp [pureA, pureL, pureR, inA, inL, inR, inO, idsIn, encs_pure, enxs_pure, enys_pure, valC_pure, exC_pure, tyC_pure, r_int_u8_pure, r_st_GInst_pure])⟩, List.forall_mem_cons.2 ⟨⟨⟨_, rfl, ⟨rfl, rfl, rfl, WvR.refl _⟩⟩, (by simp [pureA, pureL, pureR, inA, inL, inR, inO, idsIn, encs_pure, enxs_pure, enys_pure, valC_pure, exC_pure, tyC_pure, r_int_u8_pure, r_st_GInst_pure])⟩, List.forall_mem_cons.2 ⟨⟨⟨_, rfl, ⟨rfl, rfl, rfl⟩⟩, (by simp [pureA, pureL, pureR, inA, inL, inR, inO, idsIn, encs_pure, enxs_pure, enys_pure, valC_pure, exC_pure, tyC_pure, r_int_u8_pure, r_st_GInst_pure])⟩, (fun _ h => by cases h)⟩⟩⟩⟩, ⟨hr, Nat.le_of_succ_le hm⟩, Nat.lt_succ_self _⟩
    · replace hr := cnd_f h15 hr
      refine AW.exit ?_
      refine AW.seq ?_
      refine AW.region (M := fun _ => true) ?_
      refine AL.v good (d := 61) (v := .ptr 1 0) rfl rfl rfl rfl ?_
      refine AL.v good (d := 62) (v := .ptr 1 0) rfl rfl rfl rfl ?_
      refine AL.v good (d := 63) (v := .ptr 1 6) rfl rfl rfl rfl ?_
      refine AL.v good (d := 64) (v := .sl (.own 3) 5 (encs v1_9)) rfl rfl rfl rfl ?_
      refine AL.v good (d := 4) (v := .sl (.own 3) 5 (encs v1_9)) rfl rfl rfl rfl ?_
      refine AL.v good (d := 5) (v := .int .i64 0) rfl rfl rfl rfl ?_
      refine AW.ret ?_
      obtain rfl := Option.some.inj hr
      exact RetQ.w good (.inr rfl) rfl rfl ⟨⟨.inr rfl, WvR.refl _, .inl rfl⟩, Wv.refl _, trivial⟩ (by simp [pureA, pureL, pureR, inA, inL, inR, inO, idsIn, encs_pure, enxs_pure, enys_pure, valC_pure, exC_pure, tyC_pure, r_int_u8_pure, r_st_GInst_pure])

end Go.Proofs.Ytbcjcekoonebiaa.Tl
