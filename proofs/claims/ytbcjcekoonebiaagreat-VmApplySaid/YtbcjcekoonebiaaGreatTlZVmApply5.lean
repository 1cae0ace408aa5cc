/- Definitions and walks: programs of operators. Definitions and walks: operators that may be. Definitions and walks: what operators do. Definitions and walks: VmApply. What a definition with fuel comes to, once there is enough of it. Conditions: none. -/
import Derived.Test.YtbcjcekoonebiaaGreatTlZVmApply4
set_option linter.unusedVariables false
set_option linter.unusedSimpArgs false
namespace Go.Proofs.YtbcjcekoonebiaaGreat.Tl
open Go Go.RowKit
structure GOp where
  f0 : Int
  f1 : ByteArray
  f2 : Ty
  f3 : List Ex
  f4 : Ex
  f5 : Int
  f6 : Int

mutual
def s_f112 : Nat → Ty → Option Ty
  | 0, _ => none
  | n + 1, a0 => (s_f112_l1 n a0 0 [])
def s_f112_l1 : Nat → Ty → Nat → (List Ty) → Option Ty
  | 0, _, _, _ => none
  | n + 1, a0, v1_1, v1_2 => (bif (decide ((v1_1 : Int) < (a0.of.length : Int))) then ((a0.of[v1_1]?).bind fun x10 => ((s_f112 n x10).bind fun q12 => (if v1_2.length + 1 ≤ 1000000 then (s_f112_l1 n a0 (v1_1 + 1) (v1_2 ++ [q12])) else none))) else some (Ty.mk a0.kind v1_2))
end

section
attribute [local simp] pureA pureL pureR inA inL inR inO idsIn encs_pure enxs_pure enys_pure valC_pure exC_pure tyC_pure r_int_u8_pure r_st_GInst_pure r_sl_st_GInst_pure r_st_GMiss_pure
theorem w_f112_a (n : Nat) (ih : ∀ (m : Nat) (a0 : Ty) (r : Ty), s_f112 m a0 = some r → m < n → ACall Tryz.prog 26 [.agg (tyC a0)] (.agg (tyC r))) (a0 : Ty) (r : Ty) (hr : s_f112 n a0 = some r) : ACall Tryz.prog 26 [.agg (tyC a0)] (.agg (tyC r)) := by
 refine ACall.go [(0, .agg (tyC a0))] Tryz.func26 rfl Tryz.ntmps26 rfl rfl (by simp) ?_
 cases n with
 | zero => rw [s_f112] at hr; cases hr
 | succ n =>
  rw [s_f112] at hr
  refine AW.seq (Rg ?_)
  refine AL.bx good (d := 1) (l := [.int .i64 a0.kind, .sl .ro 2 (enys a0.of)]) rfl rfl rfl rfl rfl rfl 0 rfl ?_
  refine AL.alc good (d := 2) rfl rfl rfl rfl rfl 1 rfl ?_
  refine AW.seq (Rg ?_)
  refine Av (.ptr 0 0) rfl ?_
  refine Av (.int .i64 a0.kind) rfl ?_
  refine AL.bld good (d := 7) (l := [.int .i64 a0.kind, .sl .nil 0 []]) rfl rfl rfl rfl rfl rfl rfl ?_
  refine AL.alc good (d := 3) rfl rfl rfl rfl rfl 2 rfl ?_
  refine AL.st2 good (c2 := [.int .i64 a0.kind, .sl .nil 0 []]) rfl rfl rfl rfl rfl rfl rfl rfl rfl rfl rfl rfl ?_
  refine AW.seq ?_
  refine AW.seq (Rg ?_)
  refine Av (.int .i64 0) rfl ?_
  refine AW.block ?_
  refine AW.adoptB 2 rfl 1 rfl 3 2 38 rfl rfl ?_
  refine AW.lensB 0 rfl (fun hl8 => ?_)
  replace hl8 : a0.of.length ≤ 9223372036854775807 := by rw [← enys_length a0.of]; exact hl8.2.1
  refine AW.lpw (fun x : Nat × Nat × (List Ty) => [(1, .ptr 0 0), (2, .ptr 1 0), (3, .ptr 2 0), (4, .int .i64 (x.2.1 : Int))]) (fun x => [(0, .box 24 [.int .i64 a0.kind, .sl .ro 2 (enys a0.of)]), (1, .box 38 [.int .i64 0, .sl .nil 0 []]), (2, .box 38 [.int .i64 a0.kind, .sl (.own 3) 2 (enys x.2.2)]), (3, .row 38 2 (enys x.2.2).length)]) (fun x => s_f112_l1 x.1 a0 x.2.1 x.2.2 = some r ∧ x.1 ≤ n) (fun x => x.1) (n, 0, []) ⟨(fun _ h => by cases h), fmc ⟨⟨⟨_, rfl, Wv.refl _⟩, (by simp)⟩, fmc ⟨⟨⟨_, rfl, Wv.refl _⟩, (by simp)⟩, fmc ⟨⟨⟨_, rfl, Wv.refl _⟩, (by simp)⟩, fmc ⟨⟨⟨_, rfl, Wv.refl _⟩, (by simp)⟩, (fun _ h => by cases h)⟩⟩⟩⟩, fmc ⟨⟨⟨_, rfl, ⟨rfl, ⟨Wv.refl _, Wv.refl _, trivial⟩⟩⟩, (by simp)⟩, fmc ⟨⟨⟨_, rfl, ⟨rfl, ⟨Wv.refl _, Wv.refl _, trivial⟩⟩⟩, (by simp)⟩, fmc ⟨⟨⟨_, rfl, ⟨rfl, ⟨Wv.refl _, Wv.refl _, trivial⟩⟩⟩, (by simp)⟩, fmc ⟨⟨⟨_, rfl, ⟨rfl, rfl, rfl⟩⟩, (by simp)⟩, (fun _ h => by cases h)⟩⟩⟩⟩⟩ ⟨hr, Nat.le_refl _⟩ (fun ⟨m, v1_1, v1_2⟩ hx => ?_)
  obtain ⟨hr, hm⟩ := hx
  try dsimp only at hr hm
  cases m with
  | zero => rw [s_f112_l1] at hr; cases hr
  | succ m =>
   rw [s_f112_l1] at hr
   show AW Tryz.prog _ _ _ (mkS 27 [(1, .ptr 0 0), (2, .ptr 1 0), (3, .ptr 2 0), (4, .int .i64 (v1_1 : Int))] [(0, .box 24 [.int .i64 a0.kind, .sl .ro 2 (enys a0.of)]), (1, .box 38 [.int .i64 0, .sl .nil 0 []]), (2, .box 38 [.int .i64 a0.kind, .sl (.own 3) 2 (enys v1_2)]), (3, .row 38 2 (enys v1_2).length)])
   refine AW.seq ?_
   refine AW.seq (Rg ?_)
   refine Av (.int .i64 (v1_1 : Int)) rfl ?_
   refine Av (.ptr 0 1) rfl ?_
   refine Av (.sl .ro 2 (enys a0.of)) rfl ?_
   refine AL.ln good (d := 11) (m := a0.of.length) rfl rfl rfl rfl rfl rfl (enys_length _) ?_
   refine Av (.bool (decide ((v1_1 : Int) < (a0.of.length : Int)))) rfl ?_
   refine AW.if rfl (fun h9 => ?_) (fun h9 => ?_)
   ·replace hr := cnd_t h9 hr
    refine AW.skip ?_
    refine AW.seq ?_
    refine AW.block ?_
    refine AW.drawc (M := fun i => ⟨Nat.beq i 9 || Nat.beq i 11, bif Nat.beq i 1 then some { ids := [2] } else bif Nat.beq i 3 then some { ids := [0] } else bif Nat.beq i 6 then some { ids := [] } else bif Nat.beq i 8 then some { ids := [4] } else bif Nat.beq i 9 then some { ids := [3] } else bif Nat.beq i 11 then some { ids := [2] } else none⟩) good.wide (by kernel_rfl) ?_
    refine Av (nc := ⟨rfl⟩) (.ptr 2 1) rfl ?_
    refine AL.vc good (d := 16) (v := .sl (.own 3) 2 (enys v1_2)) rfl rfl rfl rfl rfl rfl (fmc ⟨.head _, (fun _ h => by cases h)⟩) ?_
    refine Av (nc := ⟨rfl⟩) (.ptr 0 1) rfl ?_
    refine AL.vc good (d := 18) (v := .sl .ro 2 (enys a0.of)) rfl rfl rfl rfl rfl rfl (fmc ⟨.head _, (fun _ h => by cases h)⟩) ?_
    refine Av (nc := ⟨rfl⟩) (.int .i64 (v1_1 : Int)) rfl ?_
    obtain ⟨x10, h11, hr⟩ := bnd1 hr
    refine AL.ix (nc := ⟨rfl⟩) good (d := 20) (r := [.int .i64 x10.kind, .sl .ro 2 (enys x10.of)]) rfl rfl rfl rfl rfl rfl rfl (Int.natCast_nonneg _) (enys_get h11) ?_
    refine AL.vc good (d := 21) (v := .agg [.int .i64 x10.kind, .sl .ro 2 (enys x10.of)]) rfl rfl rfl rfl rfl rfl (fun _ h => by cases h) ?_
    obtain ⟨q12, h13, hr⟩ := bnd1 hr
    refine AL.cw (nc := ⟨rfl⟩) good (d := 22) (xs := [.agg (tyC x10)]) (res := .agg [.int .i64 q12.kind, .sl .ro 2 (enys q12.of)]) rfl rfl rfl rfl rfl rfl rfl (ih _ _ _ h13 (by omega)) ⟨(Wv.refl _), trivial⟩ (by simp) ?_
    refine AL.litC good (d := 23) (rows := [[.int .i64 q12.kind, .sl .ro 2 (enys q12.of)]]) rfl rfl rfl rfl rfl rfl rfl rfl rfl 4 rfl (ColN.mk rfl rfl (fun _ h => by cases h) (fmc ⟨.head _, (fun _ h => by cases h)⟩) (fun _ h => by cases h)) ?_
    obtain ⟨h14, hr⟩ := grd hr
    refine AL.aw2c good (d := 24) (rows := enys v1_2) (news := [(tyC q12)]) (rows2 := enys (v1_2 ++ [q12])) rfl rfl rfl rfl rfl rfl rfl rfl rfl (by simp) rfl rfl rfl rfl ⟨⟨Wv.refl _, Wv.refl _, trivial⟩, trivial⟩ (by simp [enys_map]) (by rw [enys_length, List.length_append]; exact h14) rfl ?_
    refine Av (nc := ⟨rfl⟩) (.ptr 2 1) rfl ?_
    refine AL.st2c good (c2 := [.int .i64 a0.kind, .sl (.own 3) 2 (enys (v1_2 ++ [q12]))]) rfl rfl rfl rfl rfl rfl rfl rfl rfl rfl rfl rfl rfl ?_
    refine Rg ?_
    refine Av (.int .i64 (v1_1 : Int)) rfl ?_
    refine Av (.int .i64 (IntKind.i64.wrap ((v1_1 : Int) + 1))) rfl ?_
    refine Av (.int .i64 (IntKind.i64.wrap ((v1_1 : Int) + 1))) rfl ?_
    exact ⟨(m, (v1_1 + 1), (v1_2 ++ [q12])), _, _, rfl, ⟨(fun _ h => by cases h), fmc ⟨⟨⟨_, rfl, Wv.refl _⟩, (by simp)⟩, fmc ⟨⟨⟨_, rfl, Wv.refl _⟩, (by simp)⟩, fmc ⟨⟨⟨_, rfl, Wv.refl _⟩, (by simp)⟩, fmc ⟨⟨⟨_, rfl, (wnx h9 hl8)⟩, (by simp)⟩, (fun _ h => by cases h)⟩⟩⟩⟩, fmc ⟨⟨⟨_, rfl, ⟨rfl, ⟨Wv.refl _, Wv.refl _, trivial⟩⟩⟩, (by simp)⟩, fmc ⟨⟨⟨_, rfl, ⟨rfl, ⟨Wv.refl _, Wv.refl _, trivial⟩⟩⟩, (by simp)⟩, fmc ⟨⟨⟨_, rfl, ⟨rfl, ⟨Wv.refl _, Wv.refl _, trivial⟩⟩⟩, (by simp)⟩, fmc ⟨⟨⟨_, rfl, ⟨rfl, rfl, rfl⟩⟩, (by simp)⟩, (fun _ h => by cases h)⟩⟩⟩⟩⟩, ⟨hr, Nat.le_of_succ_le hm⟩, Nat.lt_succ_self _⟩
   ·replace hr := cnd_f h9 hr
    refine AW.exit ?_
    refine AW.seq (Rg ?_)
    refine Av (.agg [.int .i64 a0.kind, .sl (.own 3) 2 (enys v1_2)]) rfl ?_
    refine AL.st2 good (c2 := [.int .i64 a0.kind, .sl (.own 3) 2 (enys v1_2)]) rfl rfl rfl rfl rfl rfl rfl rfl rfl rfl rfl rfl ?_
    refine AW.ret ?_
    obtain rfl := Option.some.inj hr
    exact RetQ.w good (.inr rfl) rfl rfl ⟨Wv.refl _, ⟨.inr rfl, WvR.refl _, .inl rfl⟩, trivial⟩ (by simp)
theorem w_f112 (n : Nat) : ∀ (a0 : Ty) (r : Ty) (hr : s_f112 n a0 = some r), ACall Tryz.prog 26 [.agg (tyC a0)] (.agg (tyC r)) := by
 induction n using Nat.strongRecOn with
 | _ n ih =>
  intro a0 r hr
  exact w_f112_a n (fun m a0 r h hm => ih m hm a0 r h) a0 r hr

mutual
def s_f76_l1 : Nat → GOp → Ty → Ex → Nat → (List Ex) → Option GOp
  | 0, _, _, _, _, _ => none
  | n + 1, a0, q1, q3, v1_1, v1_2 => (bif (decide ((v1_1 : Int) < (a0.f3.length : Int))) then ((a0.f3[v1_1]?).bind fun x14 => ((s_f19 n x14).bind fun q16 => (if v1_2.length + 1 ≤ 1000000 then (s_f76_l1 n a0 q1 q3 (v1_1 + 1) (v1_2 ++ [q16])) else none))) else some (GOp.mk a0.f0 a0.f1 q1 v1_2 q3 a0.f5 a0.f6))
end
def s_f76 (n : Nat) (a0 : GOp) : Option GOp :=
  ((s_f112 n a0.f2).bind fun q1 => ((s_f19 n a0.f4).bind fun q3 => (s_f76_l1 n a0 q1 q3 0 [])))

theorem w_f76 (n : Nat) (a0 : GOp) (r : GOp) (hr : s_f76 n a0 = some r) : ACall Tryz.prog 7 [.agg [.int .i64 a0.f0, .str a0.f1, .int .i64 a0.f2.kind, .sl .ro 2 (enys a0.f2.of), .sl .ro 8 (enxs a0.f3), .str a0.f4.op, .int .i64 a0.f4.v.kind, .int .i64 a0.f4.v.i, .bool a0.f4.v.b, .str a0.f4.v.s, .sl .ro 5 (encs a0.f4.v.t), .int .i64 a0.f4.n, .sl .ro 8 (enxs a0.f4.a), .int .i64 a0.f5, .int .i64 a0.f6]] (.agg [.int .i64 r.f0, .str r.f1, .int .i64 r.f2.kind, .sl .ro 2 (enys r.f2.of), .sl .ro 8 (enxs r.f3), .str r.f4.op, .int .i64 r.f4.v.kind, .int .i64 r.f4.v.i, .bool r.f4.v.b, .str r.f4.v.s, .sl .ro 5 (encs r.f4.v.t), .int .i64 r.f4.n, .sl .ro 8 (enxs r.f4.a), .int .i64 r.f5, .int .i64 r.f6]) := by
 refine ACall.go [(0, .agg [.int .i64 a0.f0, .str a0.f1, .int .i64 a0.f2.kind, .sl .ro 2 (enys a0.f2.of), .sl .ro 8 (enxs a0.f3), .str a0.f4.op, .int .i64 a0.f4.v.kind, .int .i64 a0.f4.v.i, .bool a0.f4.v.b, .str a0.f4.v.s, .sl .ro 5 (encs a0.f4.v.t), .int .i64 a0.f4.n, .sl .ro 8 (enxs a0.f4.a), .int .i64 a0.f5, .int .i64 a0.f6])] Tryz.func7 rfl Tryz.ntmps7 rfl rfl (by simp) ?_
 rw [s_f76] at hr
 refine AW.seq (Rg ?_)
 refine AL.bx good (d := 1) (l := [.int .i64 a0.f0, .str a0.f1, .int .i64 a0.f2.kind, .sl .ro 2 (enys a0.f2.of), .sl .ro 8 (enxs a0.f3), .str a0.f4.op, .int .i64 a0.f4.v.kind, .int .i64 a0.f4.v.i, .bool a0.f4.v.b, .str a0.f4.v.s, .sl .ro 5 (encs a0.f4.v.t), .int .i64 a0.f4.n, .sl .ro 8 (enxs a0.f4.a), .int .i64 a0.f5, .int .i64 a0.f6]) rfl rfl rfl rfl rfl rfl 0 rfl ?_
 refine AL.alc good (d := 2) rfl rfl rfl rfl rfl 1 rfl ?_
 refine AW.seq ?_
 refine AW.drawc (M := fun i => ⟨Nat.beq i 16, bif Nat.beq i 1 then some { ids := [0] } else bif Nat.beq i 3 then some { ids := [0] } else bif Nat.beq i 5 then some { ids := [0] } else bif Nat.beq i 8 then some { ids := [0] } else bif Nat.beq i 11 then some { ids := [0] } else bif Nat.beq i 13 then some { ids := [0] } else bif Nat.beq i 15 then some { ids := [2] } else bif Nat.beq i 16 then some { ids := [2] } else none⟩) good.wide (by kernel_rfl) ?_
 refine Av (nc := ⟨rfl⟩) (.ptr 0 0) rfl ?_
 refine AL.vc good (d := 6) (v := .int .i64 a0.f0) rfl rfl rfl rfl rfl rfl (fmc ⟨.head _, (fun _ h => by cases h)⟩) ?_
 refine Av (nc := ⟨rfl⟩) (.ptr 0 1) rfl ?_
 refine AL.vc good (d := 8) (v := .str a0.f1) rfl rfl rfl rfl rfl rfl (fmc ⟨.head _, (fun _ h => by cases h)⟩) ?_
 refine Av (nc := ⟨rfl⟩) (.ptr 0 2) rfl ?_
 refine AL.vc good (d := 10) (v := .agg [.int .i64 a0.f2.kind, .sl .ro 2 (enys a0.f2.of)]) rfl rfl rfl rfl rfl rfl (fmc ⟨.head _, (fun _ h => by cases h)⟩) ?_
 obtain ⟨q1, h2, hr⟩ := bnd1 hr
 refine AL.cw (nc := ⟨rfl⟩) good (d := 11) (xs := [.agg (tyC a0.f2)]) (res := .agg [.int .i64 q1.kind, .sl .ro 2 (enys q1.of)]) rfl rfl rfl rfl rfl rfl rfl (w_f112 _ _ _ h2) ⟨(Wv.refl _), trivial⟩ (by simp) ?_
 refine Av (nc := ⟨rfl⟩) (.ptr 0 5) rfl ?_
 refine AL.vc good (d := 13) (v := .agg [.str a0.f4.op, .int .i64 a0.f4.v.kind, .int .i64 a0.f4.v.i, .bool a0.f4.v.b, .str a0.f4.v.s, .sl .ro 5 (encs a0.f4.v.t), .int .i64 a0.f4.n, .sl .ro 8 (enxs a0.f4.a)]) rfl rfl rfl rfl rfl rfl (fmc ⟨.head _, (fun _ h => by cases h)⟩) ?_
 obtain ⟨q3, h4, hr⟩ := bnd1 hr
 refine AL.cw (nc := ⟨rfl⟩) good (d := 14) (xs := [.agg (exC a0.f4)]) (res := .agg [.str q3.op, .int .i64 q3.v.kind, .int .i64 q3.v.i, .bool q3.v.b, .str q3.v.s, .sl .ro 5 (encs q3.v.t), .int .i64 q3.n, .sl .ro 8 (enxs q3.a)]) rfl rfl rfl rfl rfl rfl rfl (w_f19 _ _ _ h4) ⟨(Wv.refl _), trivial⟩ (by simp) ?_
 refine Av (nc := ⟨rfl⟩) (.ptr 0 13) rfl ?_
 refine AL.vc good (d := 16) (v := .int .i64 a0.f5) rfl rfl rfl rfl rfl rfl (fmc ⟨.head _, (fun _ h => by cases h)⟩) ?_
 refine Av (nc := ⟨rfl⟩) (.ptr 0 14) rfl ?_
 refine AL.vc good (d := 18) (v := .int .i64 a0.f6) rfl rfl rfl rfl rfl rfl (fmc ⟨.head _, (fun _ h => by cases h)⟩) ?_
 refine AL.bld (nc := ⟨rfl⟩) good (d := 19) (l := [.int .i64 a0.f0, .str a0.f1, .int .i64 q1.kind, .sl .ro 2 (enys q1.of), .sl .nil 0 [], .str q3.op, .int .i64 q3.v.kind, .int .i64 q3.v.i, .bool q3.v.b, .str q3.v.s, .sl .ro 5 (encs q3.v.t), .int .i64 q3.n, .sl .ro 8 (enxs q3.a), .int .i64 a0.f5, .int .i64 a0.f6]) rfl rfl rfl rfl rfl rfl rfl ?_
 refine AL.alcC good (d := 3) rfl rfl rfl rfl rfl 2 rfl (ColN.mk rfl rfl (fun _ h => by cases h) (fmc ⟨.head _, (fun _ h => by cases h)⟩) (fun _ h => by cases h)) ?_
 refine AL.st2c good (c2 := [.int .i64 a0.f0, .str a0.f1, .int .i64 q1.kind, .sl .ro 2 (enys q1.of), .sl .nil 0 [], .str q3.op, .int .i64 q3.v.kind, .int .i64 q3.v.i, .bool q3.v.b, .str q3.v.s, .sl .ro 5 (encs q3.v.t), .int .i64 q3.n, .sl .ro 8 (enxs q3.a), .int .i64 a0.f5, .int .i64 a0.f6]) rfl rfl rfl rfl rfl rfl rfl rfl rfl rfl rfl rfl rfl ?_
 refine AW.seq ?_
 refine AW.seq (Rg ?_)
 refine Av (.int .i64 0) rfl ?_
 refine AW.block ?_
 refine AW.adoptB 2 rfl 4 rfl 3 8 44 rfl rfl ?_
 refine AW.lensB 0 rfl (fun hl12 => ?_)
 replace hl12 : a0.f3.length ≤ 9223372036854775807 := by rw [← enxs_length a0.f3]; exact hl12.2.2.2.2.1
 refine AW.lpw (fun x : Nat × Nat × (List Ex) => [(1, .ptr 0 0), (2, .ptr 1 0), (3, .ptr 2 0), (4, .int .i64 (x.2.1 : Int))]) (fun x => [(0, .box 32 [.int .i64 a0.f0, .str a0.f1, .int .i64 a0.f2.kind, .sl .ro 2 (enys a0.f2.of), .sl .ro 8 (enxs a0.f3), .str a0.f4.op, .int .i64 a0.f4.v.kind, .int .i64 a0.f4.v.i, .bool a0.f4.v.b, .str a0.f4.v.s, .sl .ro 5 (encs a0.f4.v.t), .int .i64 a0.f4.n, .sl .ro 8 (enxs a0.f4.a), .int .i64 a0.f5, .int .i64 a0.f6]), (1, .box 46 [.int .i64 0, .str ⟨#[]⟩, .int .i64 0, .sl .nil 0 [], .sl .nil 0 [], .str ⟨#[]⟩, .int .i64 0, .int .i64 0, .bool false, .str ⟨#[]⟩, .sl .nil 0 [], .int .i64 0, .sl .nil 0 [], .int .i64 0, .int .i64 0]), (2, .box 46 [.int .i64 a0.f0, .str a0.f1, .int .i64 q1.kind, .sl .ro 2 (enys q1.of), .sl (.own 3) 8 (enxs x.2.2), .str q3.op, .int .i64 q3.v.kind, .int .i64 q3.v.i, .bool q3.v.b, .str q3.v.s, .sl .ro 5 (encs q3.v.t), .int .i64 q3.n, .sl .ro 8 (enxs q3.a), .int .i64 a0.f5, .int .i64 a0.f6]), (3, .row 44 8 (enxs x.2.2).length)]) (fun x => s_f76_l1 x.1 a0 q1 q3 x.2.1 x.2.2 = some r ∧ x.1 ≤ n) (fun x => x.1) (n, 0, []) ⟨(fun _ h => by cases h), fmc ⟨⟨⟨_, rfl, Wv.refl _⟩, (by simp)⟩, fmc ⟨⟨⟨_, rfl, Wv.refl _⟩, (by simp)⟩, fmc ⟨⟨⟨_, rfl, Wv.refl _⟩, (by simp)⟩, fmc ⟨⟨⟨_, rfl, Wv.refl _⟩, (by simp)⟩, (fun _ h => by cases h)⟩⟩⟩⟩, fmc ⟨⟨⟨_, rfl, ⟨rfl, ⟨Wv.refl _, Wv.refl _, Wv.refl _, Wv.refl _, Wv.refl _, Wv.refl _, Wv.refl _, Wv.refl _, Wv.refl _, Wv.refl _, Wv.refl _, Wv.refl _, Wv.refl _, Wv.refl _, Wv.refl _, trivial⟩⟩⟩, (by simp)⟩, fmc ⟨⟨⟨_, rfl, ⟨rfl, ⟨Wv.refl _, Wv.refl _, Wv.refl _, Wv.refl _, Wv.refl _, Wv.refl _, Wv.refl _, Wv.refl _, Wv.refl _, Wv.refl _, Wv.refl _, Wv.refl _, Wv.refl _, Wv.refl _, Wv.refl _, trivial⟩⟩⟩, (by simp)⟩, fmc ⟨⟨⟨_, rfl, ⟨rfl, ⟨Wv.refl _, Wv.refl _, Wv.refl _, Wv.refl _, Wv.refl _, Wv.refl _, Wv.refl _, Wv.refl _, Wv.refl _, Wv.refl _, Wv.refl _, Wv.refl _, Wv.refl _, Wv.refl _, Wv.refl _, trivial⟩⟩⟩, (by simp)⟩, fmc ⟨⟨⟨_, rfl, ⟨rfl, rfl, rfl⟩⟩, (by simp)⟩, (fun _ h => by cases h)⟩⟩⟩⟩⟩ ⟨hr, Nat.le_refl _⟩ (fun ⟨m, v1_1, v1_2⟩ hx => ?_)
 obtain ⟨hr, hm⟩ := hx
 try dsimp only at hr hm
 cases m with
 | zero => rw [s_f76_l1] at hr; cases hr
 | succ m =>
  rw [s_f76_l1] at hr
  show AW Tryz.prog _ _ _ (mkS 39 [(1, .ptr 0 0), (2, .ptr 1 0), (3, .ptr 2 0), (4, .int .i64 (v1_1 : Int))] [(0, .box 32 [.int .i64 a0.f0, .str a0.f1, .int .i64 a0.f2.kind, .sl .ro 2 (enys a0.f2.of), .sl .ro 8 (enxs a0.f3), .str a0.f4.op, .int .i64 a0.f4.v.kind, .int .i64 a0.f4.v.i, .bool a0.f4.v.b, .str a0.f4.v.s, .sl .ro 5 (encs a0.f4.v.t), .int .i64 a0.f4.n, .sl .ro 8 (enxs a0.f4.a), .int .i64 a0.f5, .int .i64 a0.f6]), (1, .box 46 [.int .i64 0, .str ⟨#[]⟩, .int .i64 0, .sl .nil 0 [], .sl .nil 0 [], .str ⟨#[]⟩, .int .i64 0, .int .i64 0, .bool false, .str ⟨#[]⟩, .sl .nil 0 [], .int .i64 0, .sl .nil 0 [], .int .i64 0, .int .i64 0]), (2, .box 46 [.int .i64 a0.f0, .str a0.f1, .int .i64 q1.kind, .sl .ro 2 (enys q1.of), .sl (.own 3) 8 (enxs v1_2), .str q3.op, .int .i64 q3.v.kind, .int .i64 q3.v.i, .bool q3.v.b, .str q3.v.s, .sl .ro 5 (encs q3.v.t), .int .i64 q3.n, .sl .ro 8 (enxs q3.a), .int .i64 a0.f5, .int .i64 a0.f6]), (3, .row 44 8 (enxs v1_2).length)])
  refine AW.seq ?_
  refine AW.seq (Rg ?_)
  refine Av (.int .i64 (v1_1 : Int)) rfl ?_
  refine Av (.ptr 0 4) rfl ?_
  refine Av (.sl .ro 8 (enxs a0.f3)) rfl ?_
  refine AL.ln good (d := 23) (m := a0.f3.length) rfl rfl rfl rfl rfl rfl (enxs_length _) ?_
  refine Av (.bool (decide ((v1_1 : Int) < (a0.f3.length : Int)))) rfl ?_
  refine AW.if rfl (fun h13 => ?_) (fun h13 => ?_)
  ·replace hr := cnd_t h13 hr
   refine AW.skip ?_
   refine AW.seq ?_
   refine AW.block ?_
   refine AW.drawc (M := fun i => ⟨Nat.beq i 9 || Nat.beq i 11, bif Nat.beq i 1 then some { ids := [2] } else bif Nat.beq i 3 then some { ids := [0] } else bif Nat.beq i 6 then some { ids := [] } else bif Nat.beq i 8 then some { ids := [4] } else bif Nat.beq i 9 then some { ids := [3] } else bif Nat.beq i 11 then some { ids := [2] } else none⟩) good.wide (by kernel_rfl) ?_
   refine Av (nc := ⟨rfl⟩) (.ptr 2 4) rfl ?_
   refine AL.vc good (d := 28) (v := .sl (.own 3) 8 (enxs v1_2)) rfl rfl rfl rfl rfl rfl (fmc ⟨.head _, (fun _ h => by cases h)⟩) ?_
   refine Av (nc := ⟨rfl⟩) (.ptr 0 4) rfl ?_
   refine AL.vc good (d := 30) (v := .sl .ro 8 (enxs a0.f3)) rfl rfl rfl rfl rfl rfl (fmc ⟨.head _, (fun _ h => by cases h)⟩) ?_
   refine Av (nc := ⟨rfl⟩) (.int .i64 (v1_1 : Int)) rfl ?_
   obtain ⟨x14, h15, hr⟩ := bnd1 hr
   refine AL.ix (nc := ⟨rfl⟩) good (d := 32) (r := [.str x14.op, .int .i64 x14.v.kind, .int .i64 x14.v.i, .bool x14.v.b, .str x14.v.s, .sl .ro 5 (encs x14.v.t), .int .i64 x14.n, .sl .ro 8 (enxs x14.a)]) rfl rfl rfl rfl rfl rfl rfl (Int.natCast_nonneg _) (enxs_get h15) ?_
   refine AL.vc good (d := 33) (v := .agg [.str x14.op, .int .i64 x14.v.kind, .int .i64 x14.v.i, .bool x14.v.b, .str x14.v.s, .sl .ro 5 (encs x14.v.t), .int .i64 x14.n, .sl .ro 8 (enxs x14.a)]) rfl rfl rfl rfl rfl rfl (fun _ h => by cases h) ?_
   obtain ⟨q16, h17, hr⟩ := bnd1 hr
   refine AL.cw (nc := ⟨rfl⟩) good (d := 34) (xs := [.agg (exC x14)]) (res := .agg [.str q16.op, .int .i64 q16.v.kind, .int .i64 q16.v.i, .bool q16.v.b, .str q16.v.s, .sl .ro 5 (encs q16.v.t), .int .i64 q16.n, .sl .ro 8 (enxs q16.a)]) rfl rfl rfl rfl rfl rfl rfl (w_f19 _ _ _ h17) ⟨(Wv.refl _), trivial⟩ (by simp) ?_
   refine AL.litC good (d := 35) (rows := [[.str q16.op, .int .i64 q16.v.kind, .int .i64 q16.v.i, .bool q16.v.b, .str q16.v.s, .sl .ro 5 (encs q16.v.t), .int .i64 q16.n, .sl .ro 8 (enxs q16.a)]]) rfl rfl rfl rfl rfl rfl rfl rfl rfl 4 rfl (ColN.mk rfl rfl (fun _ h => by cases h) (fmc ⟨.head _, (fun _ h => by cases h)⟩) (fun _ h => by cases h)) ?_
   obtain ⟨h18, hr⟩ := grd hr
   refine AL.aw2c good (d := 36) (rows := enxs v1_2) (news := [(exC q16)]) (rows2 := enxs (v1_2 ++ [q16])) rfl rfl rfl rfl rfl rfl rfl rfl rfl (by simp) rfl rfl rfl rfl ⟨⟨Wv.refl _, Wv.refl _, Wv.refl _, Wv.refl _, Wv.refl _, Wv.refl _, Wv.refl _, Wv.refl _, trivial⟩, trivial⟩ (by simp [enxs_map]) (by rw [enxs_length, List.length_append]; exact h18) rfl ?_
   refine Av (nc := ⟨rfl⟩) (.ptr 2 4) rfl ?_
   refine AL.st2c good (c2 := [.int .i64 a0.f0, .str a0.f1, .int .i64 q1.kind, .sl .ro 2 (enys q1.of), .sl (.own 3) 8 (enxs (v1_2 ++ [q16])), .str q3.op, .int .i64 q3.v.kind, .int .i64 q3.v.i, .bool q3.v.b, .str q3.v.s, .sl .ro 5 (encs q3.v.t), .int .i64 q3.n, .sl .ro 8 (enxs q3.a), .int .i64 a0.f5, .int .i64 a0.f6]) rfl rfl rfl rfl rfl rfl rfl rfl rfl rfl rfl rfl rfl ?_
   refine Rg ?_
   refine Av (.int .i64 (v1_1 : Int)) rfl ?_
   refine Av (.int .i64 (IntKind.i64.wrap ((v1_1 : Int) + 1))) rfl ?_
   refine Av (.int .i64 (IntKind.i64.wrap ((v1_1 : Int) + 1))) rfl ?_
   exact ⟨(m, (v1_1 + 1), (v1_2 ++ [q16])), _, _, rfl, ⟨(fun _ h => by cases h), fmc ⟨⟨⟨_, rfl, Wv.refl _⟩, (by simp)⟩, fmc ⟨⟨⟨_, rfl, Wv.refl _⟩, (by simp)⟩, fmc ⟨⟨⟨_, rfl, Wv.refl _⟩, (by simp)⟩, fmc ⟨⟨⟨_, rfl, (wnx h13 hl12)⟩, (by simp)⟩, (fun _ h => by cases h)⟩⟩⟩⟩, fmc ⟨⟨⟨_, rfl, ⟨rfl, ⟨Wv.refl _, Wv.refl _, Wv.refl _, Wv.refl _, Wv.refl _, Wv.refl _, Wv.refl _, Wv.refl _, Wv.refl _, Wv.refl _, Wv.refl _, Wv.refl _, Wv.refl _, Wv.refl _, Wv.refl _, trivial⟩⟩⟩, (by simp)⟩, fmc ⟨⟨⟨_, rfl, ⟨rfl, ⟨Wv.refl _, Wv.refl _, Wv.refl _, Wv.refl _, Wv.refl _, Wv.refl _, Wv.refl _, Wv.refl _, Wv.refl _, Wv.refl _, Wv.refl _, Wv.refl _, Wv.refl _, Wv.refl _, Wv.refl _, trivial⟩⟩⟩, (by simp)⟩, fmc ⟨⟨⟨_, rfl, ⟨rfl, ⟨Wv.refl _, Wv.refl _, Wv.refl _, Wv.refl _, Wv.refl _, Wv.refl _, Wv.refl _, Wv.refl _, Wv.refl _, Wv.refl _, Wv.refl _, Wv.refl _, Wv.refl _, Wv.refl _, Wv.refl _, trivial⟩⟩⟩, (by simp)⟩, fmc ⟨⟨⟨_, rfl, ⟨rfl, rfl, rfl⟩⟩, (by simp)⟩, (fun _ h => by cases h)⟩⟩⟩⟩⟩, ⟨hr, Nat.le_of_succ_le hm⟩, Nat.lt_succ_self _⟩
  ·replace hr := cnd_f h13 hr
   refine AW.exit ?_
   refine AW.seq (Rg ?_)
   refine Av (.agg [.int .i64 a0.f0, .str a0.f1, .int .i64 q1.kind, .sl .ro 2 (enys q1.of), .sl (.own 3) 8 (enxs v1_2), .str q3.op, .int .i64 q3.v.kind, .int .i64 q3.v.i, .bool q3.v.b, .str q3.v.s, .sl .ro 5 (encs q3.v.t), .int .i64 q3.n, .sl .ro 8 (enxs q3.a), .int .i64 a0.f5, .int .i64 a0.f6]) rfl ?_
   refine AL.st2 good (c2 := [.int .i64 a0.f0, .str a0.f1, .int .i64 q1.kind, .sl .ro 2 (enys q1.of), .sl (.own 3) 8 (enxs v1_2), .str q3.op, .int .i64 q3.v.kind, .int .i64 q3.v.i, .bool q3.v.b, .str q3.v.s, .sl .ro 5 (encs q3.v.t), .int .i64 q3.n, .sl .ro 8 (enxs q3.a), .int .i64 a0.f5, .int .i64 a0.f6]) rfl rfl rfl rfl rfl rfl rfl rfl rfl rfl rfl rfl ?_
   refine AW.ret ?_
   obtain rfl := Option.some.inj hr
   exact RetQ.w good (.inr rfl) rfl rfl ⟨Wv.refl _, Wv.refl _, Wv.refl _, Wv.refl _, ⟨.inr rfl, WvR.refl _, .inl rfl⟩, Wv.refl _, Wv.refl _, Wv.refl _, Wv.refl _, Wv.refl _, Wv.refl _, Wv.refl _, Wv.refl _, Wv.refl _, Wv.refl _, trivial⟩ (by simp)

mutual
def s_f75_l1 : Nat → GOp → (List GInst) → Nat → Option (List GInst)
  | 0, _, _, _ => none
  | n + 1, a0, v1_1, v1_2 => (bif (decide ((v1_2 : Int) < (a0.f3.length : Int))) then ((a0.f3[v1_2]?).bind fun x31 => ((s_f52 n x31).bind fun q33 => ((s_f89 n v1_1 q33).bind fun q35 => (s_f75_l1 n a0 q35 (v1_2 + 1))))) else (if v1_1.length + 2 ≤ 1000000 then some (v1_1 ++ [(GInst.mk ⟨#[101, 109, 105, 116]⟩ (Val.mk 0 0 false ⟨#[]⟩ []) (a0.f3.length : Int)), (GInst.mk ⟨#[114, 101, 116]⟩ (Val.mk 0 0 false ⟨#[]⟩ []) 0)]) else none))
end
def s_f75 (n : Nat) (a0 : GOp) : Option (List GInst) :=
  (bif (a0.f0 == 2) then ((a0.f3[0]?).bind fun x2 => ((s_f52 n x2).bind fun q4 => (if q4.length + 2 ≤ 1000000 then some (q4 ++ [(GInst.mk ⟨#[101, 109, 105, 116]⟩ (Val.mk 0 0 false ⟨#[]⟩ []) 1), (GInst.mk ⟨#[114, 101, 116]⟩ (Val.mk 0 0 false ⟨#[]⟩ []) 0)]) else none))) else (bif (a0.f0 == 5) then ((a0.f3[0]?).bind fun x8 => ((s_f52 n x8).bind fun q10 => (if q10.length + 2 ≤ 1000000 then some (q10 ++ [(GInst.mk ⟨#[101, 109, 105, 116]⟩ (Val.mk 0 0 false ⟨#[]⟩ []) 1), (GInst.mk ⟨#[114, 101, 116]⟩ (Val.mk 0 0 false ⟨#[]⟩ []) 0)]) else none))) else (bif (a0.f0 == 3) then ((a0.f3[0]?).bind fun x14 => ((s_f52 n x14).bind fun q16 => (if q16.length + 2 ≤ 1000000 then (if (q16 ++ [(GInst.mk ⟨#[106, 102]⟩ (Val.mk 0 0 false ⟨#[]⟩ []) (IntKind.i64.wrap ((q16.length : Int) + 3))), (GInst.mk ⟨#[120]⟩ (Val.mk 0 0 false ⟨#[]⟩ []) 0)]).length + 2 ≤ 1000000 then some ((q16 ++ [(GInst.mk ⟨#[106, 102]⟩ (Val.mk 0 0 false ⟨#[]⟩ []) (IntKind.i64.wrap ((q16.length : Int) + 3))), (GInst.mk ⟨#[120]⟩ (Val.mk 0 0 false ⟨#[]⟩ []) 0)]) ++ [(GInst.mk ⟨#[101, 109, 105, 116]⟩ (Val.mk 0 0 false ⟨#[]⟩ []) 1), (GInst.mk ⟨#[114, 101, 116]⟩ (Val.mk 0 0 false ⟨#[]⟩ []) 0)]) else none) else none))) else (bif (a0.f0 == 4) then (s_f75_l1 n a0 [] 0) else (if [(GInst.mk ⟨#[120]⟩ (Val.mk 0 0 false ⟨#[]⟩ []) 0)].length + 2 ≤ 1000000 then some ([(GInst.mk ⟨#[120]⟩ (Val.mk 0 0 false ⟨#[]⟩ []) 0)] ++ [(GInst.mk ⟨#[101, 109, 105, 116]⟩ (Val.mk 0 0 false ⟨#[]⟩ []) 1), (GInst.mk ⟨#[114, 101, 116]⟩ (Val.mk 0 0 false ⟨#[]⟩ []) 0)]) else none)))))

theorem w_f75 (n : Nat) (a0 : GOp) (r : List GInst) (hr : s_f75 n a0 = some r) (id : Nat) : ACallN Tryz.prog 17 [.agg [.int .i64 a0.f0, .str a0.f1, .int .i64 a0.f2.kind, .sl .ro 2 (enys a0.f2.of), .sl .ro 8 (enxs a0.f3), .str a0.f4.op, .int .i64 a0.f4.v.kind, .int .i64 a0.f4.v.i, .bool a0.f4.v.b, .str a0.f4.v.s, .sl .ro 5 (encs a0.f4.v.t), .int .i64 a0.f4.n, .sl .ro 8 (enxs a0.f4.a), .int .i64 a0.f5, .int .i64 a0.f6]] id (.row 94 7 (r_st_GInst r).length) (.sl (.own id) 7 (r_st_GInst r)) := by
 refine ACallN.go (rows := r_st_GInst r) [(0, .agg [.int .i64 a0.f0, .str a0.f1, .int .i64 a0.f2.kind, .sl .ro 2 (enys a0.f2.of), .sl .ro 8 (enxs a0.f3), .str a0.f4.op, .int .i64 a0.f4.v.kind, .int .i64 a0.f4.v.i, .bool a0.f4.v.b, .str a0.f4.v.s, .sl .ro 5 (encs a0.f4.v.t), .int .i64 a0.f4.n, .sl .ro 8 (enxs a0.f4.a), .int .i64 a0.f5, .int .i64 a0.f6])] Tryz.func17 rfl Tryz.ntmps17 rfl rfl (by simp) (by simp) ?_ id
 rw [s_f75] at hr
 refine AW.seq (Rg ?_)
 refine AL.bx good (d := 1) (l := [.int .i64 a0.f0, .str a0.f1, .int .i64 a0.f2.kind, .sl .ro 2 (enys a0.f2.of), .sl .ro 8 (enxs a0.f3), .str a0.f4.op, .int .i64 a0.f4.v.kind, .int .i64 a0.f4.v.i, .bool a0.f4.v.b, .str a0.f4.v.s, .sl .ro 5 (encs a0.f4.v.t), .int .i64 a0.f4.n, .sl .ro 8 (enxs a0.f4.a), .int .i64 a0.f5, .int .i64 a0.f6]) rfl rfl rfl rfl rfl rfl 0 rfl ?_
 refine Av (.sl .nil 0 []) rfl ?_
 refine AW.seq (Rg ?_)
 refine Av (.sl .nil 0 []) rfl ?_
 refine AW.seq (Rg ?_)
 refine Av (.int .i64 1) rfl ?_
 refine AW.seq ?_
 refine AW.seq (Rg ?_)
 refine Av (.ptr 0 0) rfl ?_
 refine Av (.int .i64 a0.f0) rfl ?_
 refine AW.block ?_
 refine AW.seq ?_
 refine AW.seq (Rg ?_)
 refine Av (.bool (a0.f0 == 2)) rfl ?_
 refine Av (.bool (a0.f0 == 2)) rfl ?_
 refine AW.if rfl (fun h1 => ?_) (fun h1 => ?_)
 ·replace hr := cnd_t h1 hr
  refine AW.skip ?_
  refine AW.if rfl (fun h => ?_) (fun h => by cases h1.symm.trans h)
  refine Rg ?_
  refine Av (.ptr 0 4) rfl ?_
  refine Av (.sl .ro 8 (enxs a0.f3)) rfl ?_
  obtain ⟨x2, h3, hr⟩ := bnd1 hr
  refine AL.ix good (d := 15) (r := [.str x2.op, .int .i64 x2.v.kind, .int .i64 x2.v.i, .bool x2.v.b, .str x2.v.s, .sl .ro 5 (encs x2.v.t), .int .i64 x2.n, .sl .ro 8 (enxs x2.a)]) rfl rfl rfl rfl rfl rfl rfl (by decide) (enxs_get h3) ?_
  refine Av (.agg [.str x2.op, .int .i64 x2.v.kind, .int .i64 x2.v.i, .bool x2.v.b, .str x2.v.s, .sl .ro 5 (encs x2.v.t), .int .i64 x2.n, .sl .ro 8 (enxs x2.a)]) rfl ?_
  obtain ⟨q4, h5, hr⟩ := bnd1 hr
  refine AL.clF good (d := 17) (xs := [.agg (exC x2)]) (ob := .row 94 7 (r_st_GInst q4).length) (res := .sl (.own 1) 7 (r_st_GInst q4)) rfl rfl rfl rfl rfl rfl rfl 1 rfl (w_f52 _ _ _ h5 1) ⟨(Wv.refl _), trivial⟩ rfl ColN.no ?_
  refine Av (.sl (.own 1) 7 (r_st_GInst q4)) rfl ?_
  refine AW.seq (Rg ?_)
  refine Av (.sl (.own 1) 7 (r_st_GInst q4)) rfl ?_
  refine Av (.int .i64 1) rfl ?_
  refine AL.cw good (d := 55) (xs := [.str ⟨#[101, 109, 105, 116]⟩, .int .i64 1]) (res := .agg [.str ⟨#[101, 109, 105, 116]⟩, .int .i64 0, .int .i64 0, .bool false, .str ⟨#[]⟩, .sl .ro 5 (encs []), .int .i64 1]) rfl rfl rfl rfl rfl rfl rfl (w_f86 ⟨#[101, 109, 105, 116]⟩ 1) ⟨(Wv.refl _), (Wv.refl _), trivial⟩ (by simp) ?_
  refine AL.cw good (d := 56) (xs := [.str ⟨#[114, 101, 116]⟩, .int .i64 0]) (res := .agg [.str ⟨#[114, 101, 116]⟩, .int .i64 0, .int .i64 0, .bool false, .str ⟨#[]⟩, .sl .ro 5 (encs []), .int .i64 0]) rfl rfl rfl rfl rfl rfl rfl (w_f86 ⟨#[114, 101, 116]⟩ 0) ⟨(Wv.refl _), (Wv.refl _), trivial⟩ (by simp) ?_
  refine AL.lit good (d := 57) (rows := [[.str ⟨#[101, 109, 105, 116]⟩, .int .i64 0, .int .i64 0, .bool false, .str ⟨#[]⟩, .sl .ro 5 (encs []), .int .i64 1], [.str ⟨#[114, 101, 116]⟩, .int .i64 0, .int .i64 0, .bool false, .str ⟨#[]⟩, .sl .ro 5 (encs []), .int .i64 0]]) rfl rfl rfl rfl rfl rfl rfl rfl rfl 2 rfl ?_
  obtain ⟨h6, hr⟩ := grd hr
  refine AL.aw2 good (d := 58) (rows := r_st_GInst q4) (news := [[.str (((GInst.mk ⟨#[101, 109, 105, 116]⟩ (Val.mk 0 0 false ⟨#[]⟩ []) 1)).f0), .int .i64 ((((GInst.mk ⟨#[101, 109, 105, 116]⟩ (Val.mk 0 0 false ⟨#[]⟩ []) 1)).f1).kind), .int .i64 ((((GInst.mk ⟨#[101, 109, 105, 116]⟩ (Val.mk 0 0 false ⟨#[]⟩ []) 1)).f1).i), .bool ((((GInst.mk ⟨#[101, 109, 105, 116]⟩ (Val.mk 0 0 false ⟨#[]⟩ []) 1)).f1).b), .str ((((GInst.mk ⟨#[101, 109, 105, 116]⟩ (Val.mk 0 0 false ⟨#[]⟩ []) 1)).f1).s), .sl .ro 5 (encs ((((GInst.mk ⟨#[101, 109, 105, 116]⟩ (Val.mk 0 0 false ⟨#[]⟩ []) 1)).f1).t)), .int .i64 (((GInst.mk ⟨#[101, 109, 105, 116]⟩ (Val.mk 0 0 false ⟨#[]⟩ []) 1)).f2)], [.str (((GInst.mk ⟨#[114, 101, 116]⟩ (Val.mk 0 0 false ⟨#[]⟩ []) 0)).f0), .int .i64 ((((GInst.mk ⟨#[114, 101, 116]⟩ (Val.mk 0 0 false ⟨#[]⟩ []) 0)).f1).kind), .int .i64 ((((GInst.mk ⟨#[114, 101, 116]⟩ (Val.mk 0 0 false ⟨#[]⟩ []) 0)).f1).i), .bool ((((GInst.mk ⟨#[114, 101, 116]⟩ (Val.mk 0 0 false ⟨#[]⟩ []) 0)).f1).b), .str ((((GInst.mk ⟨#[114, 101, 116]⟩ (Val.mk 0 0 false ⟨#[]⟩ []) 0)).f1).s), .sl .ro 5 (encs ((((GInst.mk ⟨#[114, 101, 116]⟩ (Val.mk 0 0 false ⟨#[]⟩ []) 0)).f1).t)), .int .i64 (((GInst.mk ⟨#[114, 101, 116]⟩ (Val.mk 0 0 false ⟨#[]⟩ []) 0)).f2)]]) (rows2 := r_st_GInst (q4 ++ [(GInst.mk ⟨#[101, 109, 105, 116]⟩ (Val.mk 0 0 false ⟨#[]⟩ []) 1), (GInst.mk ⟨#[114, 101, 116]⟩ (Val.mk 0 0 false ⟨#[]⟩ []) 0)])) rfl rfl rfl rfl rfl rfl rfl rfl rfl (by simp) rfl rfl rfl ⟨⟨Wv.refl _, Wv.refl _, Wv.refl _, Wv.refl _, Wv.refl _, Wv.refl _, Wv.refl _, trivial⟩, ⟨Wv.refl _, Wv.refl _, Wv.refl _, Wv.refl _, Wv.refl _, Wv.refl _, Wv.refl _, trivial⟩, trivial⟩ (by simp [r_st_GInst, rowF]) (by rw [r_st_GInst_length, List.length_append]; exact h6) rfl ?_
  refine Av (.sl (.own 1) 7 (r_st_GInst (q4 ++ [(GInst.mk ⟨#[101, 109, 105, 116]⟩ (Val.mk 0 0 false ⟨#[]⟩ []) 1), (GInst.mk ⟨#[114, 101, 116]⟩ (Val.mk 0 0 false ⟨#[]⟩ []) 0)]))) rfl ?_
  refine AW.ret ?_
  obtain rfl := Option.some.inj hr
  exact RetN.w good (.inr rfl) rfl rfl (WvR.refl _) rfl
 ·replace hr := cnd_f h1 hr
  refine Rg ?_
  refine Av (.bool (a0.f0 == 5)) rfl ?_
  refine Av (.bool (a0.f0 == 5)) rfl ?_
  refine AW.if rfl (fun h7 => ?_) (fun h7 => ?_)
  ·replace hr := cnd_t h7 hr
   refine Rg ?_
   refine Av (.ptr 0 4) rfl ?_
   refine Av (.sl .ro 8 (enxs a0.f3)) rfl ?_
   obtain ⟨x8, h9, hr⟩ := bnd1 hr
   refine AL.ix good (d := 15) (r := [.str x8.op, .int .i64 x8.v.kind, .int .i64 x8.v.i, .bool x8.v.b, .str x8.v.s, .sl .ro 5 (encs x8.v.t), .int .i64 x8.n, .sl .ro 8 (enxs x8.a)]) rfl rfl rfl rfl rfl rfl rfl (by decide) (enxs_get h9) ?_
   refine Av (.agg [.str x8.op, .int .i64 x8.v.kind, .int .i64 x8.v.i, .bool x8.v.b, .str x8.v.s, .sl .ro 5 (encs x8.v.t), .int .i64 x8.n, .sl .ro 8 (enxs x8.a)]) rfl ?_
   obtain ⟨q10, h11, hr⟩ := bnd1 hr
   refine AL.clF good (d := 17) (xs := [.agg (exC x8)]) (ob := .row 94 7 (r_st_GInst q10).length) (res := .sl (.own 1) 7 (r_st_GInst q10)) rfl rfl rfl rfl rfl rfl rfl 1 rfl (w_f52 _ _ _ h11 1) ⟨(Wv.refl _), trivial⟩ rfl ColN.no ?_
   refine Av (.sl (.own 1) 7 (r_st_GInst q10)) rfl ?_
   refine AW.seq (Rg ?_)
   refine Av (.sl (.own 1) 7 (r_st_GInst q10)) rfl ?_
   refine Av (.int .i64 1) rfl ?_
   refine AL.cw good (d := 55) (xs := [.str ⟨#[101, 109, 105, 116]⟩, .int .i64 1]) (res := .agg [.str ⟨#[101, 109, 105, 116]⟩, .int .i64 0, .int .i64 0, .bool false, .str ⟨#[]⟩, .sl .ro 5 (encs []), .int .i64 1]) rfl rfl rfl rfl rfl rfl rfl (w_f86 ⟨#[101, 109, 105, 116]⟩ 1) ⟨(Wv.refl _), (Wv.refl _), trivial⟩ (by simp) ?_
   refine AL.cw good (d := 56) (xs := [.str ⟨#[114, 101, 116]⟩, .int .i64 0]) (res := .agg [.str ⟨#[114, 101, 116]⟩, .int .i64 0, .int .i64 0, .bool false, .str ⟨#[]⟩, .sl .ro 5 (encs []), .int .i64 0]) rfl rfl rfl rfl rfl rfl rfl (w_f86 ⟨#[114, 101, 116]⟩ 0) ⟨(Wv.refl _), (Wv.refl _), trivial⟩ (by simp) ?_
   refine AL.lit good (d := 57) (rows := [[.str ⟨#[101, 109, 105, 116]⟩, .int .i64 0, .int .i64 0, .bool false, .str ⟨#[]⟩, .sl .ro 5 (encs []), .int .i64 1], [.str ⟨#[114, 101, 116]⟩, .int .i64 0, .int .i64 0, .bool false, .str ⟨#[]⟩, .sl .ro 5 (encs []), .int .i64 0]]) rfl rfl rfl rfl rfl rfl rfl rfl rfl 2 rfl ?_
   obtain ⟨h12, hr⟩ := grd hr
   refine AL.aw2 good (d := 58) (rows := r_st_GInst q10) (news := [[.str (((GInst.mk ⟨#[101, 109, 105, 116]⟩ (Val.mk 0 0 false ⟨#[]⟩ []) 1)).f0), .int .i64 ((((GInst.mk ⟨#[101, 109, 105, 116]⟩ (Val.mk 0 0 false ⟨#[]⟩ []) 1)).f1).kind), .int .i64 ((((GInst.mk ⟨#[101, 109, 105, 116]⟩ (Val.mk 0 0 false ⟨#[]⟩ []) 1)).f1).i), .bool ((((GInst.mk ⟨#[101, 109, 105, 116]⟩ (Val.mk 0 0 false ⟨#[]⟩ []) 1)).f1).b), .str ((((GInst.mk ⟨#[101, 109, 105, 116]⟩ (Val.mk 0 0 false ⟨#[]⟩ []) 1)).f1).s), .sl .ro 5 (encs ((((GInst.mk ⟨#[101, 109, 105, 116]⟩ (Val.mk 0 0 false ⟨#[]⟩ []) 1)).f1).t)), .int .i64 (((GInst.mk ⟨#[101, 109, 105, 116]⟩ (Val.mk 0 0 false ⟨#[]⟩ []) 1)).f2)], [.str (((GInst.mk ⟨#[114, 101, 116]⟩ (Val.mk 0 0 false ⟨#[]⟩ []) 0)).f0), .int .i64 ((((GInst.mk ⟨#[114, 101, 116]⟩ (Val.mk 0 0 false ⟨#[]⟩ []) 0)).f1).kind), .int .i64 ((((GInst.mk ⟨#[114, 101, 116]⟩ (Val.mk 0 0 false ⟨#[]⟩ []) 0)).f1).i), .bool ((((GInst.mk ⟨#[114, 101, 116]⟩ (Val.mk 0 0 false ⟨#[]⟩ []) 0)).f1).b), .str ((((GInst.mk ⟨#[114, 101, 116]⟩ (Val.mk 0 0 false ⟨#[]⟩ []) 0)).f1).s), .sl .ro 5 (encs ((((GInst.mk ⟨#[114, 101, 116]⟩ (Val.mk 0 0 false ⟨#[]⟩ []) 0)).f1).t)), .int .i64 (((GInst.mk ⟨#[114, 101, 116]⟩ (Val.mk 0 0 false ⟨#[]⟩ []) 0)).f2)]]) (rows2 := r_st_GInst (q10 ++ [(GInst.mk ⟨#[101, 109, 105, 116]⟩ (Val.mk 0 0 false ⟨#[]⟩ []) 1), (GInst.mk ⟨#[114, 101, 116]⟩ (Val.mk 0 0 false ⟨#[]⟩ []) 0)])) rfl rfl rfl rfl rfl rfl rfl rfl rfl (by simp) rfl rfl rfl ⟨⟨Wv.refl _, Wv.refl _, Wv.refl _, Wv.refl _, Wv.refl _, Wv.refl _, Wv.refl _, trivial⟩, ⟨Wv.refl _, Wv.refl _, Wv.refl _, Wv.refl _, Wv.refl _, Wv.refl _, Wv.refl _, trivial⟩, trivial⟩ (by simp [r_st_GInst, rowF]) (by rw [r_st_GInst_length, List.length_append]; exact h12) rfl ?_
   refine Av (.sl (.own 1) 7 (r_st_GInst (q10 ++ [(GInst.mk ⟨#[101, 109, 105, 116]⟩ (Val.mk 0 0 false ⟨#[]⟩ []) 1), (GInst.mk ⟨#[114, 101, 116]⟩ (Val.mk 0 0 false ⟨#[]⟩ []) 0)]))) rfl ?_
   refine AW.ret ?_
   obtain rfl := Option.some.inj hr
   exact RetN.w good (.inr rfl) rfl rfl (WvR.refl _) rfl
  ·replace hr := cnd_f h7 hr
   refine AW.seq (Rg ?_)
   refine Av (.bool (a0.f0 == 3)) rfl ?_
   refine Av (.bool (a0.f0 == 3)) rfl ?_
   refine AW.if rfl (fun h13 => ?_) (fun h13 => ?_)
   ·replace hr := cnd_t h13 hr
    refine AW.seq (Rg ?_)
    refine Av (.ptr 0 4) rfl ?_
    refine Av (.sl .ro 8 (enxs a0.f3)) rfl ?_
    obtain ⟨x14, h15, hr⟩ := bnd1 hr
    refine AL.ix good (d := 22) (r := [.str x14.op, .int .i64 x14.v.kind, .int .i64 x14.v.i, .bool x14.v.b, .str x14.v.s, .sl .ro 5 (encs x14.v.t), .int .i64 x14.n, .sl .ro 8 (enxs x14.a)]) rfl rfl rfl rfl rfl rfl rfl (by decide) (enxs_get h15) ?_
    refine Av (.agg [.str x14.op, .int .i64 x14.v.kind, .int .i64 x14.v.i, .bool x14.v.b, .str x14.v.s, .sl .ro 5 (encs x14.v.t), .int .i64 x14.n, .sl .ro 8 (enxs x14.a)]) rfl ?_
    obtain ⟨q16, h17, hr⟩ := bnd1 hr
    refine AL.clF good (d := 24) (xs := [.agg (exC x14)]) (ob := .row 94 7 (r_st_GInst q16).length) (res := .sl (.own 1) 7 (r_st_GInst q16)) rfl rfl rfl rfl rfl rfl rfl 1 rfl (w_f52 _ _ _ h17 1) ⟨(Wv.refl _), trivial⟩ rfl ColN.no ?_
    refine Av (.sl (.own 1) 7 (r_st_GInst q16)) rfl ?_
    refine Rg ?_
    refine Av (.sl (.own 1) 7 (r_st_GInst q16)) rfl ?_
    refine Av (.sl (.own 1) 7 (r_st_GInst q16)) rfl ?_
    refine AL.ln good (d := 27) (m := q16.length) rfl rfl rfl rfl rfl rfl (r_st_GInst_length _) ?_
    refine Av (.int .i64 (IntKind.i64.wrap ((q16.length : Int) + 3))) rfl ?_
    refine AL.cw good (d := 29) (xs := [.str ⟨#[106, 102]⟩, .int .i64 (IntKind.i64.wrap ((q16.length : Int) + 3))]) (res := .agg [.str ⟨#[106, 102]⟩, .int .i64 0, .int .i64 0, .bool false, .str ⟨#[]⟩, .sl .ro 5 (encs []), .int .i64 (IntKind.i64.wrap ((q16.length : Int) + 3))]) rfl rfl rfl rfl rfl rfl rfl (w_f86 ⟨#[106, 102]⟩ (IntKind.i64.wrap ((q16.length : Int) + 3))) ⟨(Wv.refl _), (Wv.refl _), trivial⟩ (by simp) ?_
    refine AL.cw good (d := 30) (xs := [.str ⟨#[120]⟩, .int .i64 0]) (res := .agg [.str ⟨#[120]⟩, .int .i64 0, .int .i64 0, .bool false, .str ⟨#[]⟩, .sl .ro 5 (encs []), .int .i64 0]) rfl rfl rfl rfl rfl rfl rfl (w_f86 ⟨#[120]⟩ 0) ⟨(Wv.refl _), (Wv.refl _), trivial⟩ (by simp) ?_
    refine AL.lit good (d := 31) (rows := [[.str ⟨#[106, 102]⟩, .int .i64 0, .int .i64 0, .bool false, .str ⟨#[]⟩, .sl .ro 5 (encs []), .int .i64 (IntKind.i64.wrap ((q16.length : Int) + 3))], [.str ⟨#[120]⟩, .int .i64 0, .int .i64 0, .bool false, .str ⟨#[]⟩, .sl .ro 5 (encs []), .int .i64 0]]) rfl rfl rfl rfl rfl rfl rfl rfl rfl 2 rfl ?_
    obtain ⟨h18, hr⟩ := grd hr
    refine AL.aw2 good (d := 32) (rows := r_st_GInst q16) (news := [[.str (((GInst.mk ⟨#[106, 102]⟩ (Val.mk 0 0 false ⟨#[]⟩ []) (IntKind.i64.wrap ((q16.length : Int) + 3)))).f0), .int .i64 ((((GInst.mk ⟨#[106, 102]⟩ (Val.mk 0 0 false ⟨#[]⟩ []) (IntKind.i64.wrap ((q16.length : Int) + 3)))).f1).kind), .int .i64 ((((GInst.mk ⟨#[106, 102]⟩ (Val.mk 0 0 false ⟨#[]⟩ []) (IntKind.i64.wrap ((q16.length : Int) + 3)))).f1).i), .bool ((((GInst.mk ⟨#[106, 102]⟩ (Val.mk 0 0 false ⟨#[]⟩ []) (IntKind.i64.wrap ((q16.length : Int) + 3)))).f1).b), .str ((((GInst.mk ⟨#[106, 102]⟩ (Val.mk 0 0 false ⟨#[]⟩ []) (IntKind.i64.wrap ((q16.length : Int) + 3)))).f1).s), .sl .ro 5 (encs ((((GInst.mk ⟨#[106, 102]⟩ (Val.mk 0 0 false ⟨#[]⟩ []) (IntKind.i64.wrap ((q16.length : Int) + 3)))).f1).t)), .int .i64 (((GInst.mk ⟨#[106, 102]⟩ (Val.mk 0 0 false ⟨#[]⟩ []) (IntKind.i64.wrap ((q16.length : Int) + 3)))).f2)], [.str (((GInst.mk ⟨#[120]⟩ (Val.mk 0 0 false ⟨#[]⟩ []) 0)).f0), .int .i64 ((((GInst.mk ⟨#[120]⟩ (Val.mk 0 0 false ⟨#[]⟩ []) 0)).f1).kind), .int .i64 ((((GInst.mk ⟨#[120]⟩ (Val.mk 0 0 false ⟨#[]⟩ []) 0)).f1).i), .bool ((((GInst.mk ⟨#[120]⟩ (Val.mk 0 0 false ⟨#[]⟩ []) 0)).f1).b), .str ((((GInst.mk ⟨#[120]⟩ (Val.mk 0 0 false ⟨#[]⟩ []) 0)).f1).s), .sl .ro 5 (encs ((((GInst.mk ⟨#[120]⟩ (Val.mk 0 0 false ⟨#[]⟩ []) 0)).f1).t)), .int .i64 (((GInst.mk ⟨#[120]⟩ (Val.mk 0 0 false ⟨#[]⟩ []) 0)).f2)]]) (rows2 := r_st_GInst (q16 ++ [(GInst.mk ⟨#[106, 102]⟩ (Val.mk 0 0 false ⟨#[]⟩ []) (IntKind.i64.wrap ((q16.length : Int) + 3))), (GInst.mk ⟨#[120]⟩ (Val.mk 0 0 false ⟨#[]⟩ []) 0)])) rfl rfl rfl rfl rfl rfl rfl rfl rfl (by simp) rfl rfl rfl ⟨⟨Wv.refl _, Wv.refl _, Wv.refl _, Wv.refl _, Wv.refl _, Wv.refl _, Wv.refl _, trivial⟩, ⟨Wv.refl _, Wv.refl _, Wv.refl _, Wv.refl _, Wv.refl _, Wv.refl _, Wv.refl _, trivial⟩, trivial⟩ (by simp [r_st_GInst, rowF]) (by rw [r_st_GInst_length, List.length_append]; exact h18) rfl ?_
    refine Av (.sl (.own 1) 7 (r_st_GInst (q16 ++ [(GInst.mk ⟨#[106, 102]⟩ (Val.mk 0 0 false ⟨#[]⟩ []) (IntKind.i64.wrap ((q16.length : Int) + 3))), (GInst.mk ⟨#[120]⟩ (Val.mk 0 0 false ⟨#[]⟩ []) 0)]))) rfl ?_
    refine AW.seq (Rg ?_)
    refine Av (.sl (.own 1) 7 (r_st_GInst (q16 ++ [(GInst.mk ⟨#[106, 102]⟩ (Val.mk 0 0 false ⟨#[]⟩ []) (IntKind.i64.wrap ((q16.length : Int) + 3))), (GInst.mk ⟨#[120]⟩ (Val.mk 0 0 false ⟨#[]⟩ []) 0)]))) rfl ?_
    refine Av (.int .i64 1) rfl ?_
    refine AL.cw good (d := 55) (xs := [.str ⟨#[101, 109, 105, 116]⟩, .int .i64 1]) (res := .agg [.str ⟨#[101, 109, 105, 116]⟩, .int .i64 0, .int .i64 0, .bool false, .str ⟨#[]⟩, .sl .ro 5 (encs []), .int .i64 1]) rfl rfl rfl rfl rfl rfl rfl (w_f86 ⟨#[101, 109, 105, 116]⟩ 1) ⟨(Wv.refl _), (Wv.refl _), trivial⟩ (by simp) ?_
    refine AL.cw good (d := 56) (xs := [.str ⟨#[114, 101, 116]⟩, .int .i64 0]) (res := .agg [.str ⟨#[114, 101, 116]⟩, .int .i64 0, .int .i64 0, .bool false, .str ⟨#[]⟩, .sl .ro 5 (encs []), .int .i64 0]) rfl rfl rfl rfl rfl rfl rfl (w_f86 ⟨#[114, 101, 116]⟩ 0) ⟨(Wv.refl _), (Wv.refl _), trivial⟩ (by simp) ?_
    refine AL.lit good (d := 57) (rows := [[.str ⟨#[101, 109, 105, 116]⟩, .int .i64 0, .int .i64 0, .bool false, .str ⟨#[]⟩, .sl .ro 5 (encs []), .int .i64 1], [.str ⟨#[114, 101, 116]⟩, .int .i64 0, .int .i64 0, .bool false, .str ⟨#[]⟩, .sl .ro 5 (encs []), .int .i64 0]]) rfl rfl rfl rfl rfl rfl rfl rfl rfl 3 rfl ?_
    obtain ⟨h19, hr⟩ := grd hr
    refine AL.aw2 good (d := 58) (rows := r_st_GInst (q16 ++ [(GInst.mk ⟨#[106, 102]⟩ (Val.mk 0 0 false ⟨#[]⟩ []) (IntKind.i64.wrap ((q16.length : Int) + 3))), (GInst.mk ⟨#[120]⟩ (Val.mk 0 0 false ⟨#[]⟩ []) 0)])) (news := [[.str (((GInst.mk ⟨#[101, 109, 105, 116]⟩ (Val.mk 0 0 false ⟨#[]⟩ []) 1)).f0), .int .i64 ((((GInst.mk ⟨#[101, 109, 105, 116]⟩ (Val.mk 0 0 false ⟨#[]⟩ []) 1)).f1).kind), .int .i64 ((((GInst.mk ⟨#[101, 109, 105, 116]⟩ (Val.mk 0 0 false ⟨#[]⟩ []) 1)).f1).i), .bool ((((GInst.mk ⟨#[101, 109, 105, 116]⟩ (Val.mk 0 0 false ⟨#[]⟩ []) 1)).f1).b), .str ((((GInst.mk ⟨#[101, 109, 105, 116]⟩ (Val.mk 0 0 false ⟨#[]⟩ []) 1)).f1).s), .sl .ro 5 (encs ((((GInst.mk ⟨#[101, 109, 105, 116]⟩ (Val.mk 0 0 false ⟨#[]⟩ []) 1)).f1).t)), .int .i64 (((GInst.mk ⟨#[101, 109, 105, 116]⟩ (Val.mk 0 0 false ⟨#[]⟩ []) 1)).f2)], [.str (((GInst.mk ⟨#[114, 101, 116]⟩ (Val.mk 0 0 false ⟨#[]⟩ []) 0)).f0), .int .i64 ((((GInst.mk ⟨#[114, 101, 116]⟩ (Val.mk 0 0 false ⟨#[]⟩ []) 0)).f1).kind), .int .i64 ((((GInst.mk ⟨#[114, 101, 116]⟩ (Val.mk 0 0 false ⟨#[]⟩ []) 0)).f1).i), .bool ((((GInst.mk ⟨#[114, 101, 116]⟩ (Val.mk 0 0 false ⟨#[]⟩ []) 0)).f1).b), .str ((((GInst.mk ⟨#[114, 101, 116]⟩ (Val.mk 0 0 false ⟨#[]⟩ []) 0)).f1).s), .sl .ro 5 (encs ((((GInst.mk ⟨#[114, 101, 116]⟩ (Val.mk 0 0 false ⟨#[]⟩ []) 0)).f1).t)), .int .i64 (((GInst.mk ⟨#[114, 101, 116]⟩ (Val.mk 0 0 false ⟨#[]⟩ []) 0)).f2)]]) (rows2 := r_st_GInst ((q16 ++ [(GInst.mk ⟨#[106, 102]⟩ (Val.mk 0 0 false ⟨#[]⟩ []) (IntKind.i64.wrap ((q16.length : Int) + 3))), (GInst.mk ⟨#[120]⟩ (Val.mk 0 0 false ⟨#[]⟩ []) 0)]) ++ [(GInst.mk ⟨#[101, 109, 105, 116]⟩ (Val.mk 0 0 false ⟨#[]⟩ []) 1), (GInst.mk ⟨#[114, 101, 116]⟩ (Val.mk 0 0 false ⟨#[]⟩ []) 0)])) rfl rfl rfl rfl rfl rfl rfl rfl rfl (by simp) rfl rfl rfl ⟨⟨Wv.refl _, Wv.refl _, Wv.refl _, Wv.refl _, Wv.refl _, Wv.refl _, Wv.refl _, trivial⟩, ⟨Wv.refl _, Wv.refl _, Wv.refl _, Wv.refl _, Wv.refl _, Wv.refl _, Wv.refl _, trivial⟩, trivial⟩ (by simp [r_st_GInst, rowF]) (by rw [r_st_GInst_length, List.length_append]; exact h19) rfl ?_
    refine Av (.sl (.own 1) 7 (r_st_GInst ((q16 ++ [(GInst.mk ⟨#[106, 102]⟩ (Val.mk 0 0 false ⟨#[]⟩ []) (IntKind.i64.wrap ((q16.length : Int) + 3))), (GInst.mk ⟨#[120]⟩ (Val.mk 0 0 false ⟨#[]⟩ []) 0)]) ++ [(GInst.mk ⟨#[101, 109, 105, 116]⟩ (Val.mk 0 0 false ⟨#[]⟩ []) 1), (GInst.mk ⟨#[114, 101, 116]⟩ (Val.mk 0 0 false ⟨#[]⟩ []) 0)]))) rfl ?_
    refine AW.ret ?_
    obtain rfl := Option.some.inj hr
    exact RetN.w good (.inr rfl) rfl rfl (WvR.refl _) rfl
   ·replace hr := cnd_f h13 hr
    refine AW.seq (Rg ?_)
    refine Av (.bool (a0.f0 == 4)) rfl ?_
    refine Av (.bool (a0.f0 == 4)) rfl ?_
    refine AW.if rfl (fun h20 => ?_) (fun h20 => ?_)
    ·replace hr := cnd_t h20 hr
     refine AW.seq ?_
     refine AW.seq (Rg ?_)
     refine Av (.int .i64 0) rfl ?_
     refine AW.block ?_
     refine AW.adopt 3 rfl 1 7 94 rfl rfl ?_
     refine AW.lensB 0 rfl (fun hl29 => ?_)
     replace hl29 : a0.f3.length ≤ 9223372036854775807 := by rw [← enxs_length a0.f3]; exact hl29.2.2.2.2.1
     refine AW.lpw (fun x : Nat × (List GInst) × Nat => [(1, .ptr 0 0), (3, .sl (.own 1) 7 (r_st_GInst x.2.1)), (5, .int .i64 (x.2.2 : Int))]) (fun x => [(0, .box 46 [.int .i64 a0.f0, .str a0.f1, .int .i64 a0.f2.kind, .sl .ro 2 (enys a0.f2.of), .sl .ro 8 (enxs a0.f3), .str a0.f4.op, .int .i64 a0.f4.v.kind, .int .i64 a0.f4.v.i, .bool a0.f4.v.b, .str a0.f4.v.s, .sl .ro 5 (encs a0.f4.v.t), .int .i64 a0.f4.n, .sl .ro 8 (enxs a0.f4.a), .int .i64 a0.f5, .int .i64 a0.f6]), (1, .row 94 7 (r_st_GInst x.2.1).length)]) (fun x => s_f75_l1 x.1 a0 x.2.1 x.2.2 = some r ∧ x.1 ≤ n) (fun x => x.1) (n, [], 0) ⟨(fun _ h => by cases h), fmc ⟨⟨⟨_, rfl, Wv.refl _⟩, (by simp)⟩, fmc ⟨⟨⟨_, rfl, Wv.refl _⟩, (by simp)⟩, fmc ⟨⟨⟨_, rfl, Wv.refl _⟩, (by simp)⟩, (fun _ h => by cases h)⟩⟩⟩, fmc ⟨⟨⟨_, rfl, ⟨rfl, ⟨Wv.refl _, Wv.refl _, Wv.refl _, Wv.refl _, Wv.refl _, Wv.refl _, Wv.refl _, Wv.refl _, Wv.refl _, Wv.refl _, Wv.refl _, Wv.refl _, Wv.refl _, Wv.refl _, Wv.refl _, trivial⟩⟩⟩, (by simp)⟩, fmc ⟨⟨⟨_, rfl, ⟨rfl, rfl, rfl⟩⟩, (by simp)⟩, (fun _ h => by cases h)⟩⟩⟩ ⟨hr, Nat.le_refl _⟩ (fun ⟨m, v1_1, v1_2⟩ hx => ?_)
     obtain ⟨hr, hm⟩ := hx
     try dsimp only at hr hm
     cases m with
     | zero => rw [s_f75_l1] at hr; cases hr
     | succ m =>
      rw [s_f75_l1] at hr
      show AW Tryz.prog _ _ _ (mkS 59 [(1, .ptr 0 0), (3, .sl (.own 1) 7 (r_st_GInst v1_1)), (5, .int .i64 (v1_2 : Int))] [(0, .box 46 [.int .i64 a0.f0, .str a0.f1, .int .i64 a0.f2.kind, .sl .ro 2 (enys a0.f2.of), .sl .ro 8 (enxs a0.f3), .str a0.f4.op, .int .i64 a0.f4.v.kind, .int .i64 a0.f4.v.i, .bool a0.f4.v.b, .str a0.f4.v.s, .sl .ro 5 (encs a0.f4.v.t), .int .i64 a0.f4.n, .sl .ro 8 (enxs a0.f4.a), .int .i64 a0.f5, .int .i64 a0.f6]), (1, .row 94 7 (r_st_GInst v1_1).length)])
      refine AW.seq ?_
      refine AW.seq (Rg ?_)
      refine Av (.int .i64 (v1_2 : Int)) rfl ?_
      refine Av (.ptr 0 4) rfl ?_
      refine Av (.sl .ro 8 (enxs a0.f3)) rfl ?_
      refine AL.ln good (d := 38) (m := a0.f3.length) rfl rfl rfl rfl rfl rfl (enxs_length _) ?_
      refine Av (.bool (decide ((v1_2 : Int) < (a0.f3.length : Int)))) rfl ?_
      refine AW.if rfl (fun h30 => ?_) (fun h30 => ?_)
      ·replace hr := cnd_t h30 hr
       refine AW.skip ?_
       refine AW.seq ?_
       refine AW.block ?_
       refine Rg ?_
       refine Av (.sl (.own 1) 7 (r_st_GInst v1_1)) rfl ?_
       refine Av (.ptr 0 4) rfl ?_
       refine Av (.sl .ro 8 (enxs a0.f3)) rfl ?_
       refine Av (.int .i64 (v1_2 : Int)) rfl ?_
       obtain ⟨x31, h32, hr⟩ := bnd1 hr
       refine AL.ix good (d := 46) (r := [.str x31.op, .int .i64 x31.v.kind, .int .i64 x31.v.i, .bool x31.v.b, .str x31.v.s, .sl .ro 5 (encs x31.v.t), .int .i64 x31.n, .sl .ro 8 (enxs x31.a)]) rfl rfl rfl rfl rfl rfl rfl (Int.natCast_nonneg _) (enxs_get h32) ?_
       refine Av (.agg [.str x31.op, .int .i64 x31.v.kind, .int .i64 x31.v.i, .bool x31.v.b, .str x31.v.s, .sl .ro 5 (encs x31.v.t), .int .i64 x31.n, .sl .ro 8 (enxs x31.a)]) rfl ?_
       obtain ⟨q33, h34, hr⟩ := bnd1 hr
       refine AL.clF good (d := 48) (xs := [.agg (exC x31)]) (ob := .row 94 7 (r_st_GInst q33).length) (res := .sl (.own 2) 7 (r_st_GInst q33)) rfl rfl rfl rfl rfl rfl rfl 2 rfl (w_f52 _ _ _ h34 2) ⟨(Wv.refl _), trivial⟩ rfl ColN.no ?_
       obtain ⟨q35, h36, hr⟩ := bnd1 hr
       refine AL.clF good (d := 49) (xs := [.sl .ro 7 (r_st_GInst v1_1), .sl .ro 7 (r_st_GInst q33)]) (ob := .row 94 7 (r_st_GInst q35).length) (res := .sl (.own 3) 7 (r_st_GInst q35)) rfl rfl rfl rfl rfl rfl rfl 3 rfl (w_f89 _ _ _ _ h36 3) ⟨⟨.inr rfl, WvR.refl _, .inl rfl⟩, ⟨.inr rfl, WvR.refl _, .inl rfl⟩, trivial⟩ rfl ColN.no ?_
       refine Av (.sl (.own 3) 7 (r_st_GInst q35)) rfl ?_
       refine AW.ren 3 1 3 rfl rfl [(1, .ptr 0 0), (5, .int .i64 (v1_2 : Int))] [(0, .box 46 [.int .i64 a0.f0, .str a0.f1, .int .i64 a0.f2.kind, .sl .ro 2 (enys a0.f2.of), .sl .ro 8 (enxs a0.f3), .str a0.f4.op, .int .i64 a0.f4.v.kind, .int .i64 a0.f4.v.i, .bool a0.f4.v.b, .str a0.f4.v.s, .sl .ro 5 (encs a0.f4.v.t), .int .i64 a0.f4.n, .sl .ro 8 (enxs a0.f4.a), .int .i64 a0.f5, .int .i64 a0.f6])] (fmc ⟨⟨rfl, (by simp)⟩, fmc ⟨⟨rfl, (by simp)⟩, (fun _ h => by cases h)⟩⟩) (fmc ⟨⟨rfl, (by simp)⟩, (fun _ h => by cases h)⟩) rfl rfl (fun _ h => by cases h) (r_st_GInst_pure _ _) ?_
       refine Rg ?_
       refine Av (.int .i64 (v1_2 : Int)) rfl ?_
       refine Av (.int .i64 (IntKind.i64.wrap ((v1_2 : Int) + 1))) rfl ?_
       refine Av (.int .i64 (IntKind.i64.wrap ((v1_2 : Int) + 1))) rfl ?_
       exact ⟨(m, q35, (v1_2 + 1)), _, _, rfl, ⟨(fun _ h => by cases h), fmc ⟨⟨⟨_, rfl, Wv.refl _⟩, (by simp)⟩, fmc ⟨⟨⟨_, rfl, Wv.refl _⟩, (by simp)⟩, fmc ⟨⟨⟨_, rfl, (wnx h30 hl29)⟩, (by simp)⟩, (fun _ h => by cases h)⟩⟩⟩, fmc ⟨⟨⟨_, rfl, ⟨rfl, ⟨Wv.refl _, Wv.refl _, Wv.refl _, Wv.refl _, Wv.refl _, Wv.refl _, Wv.refl _, Wv.refl _, Wv.refl _, Wv.refl _, Wv.refl _, Wv.refl _, Wv.refl _, Wv.refl _, Wv.refl _, trivial⟩⟩⟩, (by simp)⟩, fmc ⟨⟨⟨_, rfl, ⟨rfl, rfl, rfl⟩⟩, (by simp)⟩, (fun _ h => by cases h)⟩⟩⟩, ⟨hr, Nat.le_of_succ_le hm⟩, Nat.lt_succ_self _⟩
      ·replace hr := cnd_f h30 hr
       refine AW.exit ?_
       refine Rg ?_
       refine Av (.ptr 0 4) rfl ?_
       refine Av (.sl .ro 8 (enxs a0.f3)) rfl ?_
       refine AL.ln good (d := 52) (m := a0.f3.length) rfl rfl rfl rfl rfl rfl (enxs_length _) ?_
       refine Av (.int .i64 (a0.f3.length : Int)) rfl ?_
       refine AW.seq (Rg ?_)
       refine Av (.sl (.own 1) 7 (r_st_GInst v1_1)) rfl ?_
       refine Av (.int .i64 (a0.f3.length : Int)) rfl ?_
       refine AL.cw good (d := 55) (xs := [.str ⟨#[101, 109, 105, 116]⟩, .int .i64 (a0.f3.length : Int)]) (res := .agg [.str ⟨#[101, 109, 105, 116]⟩, .int .i64 0, .int .i64 0, .bool false, .str ⟨#[]⟩, .sl .ro 5 (encs []), .int .i64 (a0.f3.length : Int)]) rfl rfl rfl rfl rfl rfl rfl (w_f86 ⟨#[101, 109, 105, 116]⟩ (a0.f3.length : Int)) ⟨(Wv.refl _), (Wv.refl _), trivial⟩ (by simp) ?_
       refine AL.cw good (d := 56) (xs := [.str ⟨#[114, 101, 116]⟩, .int .i64 0]) (res := .agg [.str ⟨#[114, 101, 116]⟩, .int .i64 0, .int .i64 0, .bool false, .str ⟨#[]⟩, .sl .ro 5 (encs []), .int .i64 0]) rfl rfl rfl rfl rfl rfl rfl (w_f86 ⟨#[114, 101, 116]⟩ 0) ⟨(Wv.refl _), (Wv.refl _), trivial⟩ (by simp) ?_
       refine AL.lit good (d := 57) (rows := [[.str ⟨#[101, 109, 105, 116]⟩, .int .i64 0, .int .i64 0, .bool false, .str ⟨#[]⟩, .sl .ro 5 (encs []), .int .i64 (a0.f3.length : Int)], [.str ⟨#[114, 101, 116]⟩, .int .i64 0, .int .i64 0, .bool false, .str ⟨#[]⟩, .sl .ro 5 (encs []), .int .i64 0]]) rfl rfl rfl rfl rfl rfl rfl rfl rfl 2 rfl ?_
       obtain ⟨h37, hr⟩ := grd hr
       refine AL.aw2 good (d := 58) (rows := r_st_GInst v1_1) (news := [[.str (((GInst.mk ⟨#[101, 109, 105, 116]⟩ (Val.mk 0 0 false ⟨#[]⟩ []) (a0.f3.length : Int))).f0), .int .i64 ((((GInst.mk ⟨#[101, 109, 105, 116]⟩ (Val.mk 0 0 false ⟨#[]⟩ []) (a0.f3.length : Int))).f1).kind), .int .i64 ((((GInst.mk ⟨#[101, 109, 105, 116]⟩ (Val.mk 0 0 false ⟨#[]⟩ []) (a0.f3.length : Int))).f1).i), .bool ((((GInst.mk ⟨#[101, 109, 105, 116]⟩ (Val.mk 0 0 false ⟨#[]⟩ []) (a0.f3.length : Int))).f1).b), .str ((((GInst.mk ⟨#[101, 109, 105, 116]⟩ (Val.mk 0 0 false ⟨#[]⟩ []) (a0.f3.length : Int))).f1).s), .sl .ro 5 (encs ((((GInst.mk ⟨#[101, 109, 105, 116]⟩ (Val.mk 0 0 false ⟨#[]⟩ []) (a0.f3.length : Int))).f1).t)), .int .i64 (((GInst.mk ⟨#[101, 109, 105, 116]⟩ (Val.mk 0 0 false ⟨#[]⟩ []) (a0.f3.length : Int))).f2)], [.str (((GInst.mk ⟨#[114, 101, 116]⟩ (Val.mk 0 0 false ⟨#[]⟩ []) 0)).f0), .int .i64 ((((GInst.mk ⟨#[114, 101, 116]⟩ (Val.mk 0 0 false ⟨#[]⟩ []) 0)).f1).kind), .int .i64 ((((GInst.mk ⟨#[114, 101, 116]⟩ (Val.mk 0 0 false ⟨#[]⟩ []) 0)).f1).i), .bool ((((GInst.mk ⟨#[114, 101, 116]⟩ (Val.mk 0 0 false ⟨#[]⟩ []) 0)).f1).b), .str ((((GInst.mk ⟨#[114, 101, 116]⟩ (Val.mk 0 0 false ⟨#[]⟩ []) 0)).f1).s), .sl .ro 5 (encs ((((GInst.mk ⟨#[114, 101, 116]⟩ (Val.mk 0 0 false ⟨#[]⟩ []) 0)).f1).t)), .int .i64 (((GInst.mk ⟨#[114, 101, 116]⟩ (Val.mk 0 0 false ⟨#[]⟩ []) 0)).f2)]]) (rows2 := r_st_GInst (v1_1 ++ [(GInst.mk ⟨#[101, 109, 105, 116]⟩ (Val.mk 0 0 false ⟨#[]⟩ []) (a0.f3.length : Int)), (GInst.mk ⟨#[114, 101, 116]⟩ (Val.mk 0 0 false ⟨#[]⟩ []) 0)])) rfl rfl rfl rfl rfl rfl rfl rfl rfl (by simp) rfl rfl rfl ⟨⟨Wv.refl _, Wv.refl _, Wv.refl _, Wv.refl _, Wv.refl _, Wv.refl _, Wv.refl _, trivial⟩, ⟨Wv.refl _, Wv.refl _, Wv.refl _, Wv.refl _, Wv.refl _, Wv.refl _, Wv.refl _, trivial⟩, trivial⟩ (by simp [r_st_GInst, rowF]) (by rw [r_st_GInst_length, List.length_append]; exact h37) rfl ?_
       refine Av (.sl (.own 1) 7 (r_st_GInst (v1_1 ++ [(GInst.mk ⟨#[101, 109, 105, 116]⟩ (Val.mk 0 0 false ⟨#[]⟩ []) (a0.f3.length : Int)), (GInst.mk ⟨#[114, 101, 116]⟩ (Val.mk 0 0 false ⟨#[]⟩ []) 0)]))) rfl ?_
       refine AW.ret ?_
       obtain rfl := Option.some.inj hr
       exact RetN.w good (.inr rfl) rfl rfl (WvR.refl _) rfl
    ·replace hr := cnd_f h20 hr
     refine Rg ?_
     refine AL.cw good (d := 8) (xs := [.str ⟨#[120]⟩, .int .i64 0]) (res := .agg [.str ⟨#[120]⟩, .int .i64 0, .int .i64 0, .bool false, .str ⟨#[]⟩, .sl .ro 5 (encs []), .int .i64 0]) rfl rfl rfl rfl rfl rfl rfl (w_f86 ⟨#[120]⟩ 0) ⟨(Wv.refl _), (Wv.refl _), trivial⟩ (by simp) ?_
     refine AL.lit good (d := 9) (rows := [[.str ⟨#[120]⟩, .int .i64 0, .int .i64 0, .bool false, .str ⟨#[]⟩, .sl .ro 5 (encs []), .int .i64 0]]) rfl rfl rfl rfl rfl rfl rfl rfl rfl 1 rfl ?_
     refine Av (.sl (.own 1) 7 [[.str ⟨#[120]⟩, .int .i64 0, .int .i64 0, .bool false, .str ⟨#[]⟩, .sl .ro 5 (encs []), .int .i64 0]]) rfl ?_
     refine AW.seq (Rg ?_)
     refine Av (.sl (.own 1) 7 [[.str ⟨#[120]⟩, .int .i64 0, .int .i64 0, .bool false, .str ⟨#[]⟩, .sl .ro 5 (encs []), .int .i64 0]]) rfl ?_
     refine Av (.int .i64 1) rfl ?_
     refine AL.cw good (d := 55) (xs := [.str ⟨#[101, 109, 105, 116]⟩, .int .i64 1]) (res := .agg [.str ⟨#[101, 109, 105, 116]⟩, .int .i64 0, .int .i64 0, .bool false, .str ⟨#[]⟩, .sl .ro 5 (encs []), .int .i64 1]) rfl rfl rfl rfl rfl rfl rfl (w_f86 ⟨#[101, 109, 105, 116]⟩ 1) ⟨(Wv.refl _), (Wv.refl _), trivial⟩ (by simp) ?_
     refine AL.cw good (d := 56) (xs := [.str ⟨#[114, 101, 116]⟩, .int .i64 0]) (res := .agg [.str ⟨#[114, 101, 116]⟩, .int .i64 0, .int .i64 0, .bool false, .str ⟨#[]⟩, .sl .ro 5 (encs []), .int .i64 0]) rfl rfl rfl rfl rfl rfl rfl (w_f86 ⟨#[114, 101, 116]⟩ 0) ⟨(Wv.refl _), (Wv.refl _), trivial⟩ (by simp) ?_
     refine AL.lit good (d := 57) (rows := [[.str ⟨#[101, 109, 105, 116]⟩, .int .i64 0, .int .i64 0, .bool false, .str ⟨#[]⟩, .sl .ro 5 (encs []), .int .i64 1], [.str ⟨#[114, 101, 116]⟩, .int .i64 0, .int .i64 0, .bool false, .str ⟨#[]⟩, .sl .ro 5 (encs []), .int .i64 0]]) rfl rfl rfl rfl rfl rfl rfl rfl rfl 2 rfl ?_
     obtain ⟨h38, hr⟩ := grd hr
     refine AL.aw2 good (d := 58) (rows := r_st_GInst [(GInst.mk ⟨#[120]⟩ (Val.mk 0 0 false ⟨#[]⟩ []) 0)]) (news := [[.str (((GInst.mk ⟨#[101, 109, 105, 116]⟩ (Val.mk 0 0 false ⟨#[]⟩ []) 1)).f0), .int .i64 ((((GInst.mk ⟨#[101, 109, 105, 116]⟩ (Val.mk 0 0 false ⟨#[]⟩ []) 1)).f1).kind), .int .i64 ((((GInst.mk ⟨#[101, 109, 105, 116]⟩ (Val.mk 0 0 false ⟨#[]⟩ []) 1)).f1).i), .bool ((((GInst.mk ⟨#[101, 109, 105, 116]⟩ (Val.mk 0 0 false ⟨#[]⟩ []) 1)).f1).b), .str ((((GInst.mk ⟨#[101, 109, 105, 116]⟩ (Val.mk 0 0 false ⟨#[]⟩ []) 1)).f1).s), .sl .ro 5 (encs ((((GInst.mk ⟨#[101, 109, 105, 116]⟩ (Val.mk 0 0 false ⟨#[]⟩ []) 1)).f1).t)), .int .i64 (((GInst.mk ⟨#[101, 109, 105, 116]⟩ (Val.mk 0 0 false ⟨#[]⟩ []) 1)).f2)], [.str (((GInst.mk ⟨#[114, 101, 116]⟩ (Val.mk 0 0 false ⟨#[]⟩ []) 0)).f0), .int .i64 ((((GInst.mk ⟨#[114, 101, 116]⟩ (Val.mk 0 0 false ⟨#[]⟩ []) 0)).f1).kind), .int .i64 ((((GInst.mk ⟨#[114, 101, 116]⟩ (Val.mk 0 0 false ⟨#[]⟩ []) 0)).f1).i), .bool ((((GInst.mk ⟨#[114, 101, 116]⟩ (Val.mk 0 0 false ⟨#[]⟩ []) 0)).f1).b), .str ((((GInst.mk ⟨#[114, 101, 116]⟩ (Val.mk 0 0 false ⟨#[]⟩ []) 0)).f1).s), .sl .ro 5 (encs ((((GInst.mk ⟨#[114, 101, 116]⟩ (Val.mk 0 0 false ⟨#[]⟩ []) 0)).f1).t)), .int .i64 (((GInst.mk ⟨#[114, 101, 116]⟩ (Val.mk 0 0 false ⟨#[]⟩ []) 0)).f2)]]) (rows2 := r_st_GInst ([(GInst.mk ⟨#[120]⟩ (Val.mk 0 0 false ⟨#[]⟩ []) 0)] ++ [(GInst.mk ⟨#[101, 109, 105, 116]⟩ (Val.mk 0 0 false ⟨#[]⟩ []) 1), (GInst.mk ⟨#[114, 101, 116]⟩ (Val.mk 0 0 false ⟨#[]⟩ []) 0)])) rfl rfl rfl rfl rfl rfl rfl rfl rfl (by simp) rfl rfl rfl ⟨⟨Wv.refl _, Wv.refl _, Wv.refl _, Wv.refl _, Wv.refl _, Wv.refl _, Wv.refl _, trivial⟩, ⟨Wv.refl _, Wv.refl _, Wv.refl _, Wv.refl _, Wv.refl _, Wv.refl _, Wv.refl _, trivial⟩, trivial⟩ (by simp [r_st_GInst, rowF]) (by rw [r_st_GInst_length, List.length_append]; exact h38) rfl ?_
     refine Av (.sl (.own 1) 7 (r_st_GInst ([(GInst.mk ⟨#[120]⟩ (Val.mk 0 0 false ⟨#[]⟩ []) 0)] ++ [(GInst.mk ⟨#[101, 109, 105, 116]⟩ (Val.mk 0 0 false ⟨#[]⟩ []) 1), (GInst.mk ⟨#[114, 101, 116]⟩ (Val.mk 0 0 false ⟨#[]⟩ []) 0)]))) rfl ?_
     refine AW.ret ?_
     obtain rfl := Option.some.inj hr
     exact RetN.w good (.inr rfl) rfl rfl (WvR.refl _) rfl

end
end Go.Proofs.YtbcjcekoonebiaaGreat.Tl

set_option linter.unusedVariables false
set_option linter.unusedSimpArgs false
namespace Go.Proofs.YtbcjcekoonebiaaGreat.Tl
open Go Go.RowKit
section
attribute [local simp] pureA pureL pureR inA inL inR inO idsIn encs_pure enxs_pure enys_pure valC_pure exC_pure tyC_pure r_int_u8_pure r_st_GInst_pure r_sl_st_GInst_pure r_st_GMiss_pure
theorem w_f1003 (a0 : GOp) : ACall Tryz.prog 11 [.agg [.int .i64 a0.f0, .str a0.f1, .int .i64 a0.f2.kind, .sl .ro 2 (enys a0.f2.of), .sl .ro 8 (enxs a0.f3), .str a0.f4.op, .int .i64 a0.f4.v.kind, .int .i64 a0.f4.v.i, .bool a0.f4.v.b, .str a0.f4.v.s, .sl .ro 5 (encs a0.f4.v.t), .int .i64 a0.f4.n, .sl .ro 8 (enxs a0.f4.a), .int .i64 a0.f5, .int .i64 a0.f6]] (.bool (((a0.f0 == 5) || (a0.f0 == 6)) || (a0.f0 == 7))) := by
 refine ACall.go [(0, .agg [.int .i64 a0.f0, .str a0.f1, .int .i64 a0.f2.kind, .sl .ro 2 (enys a0.f2.of), .sl .ro 8 (enxs a0.f3), .str a0.f4.op, .int .i64 a0.f4.v.kind, .int .i64 a0.f4.v.i, .bool a0.f4.v.b, .str a0.f4.v.s, .sl .ro 5 (encs a0.f4.v.t), .int .i64 a0.f4.n, .sl .ro 8 (enxs a0.f4.a), .int .i64 a0.f5, .int .i64 a0.f6])] Tryz.func11 rfl Tryz.ntmps11 rfl rfl (by simp) ?_
 refine AW.seq (Rg ?_)
 refine AL.bx good (d := 1) (l := [.int .i64 a0.f0, .str a0.f1, .int .i64 a0.f2.kind, .sl .ro 2 (enys a0.f2.of), .sl .ro 8 (enxs a0.f3), .str a0.f4.op, .int .i64 a0.f4.v.kind, .int .i64 a0.f4.v.i, .bool a0.f4.v.b, .str a0.f4.v.s, .sl .ro 5 (encs a0.f4.v.t), .int .i64 a0.f4.n, .sl .ro 8 (enxs a0.f4.a), .int .i64 a0.f5, .int .i64 a0.f6]) rfl rfl rfl rfl rfl rfl 0 rfl ?_
 refine Av (.bool false) rfl ?_
 refine AW.seq (Rg ?_)
 refine Av (.ptr 0 0) rfl ?_
 refine Av (.int .i64 a0.f0) rfl ?_
 refine Av (.bool (a0.f0 == 5)) rfl ?_
 refine AL.vb good (d := 6) (b := (a0.f0 == 5)) rfl rfl rfl rfl (fun g1 h2 => ?_)
 refine Gv ((!g1)) (.ptr 0 0) rfl (by cases g1 <;> exact ⟨rfl, fun h => by first | rfl | cases h⟩) ?_
 refine Gv ((!g1)) (.int .i64 a0.f0) rfl (by cases g1 <;> exact ⟨rfl, fun h => by first | rfl | cases h⟩) ?_
 refine Gv ((!g1)) (.bool (a0.f0 == 6)) rfl (by cases g1 <;> exact ⟨rfl, fun h => by first | rfl | cases h⟩) ?_
 refine AL.v good (d := 10) (v := .bool (g1 || (a0.f0 == 6))) (rd := []) rfl rfl rfl (by cases g1 <;> rfl) ?_
 refine AL.vb good (d := 11) (b := (g1 || (a0.f0 == 6))) rfl rfl rfl rfl (fun g3 h4 => ?_)
 refine Gv ((!g3)) (.ptr 0 0) rfl (by cases g3 <;> exact ⟨rfl, fun h => by first | rfl | cases h⟩) ?_
 refine Gv ((!g3)) (.int .i64 a0.f0) rfl (by cases g3 <;> exact ⟨rfl, fun h => by first | rfl | cases h⟩) ?_
 refine Gv ((!g3)) (.bool (a0.f0 == 7)) rfl (by cases g3 <;> exact ⟨rfl, fun h => by first | rfl | cases h⟩) ?_
 refine AL.v good (d := 15) (v := .bool (g3 || (a0.f0 == 7))) (rd := []) rfl rfl rfl (by cases g3 <;> rfl) ?_
 refine Av (.bool (g3 || (a0.f0 == 7))) rfl ?_
 subst h2 h4
 refine AW.ret ?_
 exact RetQ.w good (.inr rfl) rfl rfl (Wv.refl _) (by simp)


theorem w_f1012 (a0 : Ex) : ACall Tryz.prog 47 [.agg (exC a0)] (.bool ((((((((a0.op.data.toList == []) && (a0.v.kind == 0)) && (a0.v.i == 0)) && (!a0.v.b)) && (a0.v.s.data.toList == [])) && ((a0.v.t.length : Int) == 0)) && (a0.n == 0)) && ((a0.a.length : Int) == 0))) := by
 refine ACall.go [(0, .agg (exC a0))] Tryz.func47 rfl Tryz.ntmps47 rfl rfl (by simp) ?_
 refine AW.seq (Rg ?_)
 refine AL.bx good (d := 1) (l := [.str a0.op, .int .i64 a0.v.kind, .int .i64 a0.v.i, .bool a0.v.b, .str a0.v.s, .sl .ro 5 (encs a0.v.t), .int .i64 a0.n, .sl .ro 8 (enxs a0.a)]) rfl rfl rfl rfl rfl rfl 0 rfl ?_
 refine Av (.bool false) rfl ?_
 refine AW.seq (Rg ?_)
 refine Av (.ptr 0 0) rfl ?_
 refine Av (.str a0.op) rfl ?_
 refine AL.sb good (d := 5) (b := (a0.op.data.toList == [])) rfl rfl rfl rfl rfl rfl rfl ?_
 refine AL.vb good (d := 6) (b := (a0.op.data.toList == [])) rfl rfl rfl rfl (fun g1 h2 => ?_)
 refine Gv (g1) (.ptr 0 1) rfl (by cases g1 <;> exact ⟨rfl, fun h => by first | rfl | cases h⟩) ?_
 refine Gv (g1) (.ptr 0 1) rfl (by cases g1 <;> exact ⟨rfl, fun h => by first | rfl | cases h⟩) ?_
 refine Gv (g1) (.int .i64 a0.v.kind) rfl (by cases g1 <;> exact ⟨rfl, fun h => by first | rfl | cases h⟩) ?_
 refine Gv (g1) (.bool (a0.v.kind == 0)) rfl (by cases g1 <;> exact ⟨rfl, fun h => by first | rfl | cases h⟩) ?_
 refine AL.v good (d := 11) (v := .bool (g1 && (a0.v.kind == 0))) (rd := []) rfl rfl rfl (by cases g1 <;> rfl) ?_
 refine AL.vb good (d := 12) (b := (g1 && (a0.v.kind == 0))) rfl rfl rfl rfl (fun g3 h4 => ?_)
 refine Gv (g3) (.ptr 0 1) rfl (by cases g3 <;> exact ⟨rfl, fun h => by first | rfl | cases h⟩) ?_
 refine Gv (g3) (.ptr 0 2) rfl (by cases g3 <;> exact ⟨rfl, fun h => by first | rfl | cases h⟩) ?_
 refine Gv (g3) (.int .i64 a0.v.i) rfl (by cases g3 <;> exact ⟨rfl, fun h => by first | rfl | cases h⟩) ?_
 refine Gv (g3) (.bool (a0.v.i == 0)) rfl (by cases g3 <;> exact ⟨rfl, fun h => by first | rfl | cases h⟩) ?_
 refine AL.v good (d := 17) (v := .bool (g3 && (a0.v.i == 0))) (rd := []) rfl rfl rfl (by cases g3 <;> rfl) ?_
 refine AL.vb good (d := 18) (b := (g3 && (a0.v.i == 0))) rfl rfl rfl rfl (fun g5 h6 => ?_)
 refine Gv (g5) (.ptr 0 1) rfl (by cases g5 <;> exact ⟨rfl, fun h => by first | rfl | cases h⟩) ?_
 refine Gv (g5) (.ptr 0 3) rfl (by cases g5 <;> exact ⟨rfl, fun h => by first | rfl | cases h⟩) ?_
 refine Gv (g5) (.bool a0.v.b) rfl (by cases g5 <;> exact ⟨rfl, fun h => by first | rfl | cases h⟩) ?_
 refine Gv (g5) (.bool (!a0.v.b)) rfl (by cases g5 <;> exact ⟨rfl, fun h => by first | rfl | cases h⟩) ?_
 refine AL.v good (d := 23) (v := .bool (g5 && (!a0.v.b))) (rd := []) rfl rfl rfl (by cases g5 <;> rfl) ?_
 refine AL.vb good (d := 24) (b := (g5 && (!a0.v.b))) rfl rfl rfl rfl (fun g7 h8 => ?_)
 refine Gv (g7) (.ptr 0 1) rfl (by cases g7 <;> exact ⟨rfl, fun h => by first | rfl | cases h⟩) ?_
 refine Gv (g7) (.ptr 0 4) rfl (by cases g7 <;> exact ⟨rfl, fun h => by first | rfl | cases h⟩) ?_
 refine Gv (g7) (.str a0.v.s) rfl (by cases g7 <;> exact ⟨rfl, fun h => by first | rfl | cases h⟩) ?_
 refine AL.gsb good (d := 28) (c := g7) (b := (a0.v.s.data.toList == [])) rfl rfl (by cases g7 <;> rfl) rfl (fun h => by cases g7 <;> first | rfl | exact absurd h (by decide)) (fun h => by cases g7 <;> first | rfl | exact absurd h (by decide)) rfl ?_
 refine AL.v good (d := 29) (v := .bool (g7 && (a0.v.s.data.toList == []))) (rd := []) rfl rfl rfl (by cases g7 <;> rfl) ?_
 refine AL.vb good (d := 30) (b := (g7 && (a0.v.s.data.toList == []))) rfl rfl rfl rfl (fun g9 h10 => ?_)
 refine Gv (g9) (.ptr 0 1) rfl (by cases g9 <;> exact ⟨rfl, fun h => by first | rfl | cases h⟩) ?_
 refine Gv (g9) (.ptr 0 5) rfl (by cases g9 <;> exact ⟨rfl, fun h => by first | rfl | cases h⟩) ?_
 refine Gv (g9) (.sl .ro 5 (encs a0.v.t)) rfl (by cases g9 <;> exact ⟨rfl, fun h => by first | rfl | cases h⟩) ?_
 refine AL.gln good (d := 34) (c := g9) (m := a0.v.t.length) rfl rfl (by cases g9 <;> rfl) rfl rfl (fun h => by cases g9 <;> first | rfl | exact absurd h (by decide)) (encs_length _) ?_
 refine Gv (g9) (.bool ((a0.v.t.length : Int) == 0)) rfl (by cases g9 <;> exact ⟨rfl, fun h => by first | rfl | cases h⟩) ?_
 refine AL.v good (d := 36) (v := .bool (g9 && ((a0.v.t.length : Int) == 0))) (rd := []) rfl rfl rfl (by cases g9 <;> rfl) ?_
 refine AL.vb good (d := 37) (b := (g9 && ((a0.v.t.length : Int) == 0))) rfl rfl rfl rfl (fun g11 h12 => ?_)
 refine Gv (g11) (.ptr 0 6) rfl (by cases g11 <;> exact ⟨rfl, fun h => by first | rfl | cases h⟩) ?_
 refine Gv (g11) (.int .i64 a0.n) rfl (by cases g11 <;> exact ⟨rfl, fun h => by first | rfl | cases h⟩) ?_
 refine Gv (g11) (.bool (a0.n == 0)) rfl (by cases g11 <;> exact ⟨rfl, fun h => by first | rfl | cases h⟩) ?_
 refine AL.v good (d := 41) (v := .bool (g11 && (a0.n == 0))) (rd := []) rfl rfl rfl (by cases g11 <;> rfl) ?_
 refine AL.vb good (d := 42) (b := (g11 && (a0.n == 0))) rfl rfl rfl rfl (fun g13 h14 => ?_)
 refine Gv (g13) (.ptr 0 7) rfl (by cases g13 <;> exact ⟨rfl, fun h => by first | rfl | cases h⟩) ?_
 refine Gv (g13) (.sl .ro 8 (enxs a0.a)) rfl (by cases g13 <;> exact ⟨rfl, fun h => by first | rfl | cases h⟩) ?_
 refine AL.gln good (d := 45) (c := g13) (m := a0.a.length) rfl rfl (by cases g13 <;> rfl) rfl rfl (fun h => by cases g13 <;> first | rfl | exact absurd h (by decide)) (enxs_length _) ?_
 refine Gv (g13) (.bool ((a0.a.length : Int) == 0)) rfl (by cases g13 <;> exact ⟨rfl, fun h => by first | rfl | cases h⟩) ?_
 refine AL.v good (d := 47) (v := .bool (g13 && ((a0.a.length : Int) == 0))) (rd := []) rfl rfl rfl (by cases g13 <;> rfl) ?_
 refine Av (.bool (g13 && ((a0.a.length : Int) == 0))) rfl ?_
 subst h2 h4 h6 h8 h10 h12 h14
 refine AW.ret ?_
 exact RetQ.w good (.inr rfl) rfl rfl (Wv.refl _) (by simp)

mutual
def s_f1007_l1 : Nat → ByteArray → Int → Option Bool
  | 0, _, _ => none
  | n + 1, a0, v1_1 => (bif (decide (v1_1 < (a0.size : Int))) then (if 0 ≤ v1_1 then ((a0.data[v1_1.toNat]?).bind fun x51 => (bif (decide ((x51.toNat : Int) < 97)) then (if 0 ≤ v1_1 then ((a0.data[v1_1.toNat]?).bind fun x55 => (bif (decide ((x55.toNat : Int) < 48)) then (if 0 ≤ v1_1 then ((a0.data[v1_1.toNat]?).bind fun x59 => (bif ((x59.toNat : Int) != 95) then some false else (s_f1007_l1 n a0 (IntKind.i64.wrap (v1_1 + 1))))) else none) else (if 0 ≤ v1_1 then ((a0.data[v1_1.toNat]?).bind fun x63 => (bif (decide ((x63.toNat : Int) > 57)) then (if 0 ≤ v1_1 then ((a0.data[v1_1.toNat]?).bind fun x67 => (bif ((x67.toNat : Int) != 95) then some false else (s_f1007_l1 n a0 (IntKind.i64.wrap (v1_1 + 1))))) else none) else (s_f1007_l1 n a0 (IntKind.i64.wrap (v1_1 + 1))))) else none))) else none) else (if 0 ≤ v1_1 then ((a0.data[v1_1.toNat]?).bind fun x71 => (bif (decide ((x71.toNat : Int) > 122)) then (if 0 ≤ v1_1 then ((a0.data[v1_1.toNat]?).bind fun x75 => (bif (decide ((x75.toNat : Int) < 48)) then (if 0 ≤ v1_1 then ((a0.data[v1_1.toNat]?).bind fun x79 => (bif ((x79.toNat : Int) != 95) then some false else (s_f1007_l1 n a0 (IntKind.i64.wrap (v1_1 + 1))))) else none) else (if 0 ≤ v1_1 then ((a0.data[v1_1.toNat]?).bind fun x83 => (bif (decide ((x83.toNat : Int) > 57)) then (if 0 ≤ v1_1 then ((a0.data[v1_1.toNat]?).bind fun x87 => (bif ((x87.toNat : Int) != 95) then some false else (s_f1007_l1 n a0 (IntKind.i64.wrap (v1_1 + 1))))) else none) else (s_f1007_l1 n a0 (IntKind.i64.wrap (v1_1 + 1))))) else none))) else none) else (s_f1007_l1 n a0 (IntKind.i64.wrap (v1_1 + 1))))) else none))) else none) else some true)
end
def s_f1007 (n : Nat) (a0 : ByteArray) : Option Bool :=
  (bif (decide ((a0.size : Int) < 1)) then some false else (bif (decide ((a0.size : Int) > 16)) then some false else ((a0.data[0]?).bind fun x3 => (bif (decide ((x3.toNat : Int) < 97)) then some false else ((a0.data[0]?).bind fun x6 => (bif (decide ((x6.toNat : Int) > 122)) then some false else (s_f1007_l1 n a0 0)))))))

theorem w_f1007 (n : Nat) (a0 : ByteArray) (r : Bool) (hr : s_f1007 n a0 = some r) : ACall Tryz.prog 28 [.str a0] (.bool r) := by
 refine ACall.go [(0, .str a0)] Tryz.func28 rfl Tryz.ntmps28 rfl rfl (by simp) ?_
 rw [s_f1007] at hr
 refine AW.seq (Rg ?_)
 refine Av (.bool false) rfl ?_
 refine AW.seq ?_
 refine AW.seq (Rg ?_)
 refine Av (.str a0) rfl ?_
 refine Av (.int .i64 (a0.size : Int)) rfl ?_
 refine Av (.bool (decide ((a0.size : Int) < 1))) rfl ?_
 refine Av (.bool (decide ((a0.size : Int) < 1))) rfl ?_
 refine AL.cs 7 rfl (fun h1 => ?_) (fun h1 => ?_)
 ·replace hr := cnd_t h1 hr
  refine AL.sk good (d := 8) rfl rfl rfl ?_
  refine AL.sk good (d := 9) rfl rfl rfl ?_
  refine AL.sk good (d := 10) rfl rfl rfl ?_
  refine Av (.bool true) rfl ?_
  refine Av (.bool true) rfl ?_
  refine AL.sk good (d := 13) rfl rfl rfl ?_
  refine AL.sk good (d := 14) rfl rfl rfl ?_
  refine AL.sk good (d := 15) rfl rfl rfl ?_
  refine Av (.bool true) rfl ?_
  refine Av (.bool true) rfl ?_
  refine AL.sk good (d := 18) rfl rfl rfl ?_
  refine AL.sk good (d := 19) rfl rfl rfl ?_
  refine AL.sk good (d := 20) rfl rfl rfl ?_
  refine Av (.bool true) rfl ?_
  refine AW.if rfl (fun h => ?_) (fun h => by cases h)
  refine AW.seq (Rg ?_)
  refine Av (.bool false) rfl ?_
  refine AW.ret ?_
  obtain rfl := Option.some.inj hr
  exact RetQ.w good (.inr rfl) rfl rfl (Wv.refl _) (by simp)
 ·replace hr := cnd_f h1 hr
  refine Av (.str a0) rfl ?_
  refine Av (.int .i64 (a0.size : Int)) rfl ?_
  refine Av (.bool (decide ((a0.size : Int) > 16))) rfl ?_
  refine Av (.bool (decide ((a0.size : Int) > 16))) rfl ?_
  refine Av (.bool (decide ((a0.size : Int) > 16))) rfl ?_
  refine AL.cs 12 rfl (fun h2 => ?_) (fun h2 => ?_)
  ·replace hr := cnd_t h2 hr
   refine AL.sk good (d := 13) rfl rfl rfl ?_
   refine AL.sk good (d := 14) rfl rfl rfl ?_
   refine AL.sk good (d := 15) rfl rfl rfl ?_
   refine Av (.bool true) rfl ?_
   refine Av (.bool true) rfl ?_
   refine AL.sk good (d := 18) rfl rfl rfl ?_
   refine AL.sk good (d := 19) rfl rfl rfl ?_
   refine AL.sk good (d := 20) rfl rfl rfl ?_
   refine Av (.bool true) rfl ?_
   refine AW.if rfl (fun h => ?_) (fun h => by cases h)
   refine AW.seq (Rg ?_)
   refine Av (.bool false) rfl ?_
   refine AW.ret ?_
   obtain rfl := Option.some.inj hr
   exact RetQ.w good (.inr rfl) rfl rfl (Wv.refl _) (by simp)
  ·replace hr := cnd_f h2 hr
   refine Av (.str a0) rfl ?_
   obtain ⟨x3, h4, hr⟩ := bnd1 hr
   refine AL.sx good (d := 14) rfl rfl rfl rfl rfl rfl rfl (by decide) h4 ?_
   refine Av (.bool (decide ((x3.toNat : Int) < 97))) rfl ?_
   refine Av (.bool (decide ((x3.toNat : Int) < 97))) rfl ?_
   refine Av (.bool (decide ((x3.toNat : Int) < 97))) rfl ?_
   refine AL.cs 17 rfl (fun h5 => ?_) (fun h5 => ?_)
   ·replace hr := cnd_t h5 hr
    refine AL.sk good (d := 18) rfl rfl rfl ?_
    refine AL.sk good (d := 19) rfl rfl rfl ?_
    refine AL.sk good (d := 20) rfl rfl rfl ?_
    refine Av (.bool true) rfl ?_
    refine AW.if rfl (fun h => ?_) (fun h => by cases h)
    refine AW.seq (Rg ?_)
    refine Av (.bool false) rfl ?_
    refine AW.ret ?_
    obtain rfl := Option.some.inj hr
    exact RetQ.w good (.inr rfl) rfl rfl (Wv.refl _) (by simp)
   ·replace hr := cnd_f h5 hr
    refine Av (.str a0) rfl ?_
    obtain ⟨x6, h7, hr⟩ := bnd1 hr
    refine AL.sx good (d := 19) rfl rfl rfl rfl rfl rfl rfl (by decide) h7 ?_
    refine Av (.bool (decide ((x6.toNat : Int) > 122))) rfl ?_
    refine Av (.bool (decide ((x6.toNat : Int) > 122))) rfl ?_
    refine AW.if rfl (fun h8 => ?_) (fun h8 => ?_)
    ·replace hr := cnd_t h8 hr
     refine AW.seq (Rg ?_)
     refine Av (.bool false) rfl ?_
     refine AW.ret ?_
     obtain rfl := Option.some.inj hr
     exact RetQ.w good (.inr rfl) rfl rfl (Wv.refl _) (by simp)
    ·replace hr := cnd_f h8 hr
     refine AW.skip ?_
     refine AW.seq ?_
     refine AW.seq (Rg ?_)
     refine Av (.int .i64 0) rfl ?_
     refine AW.block ?_
     refine AW.lpw (fun x : Nat × Int => [(0, .str a0), (3, .int .i64 x.2)]) (fun x => []) (fun x => s_f1007_l1 x.1 a0 x.2 = some r ∧ x.1 ≤ n) (fun x => x.1) (n, 0) ⟨(fun _ h => by cases h), fmc ⟨⟨⟨_, rfl, Wv.refl _⟩, (by simp)⟩, fmc ⟨⟨⟨_, rfl, Wv.refl _⟩, (by simp)⟩, (fun _ h => by cases h)⟩⟩, (fun _ h => by cases h)⟩ ⟨hr, Nat.le_refl _⟩ (fun ⟨m, v1_1⟩ hx => ?_)
     obtain ⟨hr, hm⟩ := hx
     try dsimp only at hr hm
     cases m with
     | zero => rw [s_f1007_l1] at hr; cases hr
     | succ m =>
      rw [s_f1007_l1] at hr
      show AW Tryz.prog _ _ _ (mkS 56 [(0, .str a0), (3, .int .i64 v1_1)] [])
      refine AW.seq ?_
      refine AW.seq (Rg ?_)
      refine Av (.int .i64 v1_1) rfl ?_
      refine Av (.str a0) rfl ?_
      refine Av (.int .i64 (a0.size : Int)) rfl ?_
      refine Av (.bool (decide (v1_1 < (a0.size : Int)))) rfl ?_
      refine AW.if rfl (fun h50 => ?_) (fun h50 => ?_)
      ·replace hr := cnd_t h50 hr
       refine AW.skip ?_
       refine AW.seq ?_
       refine AW.block ?_
       refine AW.seq (Rg ?_)
       refine Av (.str a0) rfl ?_
       refine Av (.int .i64 v1_1) rfl ?_
       obtain ⟨h53, hr⟩ := grd hr
       obtain ⟨x51, h52, hr⟩ := bnd1 hr
       refine AL.sx good (d := 30) rfl rfl rfl rfl rfl rfl rfl h53 h52 ?_
       refine Av (.bool (decide ((x51.toNat : Int) < 97))) rfl ?_
       refine Av (.bool (decide ((x51.toNat : Int) < 97))) rfl ?_
       refine AL.cs 32 rfl (fun h54 => ?_) (fun h54 => ?_)
       ·replace hr := cnd_t h54 hr
        refine AL.sk good (d := 33) rfl rfl rfl ?_
        refine AL.sk good (d := 34) rfl rfl rfl ?_
        refine AL.sk good (d := 35) rfl rfl rfl ?_
        refine AL.sk good (d := 36) rfl rfl rfl ?_
        refine Av (.bool true) rfl ?_
        refine Av (.bool true) rfl ?_
        refine Av (.str a0) rfl ?_
        refine Av (.int .i64 v1_1) rfl ?_
        obtain ⟨h57, hr⟩ := grd hr
        obtain ⟨x55, h56, hr⟩ := bnd1 hr
        refine AL.sx good (d := 41) rfl rfl rfl rfl rfl rfl rfl h57 h56 ?_
        refine Av (.bool (decide ((x55.toNat : Int) < 48))) rfl ?_
        refine Av (.bool (decide ((x55.toNat : Int) < 48))) rfl ?_
        refine AL.cs 43 rfl (fun h58 => ?_) (fun h58 => ?_)
        ·replace hr := cnd_t h58 hr
         refine AL.sk good (d := 44) rfl rfl rfl ?_
         refine AL.sk good (d := 45) rfl rfl rfl ?_
         refine AL.sk good (d := 46) rfl rfl rfl ?_
         refine AL.sk good (d := 47) rfl rfl rfl ?_
         refine Av (.bool true) rfl ?_
         refine Av (.bool true) rfl ?_
         refine Av (.bool true) rfl ?_
         refine Av (.str a0) rfl ?_
         refine Av (.int .i64 v1_1) rfl ?_
         obtain ⟨h61, hr⟩ := grd hr
         obtain ⟨x59, h60, hr⟩ := bnd1 hr
         refine AL.sx good (d := 53) rfl rfl rfl rfl rfl rfl rfl h61 h60 ?_
         refine Av (.bool ((x59.toNat : Int) != 95)) rfl ?_
         refine Av (.bool ((x59.toNat : Int) != 95)) rfl ?_
         refine AW.if rfl (fun h62 => ?_) (fun h62 => ?_)
         ·replace hr := cnd_t h62 hr
          refine AW.seq (Rg ?_)
          refine Av (.bool false) rfl ?_
          refine AW.ret ?_
          obtain rfl := Option.some.inj hr
          exact RetQ.w good (.inr rfl) rfl rfl (Wv.refl _) (by simp)
         ·replace hr := cnd_f h62 hr
          refine AW.skip ?_
          refine Rg ?_
          refine Av (.int .i64 v1_1) rfl ?_
          refine Av (.int .i64 (IntKind.i64.wrap (v1_1 + 1))) rfl ?_
          refine Av (.int .i64 (IntKind.i64.wrap (v1_1 + 1))) rfl ?_
          exact ⟨(m, (IntKind.i64.wrap (v1_1 + 1))), _, _, rfl, ⟨(fun _ h => by cases h), fmc ⟨⟨⟨_, rfl, Wv.refl _⟩, (by simp)⟩, fmc ⟨⟨⟨_, rfl, Wv.refl _⟩, (by simp)⟩, (fun _ h => by cases h)⟩⟩, (fun _ h => by cases h)⟩, ⟨hr, Nat.le_of_succ_le hm⟩, Nat.lt_succ_self _⟩
        ·replace hr := cnd_f h58 hr
         refine Av (.str a0) rfl ?_
         refine Av (.int .i64 v1_1) rfl ?_
         obtain ⟨h65, hr⟩ := grd hr
         obtain ⟨x63, h64, hr⟩ := bnd1 hr
         refine AL.sx good (d := 46) rfl rfl rfl rfl rfl rfl rfl h65 h64 ?_
         refine Av (.bool (decide ((x63.toNat : Int) > 57))) rfl ?_
         refine Av (.bool (decide ((x63.toNat : Int) > 57))) rfl ?_
         refine Av (.bool (decide ((x63.toNat : Int) > 57))) rfl ?_
         refine Av (.bool (decide ((x63.toNat : Int) > 57))) rfl ?_
         refine AL.cs 50 rfl (fun h66 => ?_) (fun h66 => ?_)
         ·replace hr := cnd_t h66 hr
          refine Av (.str a0) rfl ?_
          refine Av (.int .i64 v1_1) rfl ?_
          obtain ⟨h69, hr⟩ := grd hr
          obtain ⟨x67, h68, hr⟩ := bnd1 hr
          refine AL.sx good (d := 53) rfl rfl rfl rfl rfl rfl rfl h69 h68 ?_
          refine Av (.bool ((x67.toNat : Int) != 95)) rfl ?_
          refine Av (.bool ((x67.toNat : Int) != 95)) rfl ?_
          refine AW.if rfl (fun h70 => ?_) (fun h70 => ?_)
          ·replace hr := cnd_t h70 hr
           refine AW.seq (Rg ?_)
           refine Av (.bool false) rfl ?_
           refine AW.ret ?_
           obtain rfl := Option.some.inj hr
           exact RetQ.w good (.inr rfl) rfl rfl (Wv.refl _) (by simp)
          ·replace hr := cnd_f h70 hr
           refine AW.skip ?_
           refine Rg ?_
           refine Av (.int .i64 v1_1) rfl ?_
           refine Av (.int .i64 (IntKind.i64.wrap (v1_1 + 1))) rfl ?_
           refine Av (.int .i64 (IntKind.i64.wrap (v1_1 + 1))) rfl ?_
           exact ⟨(m, (IntKind.i64.wrap (v1_1 + 1))), _, _, rfl, ⟨(fun _ h => by cases h), fmc ⟨⟨⟨_, rfl, Wv.refl _⟩, (by simp)⟩, fmc ⟨⟨⟨_, rfl, Wv.refl _⟩, (by simp)⟩, (fun _ h => by cases h)⟩⟩, (fun _ h => by cases h)⟩, ⟨hr, Nat.le_of_succ_le hm⟩, Nat.lt_succ_self _⟩
         ·replace hr := cnd_f h66 hr
          refine AL.sk good (d := 51) rfl rfl rfl ?_
          refine AL.sk good (d := 52) rfl rfl rfl ?_
          refine AL.sk good (d := 53) rfl rfl rfl ?_
          refine AL.sk good (d := 54) rfl rfl rfl ?_
          refine Av (.bool false) rfl ?_
          refine AW.if rfl (fun h => by cases h) (fun h => ?_)
          refine AW.skip ?_
          refine Rg ?_
          refine Av (.int .i64 v1_1) rfl ?_
          refine Av (.int .i64 (IntKind.i64.wrap (v1_1 + 1))) rfl ?_
          refine Av (.int .i64 (IntKind.i64.wrap (v1_1 + 1))) rfl ?_
          exact ⟨(m, (IntKind.i64.wrap (v1_1 + 1))), _, _, rfl, ⟨(fun _ h => by cases h), fmc ⟨⟨⟨_, rfl, Wv.refl _⟩, (by simp)⟩, fmc ⟨⟨⟨_, rfl, Wv.refl _⟩, (by simp)⟩, (fun _ h => by cases h)⟩⟩, (fun _ h => by cases h)⟩, ⟨hr, Nat.le_of_succ_le hm⟩, Nat.lt_succ_self _⟩
       ·replace hr := cnd_f h54 hr
        refine Av (.str a0) rfl ?_
        refine Av (.int .i64 v1_1) rfl ?_
        obtain ⟨h73, hr⟩ := grd hr
        obtain ⟨x71, h72, hr⟩ := bnd1 hr
        refine AL.sx good (d := 35) rfl rfl rfl rfl rfl rfl rfl h73 h72 ?_
        refine Av (.bool (decide ((x71.toNat : Int) > 122))) rfl ?_
        refine Av (.bool (decide ((x71.toNat : Int) > 122))) rfl ?_
        refine Av (.bool (decide ((x71.toNat : Int) > 122))) rfl ?_
        refine AL.cs 38 rfl (fun h74 => ?_) (fun h74 => ?_)
        ·replace hr := cnd_t h74 hr
         refine Av (.str a0) rfl ?_
         refine Av (.int .i64 v1_1) rfl ?_
         obtain ⟨h77, hr⟩ := grd hr
         obtain ⟨x75, h76, hr⟩ := bnd1 hr
         refine AL.sx good (d := 41) rfl rfl rfl rfl rfl rfl rfl h77 h76 ?_
         refine Av (.bool (decide ((x75.toNat : Int) < 48))) rfl ?_
         refine Av (.bool (decide ((x75.toNat : Int) < 48))) rfl ?_
         refine AL.cs 43 rfl (fun h78 => ?_) (fun h78 => ?_)
         ·replace hr := cnd_t h78 hr
          refine AL.sk good (d := 44) rfl rfl rfl ?_
          refine AL.sk good (d := 45) rfl rfl rfl ?_
          refine AL.sk good (d := 46) rfl rfl rfl ?_
          refine AL.sk good (d := 47) rfl rfl rfl ?_
          refine Av (.bool true) rfl ?_
          refine Av (.bool true) rfl ?_
          refine Av (.bool true) rfl ?_
          refine Av (.str a0) rfl ?_
          refine Av (.int .i64 v1_1) rfl ?_
          obtain ⟨h81, hr⟩ := grd hr
          obtain ⟨x79, h80, hr⟩ := bnd1 hr
          refine AL.sx good (d := 53) rfl rfl rfl rfl rfl rfl rfl h81 h80 ?_
          refine Av (.bool ((x79.toNat : Int) != 95)) rfl ?_
          refine Av (.bool ((x79.toNat : Int) != 95)) rfl ?_
          refine AW.if rfl (fun h82 => ?_) (fun h82 => ?_)
          ·replace hr := cnd_t h82 hr
           refine AW.seq (Rg ?_)
           refine Av (.bool false) rfl ?_
           refine AW.ret ?_
           obtain rfl := Option.some.inj hr
           exact RetQ.w good (.inr rfl) rfl rfl (Wv.refl _) (by simp)
          ·replace hr := cnd_f h82 hr
           refine AW.skip ?_
           refine Rg ?_
           refine Av (.int .i64 v1_1) rfl ?_
           refine Av (.int .i64 (IntKind.i64.wrap (v1_1 + 1))) rfl ?_
           refine Av (.int .i64 (IntKind.i64.wrap (v1_1 + 1))) rfl ?_
           exact ⟨(m, (IntKind.i64.wrap (v1_1 + 1))), _, _, rfl, ⟨(fun _ h => by cases h), fmc ⟨⟨⟨_, rfl, Wv.refl _⟩, (by simp)⟩, fmc ⟨⟨⟨_, rfl, Wv.refl _⟩, (by simp)⟩, (fun _ h => by cases h)⟩⟩, (fun _ h => by cases h)⟩, ⟨hr, Nat.le_of_succ_le hm⟩, Nat.lt_succ_self _⟩
         ·replace hr := cnd_f h78 hr
          refine Av (.str a0) rfl ?_
          refine Av (.int .i64 v1_1) rfl ?_
          obtain ⟨h85, hr⟩ := grd hr
          obtain ⟨x83, h84, hr⟩ := bnd1 hr
          refine AL.sx good (d := 46) rfl rfl rfl rfl rfl rfl rfl h85 h84 ?_
          refine Av (.bool (decide ((x83.toNat : Int) > 57))) rfl ?_
          refine Av (.bool (decide ((x83.toNat : Int) > 57))) rfl ?_
          refine Av (.bool (decide ((x83.toNat : Int) > 57))) rfl ?_
          refine Av (.bool (decide ((x83.toNat : Int) > 57))) rfl ?_
          refine AL.cs 50 rfl (fun h86 => ?_) (fun h86 => ?_)
          ·replace hr := cnd_t h86 hr
           refine Av (.str a0) rfl ?_
           refine Av (.int .i64 v1_1) rfl ?_
           obtain ⟨h89, hr⟩ := grd hr
           obtain ⟨x87, h88, hr⟩ := bnd1 hr
           refine AL.sx good (d := 53) rfl rfl rfl rfl rfl rfl rfl h89 h88 ?_
           refine Av (.bool ((x87.toNat : Int) != 95)) rfl ?_
           refine Av (.bool ((x87.toNat : Int) != 95)) rfl ?_
           refine AW.if rfl (fun h90 => ?_) (fun h90 => ?_)
           ·replace hr := cnd_t h90 hr
            refine AW.seq (Rg ?_)
            refine Av (.bool false) rfl ?_
            refine AW.ret ?_
            obtain rfl := Option.some.inj hr
            exact RetQ.w good (.inr rfl) rfl rfl (Wv.refl _) (by simp)
           ·replace hr := cnd_f h90 hr
            refine AW.skip ?_
            refine Rg ?_
            refine Av (.int .i64 v1_1) rfl ?_
            refine Av (.int .i64 (IntKind.i64.wrap (v1_1 + 1))) rfl ?_
            refine Av (.int .i64 (IntKind.i64.wrap (v1_1 + 1))) rfl ?_
            exact ⟨(m, (IntKind.i64.wrap (v1_1 + 1))), _, _, rfl, ⟨(fun _ h => by cases h), fmc ⟨⟨⟨_, rfl, Wv.refl _⟩, (by simp)⟩, fmc ⟨⟨⟨_, rfl, Wv.refl _⟩, (by simp)⟩, (fun _ h => by cases h)⟩⟩, (fun _ h => by cases h)⟩, ⟨hr, Nat.le_of_succ_le hm⟩, Nat.lt_succ_self _⟩
          ·replace hr := cnd_f h86 hr
           refine AL.sk good (d := 51) rfl rfl rfl ?_
           refine AL.sk good (d := 52) rfl rfl rfl ?_
           refine AL.sk good (d := 53) rfl rfl rfl ?_
           refine AL.sk good (d := 54) rfl rfl rfl ?_
           refine Av (.bool false) rfl ?_
           refine AW.if rfl (fun h => by cases h) (fun h => ?_)
           refine AW.skip ?_
           refine Rg ?_
           refine Av (.int .i64 v1_1) rfl ?_
           refine Av (.int .i64 (IntKind.i64.wrap (v1_1 + 1))) rfl ?_
           refine Av (.int .i64 (IntKind.i64.wrap (v1_1 + 1))) rfl ?_
           exact ⟨(m, (IntKind.i64.wrap (v1_1 + 1))), _, _, rfl, ⟨(fun _ h => by cases h), fmc ⟨⟨⟨_, rfl, Wv.refl _⟩, (by simp)⟩, fmc ⟨⟨⟨_, rfl, Wv.refl _⟩, (by simp)⟩, (fun _ h => by cases h)⟩⟩, (fun _ h => by cases h)⟩, ⟨hr, Nat.le_of_succ_le hm⟩, Nat.lt_succ_self _⟩
        ·replace hr := cnd_f h74 hr
         refine AL.sk good (d := 39) rfl rfl rfl ?_
         refine AL.sk good (d := 40) rfl rfl rfl ?_
         refine AL.sk good (d := 41) rfl rfl rfl ?_
         refine AL.sk good (d := 42) rfl rfl rfl ?_
         refine AL.sk good (d := 43) rfl rfl rfl ?_
         refine AL.sk good (d := 44) rfl rfl rfl ?_
         refine AL.sk good (d := 45) rfl rfl rfl ?_
         refine AL.sk good (d := 46) rfl rfl rfl ?_
         refine AL.sk good (d := 47) rfl rfl rfl ?_
         refine AL.sk good (d := 48) rfl rfl rfl ?_
         refine Av (.bool false) rfl ?_
         refine Av (.bool false) rfl ?_
         refine AL.sk good (d := 51) rfl rfl rfl ?_
         refine AL.sk good (d := 52) rfl rfl rfl ?_
         refine AL.sk good (d := 53) rfl rfl rfl ?_
         refine AL.sk good (d := 54) rfl rfl rfl ?_
         refine Av (.bool false) rfl ?_
         refine AW.if rfl (fun h => by cases h) (fun h => ?_)
         refine AW.skip ?_
         refine Rg ?_
         refine Av (.int .i64 v1_1) rfl ?_
         refine Av (.int .i64 (IntKind.i64.wrap (v1_1 + 1))) rfl ?_
         refine Av (.int .i64 (IntKind.i64.wrap (v1_1 + 1))) rfl ?_
         exact ⟨(m, (IntKind.i64.wrap (v1_1 + 1))), _, _, rfl, ⟨(fun _ h => by cases h), fmc ⟨⟨⟨_, rfl, Wv.refl _⟩, (by simp)⟩, fmc ⟨⟨⟨_, rfl, Wv.refl _⟩, (by simp)⟩, (fun _ h => by cases h)⟩⟩, (fun _ h => by cases h)⟩, ⟨hr, Nat.le_of_succ_le hm⟩, Nat.lt_succ_self _⟩
      ·replace hr := cnd_f h50 hr
       refine AW.exit ?_
       refine AW.seq (Rg ?_)
       refine Av (.bool true) rfl ?_
       refine AW.ret ?_
       obtain rfl := Option.some.inj hr
       exact RetQ.w good (.inr rfl) rfl rfl (Wv.refl _) (by simp)

mutual
def s_f1008_j1 : Nat → GOp → Int → Int → Option Bool
  | 0, _, _, _ => none
  | n + 1, a0, w1_1, w1_2 => (bif ((!((a0.f0 == 1) || (a0.f0 == 9))) && (a0.f1.data.toList != [])) then some true else (bif ((a0.f0 != 1) && ((a0.f2.kind != 0) || (decide ((a0.f2.of.length : Int) > 0)))) then some true else (bif ((decide ((a0.f3.length : Int) < w1_1)) || (decide ((a0.f3.length : Int) > w1_2))) then some true else (bif ((!(((a0.f0 == 5) || (a0.f0 == 6)) || (a0.f0 == 7))) && (!((((((((a0.f4.op.data.toList == []) && (a0.f4.v.kind == 0)) && (a0.f4.v.i == 0)) && (!a0.f4.v.b)) && (a0.f4.v.s.data.toList == [])) && ((a0.f4.v.t.length : Int) == 0)) && (a0.f4.n == 0)) && ((a0.f4.a.length : Int) == 0)))) then some true else (bif (((a0.f0 == 5) && ((decide (a0.f5 < 1)) || (decide (a0.f5 > 4)))) || ((a0.f0 != 5) && (a0.f5 != 0))) then some true else some (((a0.f0 == 6) && ((decide (a0.f6 < 1)) || (decide (a0.f6 > 1000)))) || ((a0.f0 != 6) && (a0.f6 != 0))))))))
end
def s_f1008 (n : Nat) (a0 : GOp) : Option Bool :=
  (bif (a0.f0 == 2) then (s_f1008_j1 n a0 1 1) else (bif (a0.f0 == 3) then (s_f1008_j1 n a0 1 1) else (bif (a0.f0 == 5) then (s_f1008_j1 n a0 1 1) else (bif (a0.f0 == 4) then (s_f1008_j1 n a0 1 4) else (s_f1008_j1 n a0 0 0)))))

theorem w_f1008 (n : Nat) (a0 : GOp) (r : Bool) (hr : s_f1008 n a0 = some r) : ACall Tryz.prog 29 [.agg [.int .i64 a0.f0, .str a0.f1, .int .i64 a0.f2.kind, .sl .ro 2 (enys a0.f2.of), .sl .ro 8 (enxs a0.f3), .str a0.f4.op, .int .i64 a0.f4.v.kind, .int .i64 a0.f4.v.i, .bool a0.f4.v.b, .str a0.f4.v.s, .sl .ro 5 (encs a0.f4.v.t), .int .i64 a0.f4.n, .sl .ro 8 (enxs a0.f4.a), .int .i64 a0.f5, .int .i64 a0.f6]] (.bool r) := by
 refine ACall.go [(0, .agg [.int .i64 a0.f0, .str a0.f1, .int .i64 a0.f2.kind, .sl .ro 2 (enys a0.f2.of), .sl .ro 8 (enxs a0.f3), .str a0.f4.op, .int .i64 a0.f4.v.kind, .int .i64 a0.f4.v.i, .bool a0.f4.v.b, .str a0.f4.v.s, .sl .ro 5 (encs a0.f4.v.t), .int .i64 a0.f4.n, .sl .ro 8 (enxs a0.f4.a), .int .i64 a0.f5, .int .i64 a0.f6])] Tryz.func29 rfl Tryz.ntmps29 rfl rfl (by simp) ?_
 rw [s_f1008] at hr
 refine AW.seq (Rg ?_)
 refine AL.bx good (d := 1) (l := [.int .i64 a0.f0, .str a0.f1, .int .i64 a0.f2.kind, .sl .ro 2 (enys a0.f2.of), .sl .ro 8 (enxs a0.f3), .str a0.f4.op, .int .i64 a0.f4.v.kind, .int .i64 a0.f4.v.i, .bool a0.f4.v.b, .str a0.f4.v.s, .sl .ro 5 (encs a0.f4.v.t), .int .i64 a0.f4.n, .sl .ro 8 (enxs a0.f4.a), .int .i64 a0.f5, .int .i64 a0.f6]) rfl rfl rfl rfl rfl rfl 0 rfl ?_
 refine Av (.bool false) rfl ?_
 refine AW.seq (Rg ?_)
 refine Av (.ptr 0 0) rfl ?_
 refine Av (.int .i64 a0.f0) rfl ?_
 refine Av (.bool (a0.f0 == 1)) rfl ?_
 refine AL.vb good (d := 9) (b := (a0.f0 == 1)) rfl rfl rfl rfl (fun g1 h2 => ?_)
 refine Gv ((!g1)) (.ptr 0 0) rfl (by cases g1 <;> exact ⟨rfl, fun h => by first | rfl | cases h⟩) ?_
 refine Gv ((!g1)) (.int .i64 a0.f0) rfl (by cases g1 <;> exact ⟨rfl, fun h => by first | rfl | cases h⟩) ?_
 refine Gv ((!g1)) (.bool (a0.f0 == 9)) rfl (by cases g1 <;> exact ⟨rfl, fun h => by first | rfl | cases h⟩) ?_
 refine AL.v good (d := 13) (v := .bool (g1 || (a0.f0 == 9))) (rd := []) rfl rfl rfl (by cases g1 <;> rfl) ?_
 refine Av (.bool (g1 || (a0.f0 == 9))) rfl ?_
 subst h2
 refine AW.seq (Rg ?_)
 refine Av (.int .i64 0) rfl ?_
 refine AW.seq (Rg ?_)
 refine Av (.int .i64 0) rfl ?_
 refine AW.sj (n := 117) (fun z : Nat × Int × Int => [(1, .ptr 0 0), (3, .bool ((a0.f0 == 1) || (a0.f0 == 9))), (4, .int .i64 z.2.1), (5, .int .i64 z.2.2)]) (fun z => [(0, .box 46 [.int .i64 a0.f0, .str a0.f1, .int .i64 a0.f2.kind, .sl .ro 2 (enys a0.f2.of), .sl .ro 8 (enxs a0.f3), .str a0.f4.op, .int .i64 a0.f4.v.kind, .int .i64 a0.f4.v.i, .bool a0.f4.v.b, .str a0.f4.v.s, .sl .ro 5 (encs a0.f4.v.t), .int .i64 a0.f4.n, .sl .ro 8 (enxs a0.f4.a), .int .i64 a0.f5, .int .i64 a0.f6])]) (fun z => s_f1008_j1 z.1 a0 z.2.1 z.2.2 = some r ∧ z.1 ≤ n) ?_ ?_
 ·skip
  refine AW.seq (Rg ?_)
  refine Av (.ptr 0 0) rfl ?_
  refine Av (.int .i64 a0.f0) rfl ?_
  refine AW.block ?_
  refine AW.seq ?_
  refine AW.seq (Rg ?_)
  refine Av (.bool (a0.f0 == 2)) rfl ?_
  refine Av (.bool (a0.f0 == 2)) rfl ?_
  refine AW.if rfl (fun h3 => ?_) (fun h3 => ?_)
  ·replace hr := cnd_t h3 hr
   refine AW.skip ?_
   refine AW.if rfl (fun h => ?_) (fun h => by cases h3.symm.trans h)
   refine AW.seq (Rg ?_)
   refine Av (.int .i64 1) rfl ?_
   refine Rg ?_
   refine Av (.int .i64 1) rfl ?_
   exact ⟨(n, 1, 1), _, _, rfl, ⟨(fun _ h => by cases h), fmc ⟨⟨⟨_, rfl, Wv.refl _⟩, (by simp)⟩, fmc ⟨⟨⟨_, rfl, Wv.refl _⟩, (by simp)⟩, fmc ⟨⟨⟨_, rfl, Wv.refl _⟩, (by simp)⟩, fmc ⟨⟨⟨_, rfl, Wv.refl _⟩, (by simp)⟩, (fun _ h => by cases h)⟩⟩⟩⟩, fmc ⟨⟨⟨_, rfl, ⟨rfl, ⟨Wv.refl _, Wv.refl _, Wv.refl _, Wv.refl _, Wv.refl _, Wv.refl _, Wv.refl _, Wv.refl _, Wv.refl _, Wv.refl _, Wv.refl _, Wv.refl _, Wv.refl _, Wv.refl _, Wv.refl _, trivial⟩⟩⟩, (by simp)⟩, (fun _ h => by cases h)⟩⟩, ⟨hr, by (try dsimp only); omega⟩⟩
  ·replace hr := cnd_f h3 hr
   refine AW.seq (Rg ?_)
   refine Av (.bool (a0.f0 == 3)) rfl ?_
   refine Av (.bool (a0.f0 == 3)) rfl ?_
   refine AW.if rfl (fun h4 => ?_) (fun h4 => ?_)
   ·replace hr := cnd_t h4 hr
    refine AW.skip ?_
    refine AW.if rfl (fun h => ?_) (fun h => by cases h4.symm.trans h)
    refine AW.seq (Rg ?_)
    refine Av (.int .i64 1) rfl ?_
    refine Rg ?_
    refine Av (.int .i64 1) rfl ?_
    exact ⟨(n, 1, 1), _, _, rfl, ⟨(fun _ h => by cases h), fmc ⟨⟨⟨_, rfl, Wv.refl _⟩, (by simp)⟩, fmc ⟨⟨⟨_, rfl, Wv.refl _⟩, (by simp)⟩, fmc ⟨⟨⟨_, rfl, Wv.refl _⟩, (by simp)⟩, fmc ⟨⟨⟨_, rfl, Wv.refl _⟩, (by simp)⟩, (fun _ h => by cases h)⟩⟩⟩⟩, fmc ⟨⟨⟨_, rfl, ⟨rfl, ⟨Wv.refl _, Wv.refl _, Wv.refl _, Wv.refl _, Wv.refl _, Wv.refl _, Wv.refl _, Wv.refl _, Wv.refl _, Wv.refl _, Wv.refl _, Wv.refl _, Wv.refl _, Wv.refl _, Wv.refl _, trivial⟩⟩⟩, (by simp)⟩, (fun _ h => by cases h)⟩⟩, ⟨hr, by (try dsimp only); omega⟩⟩
   ·replace hr := cnd_f h4 hr
    refine Rg ?_
    refine Av (.bool (a0.f0 == 5)) rfl ?_
    refine Av (.bool (a0.f0 == 5)) rfl ?_
    refine AW.if rfl (fun h5 => ?_) (fun h5 => ?_)
    ·replace hr := cnd_t h5 hr
     refine AW.seq (Rg ?_)
     refine Av (.int .i64 1) rfl ?_
     refine Rg ?_
     refine Av (.int .i64 1) rfl ?_
     exact ⟨(n, 1, 1), _, _, rfl, ⟨(fun _ h => by cases h), fmc ⟨⟨⟨_, rfl, Wv.refl _⟩, (by simp)⟩, fmc ⟨⟨⟨_, rfl, Wv.refl _⟩, (by simp)⟩, fmc ⟨⟨⟨_, rfl, Wv.refl _⟩, (by simp)⟩, fmc ⟨⟨⟨_, rfl, Wv.refl _⟩, (by simp)⟩, (fun _ h => by cases h)⟩⟩⟩⟩, fmc ⟨⟨⟨_, rfl, ⟨rfl, ⟨Wv.refl _, Wv.refl _, Wv.refl _, Wv.refl _, Wv.refl _, Wv.refl _, Wv.refl _, Wv.refl _, Wv.refl _, Wv.refl _, Wv.refl _, Wv.refl _, Wv.refl _, Wv.refl _, Wv.refl _, trivial⟩⟩⟩, (by simp)⟩, (fun _ h => by cases h)⟩⟩, ⟨hr, by (try dsimp only); omega⟩⟩
    ·replace hr := cnd_f h5 hr
     refine AW.seq (Rg ?_)
     refine Av (.bool (a0.f0 == 4)) rfl ?_
     refine Av (.bool (a0.f0 == 4)) rfl ?_
     refine AW.if rfl (fun h6 => ?_) (fun h6 => ?_)
     ·replace hr := cnd_t h6 hr
      refine AW.seq (Rg ?_)
      refine Av (.int .i64 1) rfl ?_
      refine Rg ?_
      refine Av (.int .i64 4) rfl ?_
      exact ⟨(n, 1, 4), _, _, rfl, ⟨(fun _ h => by cases h), fmc ⟨⟨⟨_, rfl, Wv.refl _⟩, (by simp)⟩, fmc ⟨⟨⟨_, rfl, Wv.refl _⟩, (by simp)⟩, fmc ⟨⟨⟨_, rfl, Wv.refl _⟩, (by simp)⟩, fmc ⟨⟨⟨_, rfl, Wv.refl _⟩, (by simp)⟩, (fun _ h => by cases h)⟩⟩⟩⟩, fmc ⟨⟨⟨_, rfl, ⟨rfl, ⟨Wv.refl _, Wv.refl _, Wv.refl _, Wv.refl _, Wv.refl _, Wv.refl _, Wv.refl _, Wv.refl _, Wv.refl _, Wv.refl _, Wv.refl _, Wv.refl _, Wv.refl _, Wv.refl _, Wv.refl _, trivial⟩⟩⟩, (by simp)⟩, (fun _ h => by cases h)⟩⟩, ⟨hr, by (try dsimp only); omega⟩⟩
     ·replace hr := cnd_f h6 hr
      refine AW.skip ?_
      exact ⟨(n, 0, 0), _, _, rfl, ⟨(fun _ h => by cases h), fmc ⟨⟨⟨_, rfl, Wv.refl _⟩, (by simp)⟩, fmc ⟨⟨⟨_, rfl, Wv.refl _⟩, (by simp)⟩, fmc ⟨⟨⟨_, rfl, Wv.refl _⟩, (by simp)⟩, fmc ⟨⟨⟨_, rfl, Wv.refl _⟩, (by simp)⟩, (fun _ h => by cases h)⟩⟩⟩⟩, fmc ⟨⟨⟨_, rfl, ⟨rfl, ⟨Wv.refl _, Wv.refl _, Wv.refl _, Wv.refl _, Wv.refl _, Wv.refl _, Wv.refl _, Wv.refl _, Wv.refl _, Wv.refl _, Wv.refl _, Wv.refl _, Wv.refl _, Wv.refl _, Wv.refl _, trivial⟩⟩⟩, (by simp)⟩, (fun _ h => by cases h)⟩⟩, ⟨hr, by (try dsimp only); omega⟩⟩
 ·rintro ⟨m, w1_1, w1_2⟩ ⟨hr, hm⟩
  try dsimp only at hr hm
  cases m with
  | zero => rw [s_f1008_j1] at hr; cases hr
  | succ m =>
   rw [s_f1008_j1] at hr
   show AW Tryz.prog _ _ _ (mkS 117 [(1, .ptr 0 0), (3, .bool ((a0.f0 == 1) || (a0.f0 == 9))), (4, .int .i64 w1_1), (5, .int .i64 w1_2)] [(0, .box 46 [.int .i64 a0.f0, .str a0.f1, .int .i64 a0.f2.kind, .sl .ro 2 (enys a0.f2.of), .sl .ro 8 (enxs a0.f3), .str a0.f4.op, .int .i64 a0.f4.v.kind, .int .i64 a0.f4.v.i, .bool a0.f4.v.b, .str a0.f4.v.s, .sl .ro 5 (encs a0.f4.v.t), .int .i64 a0.f4.n, .sl .ro 8 (enxs a0.f4.a), .int .i64 a0.f5, .int .i64 a0.f6])])
   refine AW.seq ?_
   refine AW.block ?_
   refine AW.seq (Rg ?_)
   refine Av (.bool ((a0.f0 == 1) || (a0.f0 == 9))) rfl ?_
   refine Av (.bool (!((a0.f0 == 1) || (a0.f0 == 9)))) rfl ?_
   refine AL.vb good (d := 25) (b := (!((a0.f0 == 1) || (a0.f0 == 9)))) rfl rfl rfl rfl (fun g7 h8 => ?_)
   refine Gv (g7) (.ptr 0 1) rfl (by cases g7 <;> exact ⟨rfl, fun h => by first | rfl | cases h⟩) ?_
   refine Gv (g7) (.str a0.f1) rfl (by cases g7 <;> exact ⟨rfl, fun h => by first | rfl | cases h⟩) ?_
   refine AL.gsb good (d := 28) (c := g7) (b := (a0.f1.data.toList != [])) rfl rfl (by cases g7 <;> rfl) rfl (fun h => by cases g7 <;> first | rfl | exact absurd h (by decide)) (fun h => by cases g7 <;> first | rfl | exact absurd h (by decide)) rfl ?_
   refine AL.v good (d := 29) (v := .bool (g7 && (a0.f1.data.toList != []))) (rd := []) rfl rfl rfl (by cases g7 <;> rfl) ?_
   refine Av (.bool (g7 && (a0.f1.data.toList != []))) rfl ?_
   subst h8
   refine AW.if rfl (fun h9 => ?_) (fun h9 => ?_)
   ·replace hr := cnd_t h9 hr
    refine AW.seq (Rg ?_)
    refine Av (.bool true) rfl ?_
    refine AW.ret ?_
    obtain rfl := Option.some.inj hr
    exact RetQ.w good (.inr rfl) rfl rfl (Wv.refl _) (by simp)
   ·replace hr := cnd_f h9 hr
    refine AW.seq (Rg ?_)
    refine Av (.ptr 0 0) rfl ?_
    refine Av (.int .i64 a0.f0) rfl ?_
    refine Av (.bool (a0.f0 != 1)) rfl ?_
    refine AL.vb good (d := 34) (b := (a0.f0 != 1)) rfl rfl rfl rfl (fun g10 h11 => ?_)
    refine Gv (g10) (.ptr 0 2) rfl (by cases g10 <;> exact ⟨rfl, fun h => by first | rfl | cases h⟩) ?_
    refine Gv (g10) (.ptr 0 2) rfl (by cases g10 <;> exact ⟨rfl, fun h => by first | rfl | cases h⟩) ?_
    refine Gv (g10) (.int .i64 a0.f2.kind) rfl (by cases g10 <;> exact ⟨rfl, fun h => by first | rfl | cases h⟩) ?_
    refine Gv (g10) (.bool (a0.f2.kind != 0)) rfl (by cases g10 <;> exact ⟨rfl, fun h => by first | rfl | cases h⟩) ?_
    refine AL.gvb good (d := 39) (c := g10) (r := (a0.f2.kind != 0)) (rd := []) rfl rfl (by cases g10 <;> rfl) (fun h => by cases g10 <;> first | rfl | exact absurd h (by decide)) (fun g12 h13 => ?_)
    refine Gv ((g10 && (!g12))) (.ptr 0 2) rfl (by cases g10 <;> cases g12 <;> exact ⟨rfl, fun h => by first | rfl | cases h⟩) ?_
    refine Gv ((g10 && (!g12))) (.ptr 0 3) rfl (by cases g10 <;> cases g12 <;> exact ⟨rfl, fun h => by first | rfl | cases h⟩) ?_
    refine Gv ((g10 && (!g12))) (.sl .ro 2 (enys a0.f2.of)) rfl (by cases g10 <;> cases g12 <;> exact ⟨rfl, fun h => by first | rfl | cases h⟩) ?_
    refine AL.gln good (d := 43) (c := (g10 && (!g12))) (m := a0.f2.of.length) rfl rfl (by cases g10 <;> cases g12 <;> rfl) rfl rfl (fun h => by cases g10 <;> cases g12 <;> first | rfl | exact absurd h (by decide)) (enys_length _) ?_
    refine Gv ((g10 && (!g12))) (.bool (decide ((a0.f2.of.length : Int) > 0))) rfl (by cases g10 <;> cases g12 <;> exact ⟨rfl, fun h => by first | rfl | cases h⟩) ?_
    refine Gv (g10) (.bool (g12 || (decide ((a0.f2.of.length : Int) > 0)))) rfl (by cases g10 <;> cases g12 <;> exact ⟨rfl, fun h => by first | rfl | cases h⟩) ?_
    refine AL.v good (d := 46) (v := .bool (g10 && (g12 || (decide ((a0.f2.of.length : Int) > 0))))) (rd := []) rfl rfl rfl (by cases g10 <;> rfl) ?_
    refine Av (.bool (g10 && (g12 || (decide ((a0.f2.of.length : Int) > 0))))) rfl ?_
    subst h11 h13
    refine AW.if rfl (fun h14 => ?_) (fun h14 => ?_)
    ·replace hr := cnd_t h14 hr
     refine AW.seq (Rg ?_)
     refine Av (.bool true) rfl ?_
     refine AW.ret ?_
     obtain rfl := Option.some.inj hr
     exact RetQ.w good (.inr rfl) rfl rfl (Wv.refl _) (by simp)
    ·replace hr := cnd_f h14 hr
     refine AW.seq (Rg ?_)
     refine Av (.ptr 0 4) rfl ?_
     refine Av (.sl .ro 8 (enxs a0.f3)) rfl ?_
     refine AL.ln good (d := 50) (m := a0.f3.length) rfl rfl rfl rfl rfl rfl (enxs_length _) ?_
     refine Av (.int .i64 w1_1) rfl ?_
     refine Av (.bool (decide ((a0.f3.length : Int) < w1_1))) rfl ?_
     refine AL.vb good (d := 53) (b := (decide ((a0.f3.length : Int) < w1_1))) rfl rfl rfl rfl (fun g15 h16 => ?_)
     refine Gv ((!g15)) (.ptr 0 4) rfl (by cases g15 <;> exact ⟨rfl, fun h => by first | rfl | cases h⟩) ?_
     refine Gv ((!g15)) (.sl .ro 8 (enxs a0.f3)) rfl (by cases g15 <;> exact ⟨rfl, fun h => by first | rfl | cases h⟩) ?_
     refine AL.gln good (d := 56) (c := (!g15)) (m := a0.f3.length) rfl rfl (by cases g15 <;> rfl) rfl rfl (fun h => by cases g15 <;> first | rfl | exact absurd h (by decide)) (enxs_length _) ?_
     refine Gv ((!g15)) (.int .i64 w1_2) rfl (by cases g15 <;> exact ⟨rfl, fun h => by first | rfl | cases h⟩) ?_
     refine Gv ((!g15)) (.bool (decide ((a0.f3.length : Int) > w1_2))) rfl (by cases g15 <;> exact ⟨rfl, fun h => by first | rfl | cases h⟩) ?_
     refine AL.v good (d := 59) (v := .bool (g15 || (decide ((a0.f3.length : Int) > w1_2)))) (rd := []) rfl rfl rfl (by cases g15 <;> rfl) ?_
     refine Av (.bool (g15 || (decide ((a0.f3.length : Int) > w1_2)))) rfl ?_
     subst h16
     refine AW.if rfl (fun h17 => ?_) (fun h17 => ?_)
     ·replace hr := cnd_t h17 hr
      refine AW.seq (Rg ?_)
      refine Av (.bool true) rfl ?_
      refine AW.ret ?_
      obtain rfl := Option.some.inj hr
      exact RetQ.w good (.inr rfl) rfl rfl (Wv.refl _) (by simp)
     ·replace hr := cnd_f h17 hr
      refine AW.seq (Rg ?_)
      refine Av (.agg [.int .i64 a0.f0, .str a0.f1, .int .i64 a0.f2.kind, .sl .ro 2 (enys a0.f2.of), .sl .ro 8 (enxs a0.f3), .str a0.f4.op, .int .i64 a0.f4.v.kind, .int .i64 a0.f4.v.i, .bool a0.f4.v.b, .str a0.f4.v.s, .sl .ro 5 (encs a0.f4.v.t), .int .i64 a0.f4.n, .sl .ro 8 (enxs a0.f4.a), .int .i64 a0.f5, .int .i64 a0.f6]) rfl ?_
      refine AL.cw good (d := 62) (xs := [.agg [.int .i64 a0.f0, .str a0.f1, .int .i64 a0.f2.kind, .sl .ro 2 (enys a0.f2.of), .sl .ro 8 (enxs a0.f3), .str a0.f4.op, .int .i64 a0.f4.v.kind, .int .i64 a0.f4.v.i, .bool a0.f4.v.b, .str a0.f4.v.s, .sl .ro 5 (encs a0.f4.v.t), .int .i64 a0.f4.n, .sl .ro 8 (enxs a0.f4.a), .int .i64 a0.f5, .int .i64 a0.f6]]) (res := .bool (((a0.f0 == 5) || (a0.f0 == 6)) || (a0.f0 == 7))) rfl rfl rfl rfl rfl rfl rfl (w_f1003 a0) ⟨(Wv.refl _), trivial⟩ (by simp) ?_
      refine Av (.bool (!(((a0.f0 == 5) || (a0.f0 == 6)) || (a0.f0 == 7)))) rfl ?_
      refine AL.vb good (d := 64) (b := (!(((a0.f0 == 5) || (a0.f0 == 6)) || (a0.f0 == 7)))) rfl rfl rfl rfl (fun g18 h19 => ?_)
      refine Gv (g18) (.ptr 0 5) rfl (by cases g18 <;> exact ⟨rfl, fun h => by first | rfl | cases h⟩) ?_
      refine Gv (g18) (.agg [.str a0.f4.op, .int .i64 a0.f4.v.kind, .int .i64 a0.f4.v.i, .bool a0.f4.v.b, .str a0.f4.v.s, .sl .ro 5 (encs a0.f4.v.t), .int .i64 a0.f4.n, .sl .ro 8 (enxs a0.f4.a)]) rfl (by cases g18 <;> exact ⟨rfl, fun h => by first | rfl | cases h⟩) ?_
      refine AL.gcw good (d := 67) (c := g18) (aw := [.agg [.str a0.f4.op, .int .i64 a0.f4.v.kind, .int .i64 a0.f4.v.i, .bool a0.f4.v.b, .str a0.f4.v.s, .sl .ro 5 (encs a0.f4.v.t), .int .i64 a0.f4.n, .sl .ro 8 (enxs a0.f4.a)]]) (xs := [.agg (exC a0.f4)]) (res := .bool ((((((((a0.f4.op.data.toList == []) && (a0.f4.v.kind == 0)) && (a0.f4.v.i == 0)) && (!a0.f4.v.b)) && (a0.f4.v.s.data.toList == [])) && ((a0.f4.v.t.length : Int) == 0)) && (a0.f4.n == 0)) && ((a0.f4.a.length : Int) == 0))) rfl rfl (by cases g18 <;> rfl) rfl rfl rfl (fun h => by cases g18 <;> first | rfl | exact absurd h (by decide)) (w_f1012 a0.f4) ⟨(Wv.refl _), trivial⟩ (by simp) ?_
      refine Gv (g18) (.bool (!((((((((a0.f4.op.data.toList == []) && (a0.f4.v.kind == 0)) && (a0.f4.v.i == 0)) && (!a0.f4.v.b)) && (a0.f4.v.s.data.toList == [])) && ((a0.f4.v.t.length : Int) == 0)) && (a0.f4.n == 0)) && ((a0.f4.a.length : Int) == 0)))) rfl (by cases g18 <;> exact ⟨rfl, fun h => by first | rfl | cases h⟩) ?_
      refine AL.v good (d := 69) (v := .bool (g18 && (!((((((((a0.f4.op.data.toList == []) && (a0.f4.v.kind == 0)) && (a0.f4.v.i == 0)) && (!a0.f4.v.b)) && (a0.f4.v.s.data.toList == [])) && ((a0.f4.v.t.length : Int) == 0)) && (a0.f4.n == 0)) && ((a0.f4.a.length : Int) == 0))))) (rd := []) rfl rfl rfl (by cases g18 <;> rfl) ?_
      refine Av (.bool (g18 && (!((((((((a0.f4.op.data.toList == []) && (a0.f4.v.kind == 0)) && (a0.f4.v.i == 0)) && (!a0.f4.v.b)) && (a0.f4.v.s.data.toList == [])) && ((a0.f4.v.t.length : Int) == 0)) && (a0.f4.n == 0)) && ((a0.f4.a.length : Int) == 0))))) rfl ?_
      subst h19
      refine AW.if rfl (fun h20 => ?_) (fun h20 => ?_)
      ·replace hr := cnd_t h20 hr
       refine AW.seq (Rg ?_)
       refine Av (.bool true) rfl ?_
       refine AW.ret ?_
       obtain rfl := Option.some.inj hr
       exact RetQ.w good (.inr rfl) rfl rfl (Wv.refl _) (by simp)
      ·replace hr := cnd_f h20 hr
       refine AW.seq (Rg ?_)
       refine Av (.ptr 0 0) rfl ?_
       refine Av (.int .i64 a0.f0) rfl ?_
       refine Av (.bool (a0.f0 == 5)) rfl ?_
       refine AL.vb good (d := 74) (b := (a0.f0 == 5)) rfl rfl rfl rfl (fun g21 h22 => ?_)
       refine Gv (g21) (.ptr 0 13) rfl (by cases g21 <;> exact ⟨rfl, fun h => by first | rfl | cases h⟩) ?_
       refine Gv (g21) (.int .i64 a0.f5) rfl (by cases g21 <;> exact ⟨rfl, fun h => by first | rfl | cases h⟩) ?_
       refine Gv (g21) (.bool (decide (a0.f5 < 1))) rfl (by cases g21 <;> exact ⟨rfl, fun h => by first | rfl | cases h⟩) ?_
       refine AL.gvb good (d := 78) (c := g21) (r := (decide (a0.f5 < 1))) (rd := []) rfl rfl (by cases g21 <;> rfl) (fun h => by cases g21 <;> first | rfl | exact absurd h (by decide)) (fun g23 h24 => ?_)
       refine Gv ((g21 && (!g23))) (.ptr 0 13) rfl (by cases g21 <;> cases g23 <;> exact ⟨rfl, fun h => by first | rfl | cases h⟩) ?_
       refine Gv ((g21 && (!g23))) (.int .i64 a0.f5) rfl (by cases g21 <;> cases g23 <;> exact ⟨rfl, fun h => by first | rfl | cases h⟩) ?_
       refine Gv ((g21 && (!g23))) (.bool (decide (a0.f5 > 4))) rfl (by cases g21 <;> cases g23 <;> exact ⟨rfl, fun h => by first | rfl | cases h⟩) ?_
       refine Gv (g21) (.bool (g23 || (decide (a0.f5 > 4)))) rfl (by cases g21 <;> cases g23 <;> exact ⟨rfl, fun h => by first | rfl | cases h⟩) ?_
       refine AL.v good (d := 83) (v := .bool (g21 && (g23 || (decide (a0.f5 > 4))))) (rd := []) rfl rfl rfl (by cases g21 <;> rfl) ?_
       refine AL.vb good (d := 84) (b := (g21 && (g23 || (decide (a0.f5 > 4))))) rfl rfl rfl rfl (fun g25 h26 => ?_)
       refine Gv ((!g25)) (.ptr 0 0) rfl (by cases g25 <;> exact ⟨rfl, fun h => by first | rfl | cases h⟩) ?_
       refine Gv ((!g25)) (.int .i64 a0.f0) rfl (by cases g25 <;> exact ⟨rfl, fun h => by first | rfl | cases h⟩) ?_
       refine Gv ((!g25)) (.bool (a0.f0 != 5)) rfl (by cases g25 <;> exact ⟨rfl, fun h => by first | rfl | cases h⟩) ?_
       refine AL.gvb good (d := 88) (c := (!g25)) (r := (a0.f0 != 5)) (rd := []) rfl rfl (by cases g25 <;> rfl) (fun h => by cases g25 <;> first | rfl | exact absurd h (by decide)) (fun g27 h28 => ?_)
       refine Gv (((!g25) && g27)) (.ptr 0 13) rfl (by cases g25 <;> cases g27 <;> exact ⟨rfl, fun h => by first | rfl | cases h⟩) ?_
       refine Gv (((!g25) && g27)) (.int .i64 a0.f5) rfl (by cases g25 <;> cases g27 <;> exact ⟨rfl, fun h => by first | rfl | cases h⟩) ?_
       refine Gv (((!g25) && g27)) (.bool (a0.f5 != 0)) rfl (by cases g25 <;> cases g27 <;> exact ⟨rfl, fun h => by first | rfl | cases h⟩) ?_
       refine Gv ((!g25)) (.bool (g27 && (a0.f5 != 0))) rfl (by cases g25 <;> cases g27 <;> exact ⟨rfl, fun h => by first | rfl | cases h⟩) ?_
       refine AL.v good (d := 93) (v := .bool (g25 || (g27 && (a0.f5 != 0)))) (rd := []) rfl rfl rfl (by cases g25 <;> rfl) ?_
       refine Av (.bool (g25 || (g27 && (a0.f5 != 0)))) rfl ?_
       subst h22 h24 h26 h28
       refine AW.if rfl (fun h29 => ?_) (fun h29 => ?_)
       ·replace hr := cnd_t h29 hr
        refine AW.seq (Rg ?_)
        refine Av (.bool true) rfl ?_
        refine AW.ret ?_
        obtain rfl := Option.some.inj hr
        exact RetQ.w good (.inr rfl) rfl rfl (Wv.refl _) (by simp)
       ·replace hr := cnd_f h29 hr
        refine AW.skip ?_
        refine AW.seq (Rg ?_)
        refine Av (.ptr 0 0) rfl ?_
        refine Av (.int .i64 a0.f0) rfl ?_
        refine Av (.bool (a0.f0 == 6)) rfl ?_
        refine AL.vb good (d := 97) (b := (a0.f0 == 6)) rfl rfl rfl rfl (fun g30 h31 => ?_)
        refine Gv (g30) (.ptr 0 14) rfl (by cases g30 <;> exact ⟨rfl, fun h => by first | rfl | cases h⟩) ?_
        refine Gv (g30) (.int .i64 a0.f6) rfl (by cases g30 <;> exact ⟨rfl, fun h => by first | rfl | cases h⟩) ?_
        refine Gv (g30) (.bool (decide (a0.f6 < 1))) rfl (by cases g30 <;> exact ⟨rfl, fun h => by first | rfl | cases h⟩) ?_
        refine AL.gvb good (d := 101) (c := g30) (r := (decide (a0.f6 < 1))) (rd := []) rfl rfl (by cases g30 <;> rfl) (fun h => by cases g30 <;> first | rfl | exact absurd h (by decide)) (fun g32 h33 => ?_)
        refine Gv ((g30 && (!g32))) (.ptr 0 14) rfl (by cases g30 <;> cases g32 <;> exact ⟨rfl, fun h => by first | rfl | cases h⟩) ?_
        refine Gv ((g30 && (!g32))) (.int .i64 a0.f6) rfl (by cases g30 <;> cases g32 <;> exact ⟨rfl, fun h => by first | rfl | cases h⟩) ?_
        refine Gv ((g30 && (!g32))) (.bool (decide (a0.f6 > 1000))) rfl (by cases g30 <;> cases g32 <;> exact ⟨rfl, fun h => by first | rfl | cases h⟩) ?_
        refine Gv (g30) (.bool (g32 || (decide (a0.f6 > 1000)))) rfl (by cases g30 <;> cases g32 <;> exact ⟨rfl, fun h => by first | rfl | cases h⟩) ?_
        refine AL.v good (d := 106) (v := .bool (g30 && (g32 || (decide (a0.f6 > 1000))))) (rd := []) rfl rfl rfl (by cases g30 <;> rfl) ?_
        refine AL.vb good (d := 107) (b := (g30 && (g32 || (decide (a0.f6 > 1000))))) rfl rfl rfl rfl (fun g34 h35 => ?_)
        refine Gv ((!g34)) (.ptr 0 0) rfl (by cases g34 <;> exact ⟨rfl, fun h => by first | rfl | cases h⟩) ?_
        refine Gv ((!g34)) (.int .i64 a0.f0) rfl (by cases g34 <;> exact ⟨rfl, fun h => by first | rfl | cases h⟩) ?_
        refine Gv ((!g34)) (.bool (a0.f0 != 6)) rfl (by cases g34 <;> exact ⟨rfl, fun h => by first | rfl | cases h⟩) ?_
        refine AL.gvb good (d := 111) (c := (!g34)) (r := (a0.f0 != 6)) (rd := []) rfl rfl (by cases g34 <;> rfl) (fun h => by cases g34 <;> first | rfl | exact absurd h (by decide)) (fun g36 h37 => ?_)
        refine Gv (((!g34) && g36)) (.ptr 0 14) rfl (by cases g34 <;> cases g36 <;> exact ⟨rfl, fun h => by first | rfl | cases h⟩) ?_
        refine Gv (((!g34) && g36)) (.int .i64 a0.f6) rfl (by cases g34 <;> cases g36 <;> exact ⟨rfl, fun h => by first | rfl | cases h⟩) ?_
        refine Gv (((!g34) && g36)) (.bool (a0.f6 != 0)) rfl (by cases g34 <;> cases g36 <;> exact ⟨rfl, fun h => by first | rfl | cases h⟩) ?_
        refine Gv ((!g34)) (.bool (g36 && (a0.f6 != 0))) rfl (by cases g34 <;> cases g36 <;> exact ⟨rfl, fun h => by first | rfl | cases h⟩) ?_
        refine AL.v good (d := 116) (v := .bool (g34 || (g36 && (a0.f6 != 0)))) (rd := []) rfl rfl rfl (by cases g34 <;> rfl) ?_
        refine Av (.bool (g34 || (g36 && (a0.f6 != 0)))) rfl ?_
        subst h31 h33 h35 h37
        refine AW.ret ?_
        obtain rfl := Option.some.inj hr
        exact RetQ.w good (.inr rfl) rfl rfl (Wv.refl _) (by simp)

def s_f1009 (n : Nat) (a0 : Int) (a1 : Int) : Option Bool :=
  (bif (a0 == 1) then some (a1 == 0) else (bif (a0 == 8) then some ((decide (a1 ≥ 2)) && (decide (a1 ≤ 4))) else some (a1 == 1)))

theorem w_f1009 (n : Nat) (a0 : Int) (a1 : Int) (r : Bool) (hr : s_f1009 n a0 a1 = some r) : ACall Tryz.prog 30 [.int .i64 a0, .int .i64 a1] (.bool r) := by
 refine ACall.go [(0, .int .i64 a0), (1, .int .i64 a1)] Tryz.func30 rfl Tryz.ntmps30 rfl rfl (by simp) ?_
 rw [s_f1009] at hr
 refine AW.seq (Rg ?_)
 refine Av (.bool false) rfl ?_
 refine AW.seq ?_
 refine AW.seq (Rg ?_)
 refine Av (.int .i64 a0) rfl ?_
 refine AW.block ?_
 refine AW.seq (Rg ?_)
 refine Av (.bool (a0 == 1)) rfl ?_
 refine Av (.bool (a0 == 1)) rfl ?_
 refine AW.if rfl (fun h1 => ?_) (fun h1 => ?_)
 ·replace hr := cnd_t h1 hr
  refine AW.seq (Rg ?_)
  refine Av (.int .i64 a1) rfl ?_
  refine Av (.bool (a1 == 0)) rfl ?_
  refine Av (.bool (a1 == 0)) rfl ?_
  refine AW.ret ?_
  obtain rfl := Option.some.inj hr
  exact RetQ.w good (.inr rfl) rfl rfl (Wv.refl _) (by simp)
 ·replace hr := cnd_f h1 hr
  refine AW.seq (Rg ?_)
  refine Av (.bool (a0 == 8)) rfl ?_
  refine Av (.bool (a0 == 8)) rfl ?_
  refine AW.if rfl (fun h2 => ?_) (fun h2 => ?_)
  ·replace hr := cnd_t h2 hr
   refine AW.seq (Rg ?_)
   refine Av (.int .i64 a1) rfl ?_
   refine Av (.bool (decide (a1 ≥ 2))) rfl ?_
   refine AL.vb good (d := 14) (b := (decide (a1 ≥ 2))) rfl rfl rfl rfl (fun g3 h4 => ?_)
   refine Gv (g3) (.int .i64 a1) rfl (by cases g3 <;> exact ⟨rfl, fun h => by first | rfl | cases h⟩) ?_
   refine Gv (g3) (.bool (decide (a1 ≤ 4))) rfl (by cases g3 <;> exact ⟨rfl, fun h => by first | rfl | cases h⟩) ?_
   refine AL.v good (d := 17) (v := .bool (g3 && (decide (a1 ≤ 4)))) (rd := []) rfl rfl rfl (by cases g3 <;> rfl) ?_
   refine Av (.bool (g3 && (decide (a1 ≤ 4)))) rfl ?_
   subst h4
   refine AW.ret ?_
   obtain rfl := Option.some.inj hr
   exact RetQ.w good (.inr rfl) rfl rfl (Wv.refl _) (by simp)
  ·replace hr := cnd_f h2 hr
   refine AW.skip ?_
   refine AW.seq (Rg ?_)
   refine Av (.int .i64 a1) rfl ?_
   refine Av (.bool (a1 == 1)) rfl ?_
   refine Av (.bool (a1 == 1)) rfl ?_
   refine AW.ret ?_
   obtain rfl := Option.some.inj hr
   exact RetQ.w good (.inr rfl) rfl rfl (Wv.refl _) (by simp)

mutual
def s_f1010_l1 : Nat → (List Ty) → Nat → Option (Ty × Int)
  | 0, _, _ => none
  | n + 1, a3, v1_1 => (bif (decide ((v1_1 : Int) < (a3.length : Int))) then ((a3[v1_1]?).bind fun x22 => ((a3[0]?).bind fun x24 => ((s_f65 n x22 x24).bind fun q26 => (bif (!q26) then some ((Ty.mk 0 []), 5) else (s_f1010_l1 n a3 (v1_1 + 1)))))) else ((a3[0]?).bind fun x29 => some (x29, 0)))
def s_f1010_l2 : Nat → (List Ty) → Nat → Option (Ty × Int)
  | 0, _, _ => none
  | n + 1, a1, v2_1 => (bif (decide ((v2_1 : Int) < (a1.length : Int))) then ((a1[v2_1]?).bind fun x55 => ((a1[0]?).bind fun x57 => ((s_f65 n x55 x57).bind fun q59 => (bif (!q59) then some ((Ty.mk 0 []), 5) else (s_f1010_l2 n a1 (v2_1 + 1)))))) else ((a1[0]?).bind fun x62 => some (x62, 0)))
end
def s_f1010 (n : Nat) (a0 : GOp) (a1 : List Ty) (a2 : Ty) (a3 : List Ty) : Option (Ty × Int) :=
  (bif (a0.f0 == 2) then ((a3[0]?).bind fun x2 => some (x2, 0)) else (bif (a0.f0 == 3) then ((a3[0]?).bind fun x5 => (bif (x5.kind != 2) then some ((Ty.mk 0 []), 5) else ((a1[0]?).bind fun x8 => some (x8, 0)))) else (bif (a0.f0 == 4) then (s_f1010_l1 n a3 1) else (bif (a0.f0 == 5) then ((a3[0]?).bind fun x32 => (bif (x32.kind != 1) then some ((Ty.mk 0 []), 5) else ((s_f56 n (Ty.mk 4 [a2, (Ty.mk 1 [])])).bind fun q35 => (bif (q35 != 0) then some ((Ty.mk 0 []), q35) else some ((Ty.mk 4 [a2, (Ty.mk 1 [])]), 0))))) else (bif (a0.f0 == 6) then ((s_f56 n (Ty.mk 4 [a2, (Ty.mk 1 [])])).bind fun q39 => (bif (q39 != 0) then some ((Ty.mk 0 []), q39) else some ((Ty.mk 4 [a2, (Ty.mk 1 [])]), 0))) else (bif (a0.f0 == 7) then some (a2, 0) else (bif (a0.f0 == 8) then (s_f1010_l2 n a1 1) else ((a1[0]?).bind fun x64 => some (x64, 0)))))))))

theorem w_f1010 (n : Nat) (a0 : GOp) (a1 : List Ty) (a2 : Ty) (a3 : List Ty) (r : Ty × Int) (hr : s_f1010 n a0 a1 a2 a3 = some r) : ACall Tryz.prog 33 [.agg [.int .i64 a0.f0, .str a0.f1, .int .i64 a0.f2.kind, .sl .ro 2 (enys a0.f2.of), .sl .ro 8 (enxs a0.f3), .str a0.f4.op, .int .i64 a0.f4.v.kind, .int .i64 a0.f4.v.i, .bool a0.f4.v.b, .str a0.f4.v.s, .sl .ro 5 (encs a0.f4.v.t), .int .i64 a0.f4.n, .sl .ro 8 (enxs a0.f4.a), .int .i64 a0.f5, .int .i64 a0.f6], .sl .ro 2 (enys a1), .agg (tyC a2), .sl .ro 2 (enys a3)] (.tup [.agg (tyC r.1), .int .i64 r.2]) := by
 refine ACall.go [(0, .agg [.int .i64 a0.f0, .str a0.f1, .int .i64 a0.f2.kind, .sl .ro 2 (enys a0.f2.of), .sl .ro 8 (enxs a0.f3), .str a0.f4.op, .int .i64 a0.f4.v.kind, .int .i64 a0.f4.v.i, .bool a0.f4.v.b, .str a0.f4.v.s, .sl .ro 5 (encs a0.f4.v.t), .int .i64 a0.f4.n, .sl .ro 8 (enxs a0.f4.a), .int .i64 a0.f5, .int .i64 a0.f6]), (1, .sl .ro 2 (enys a1)), (2, .agg (tyC a2)), (3, .sl .ro 2 (enys a3))] Tryz.func33 rfl Tryz.ntmps33 rfl rfl (by simp) ?_
 rw [s_f1010] at hr
 refine AW.seq (Rg ?_)
 refine AL.bx good (d := 4) (l := [.int .i64 a0.f0, .str a0.f1, .int .i64 a0.f2.kind, .sl .ro 2 (enys a0.f2.of), .sl .ro 8 (enxs a0.f3), .str a0.f4.op, .int .i64 a0.f4.v.kind, .int .i64 a0.f4.v.i, .bool a0.f4.v.b, .str a0.f4.v.s, .sl .ro 5 (encs a0.f4.v.t), .int .i64 a0.f4.n, .sl .ro 8 (enxs a0.f4.a), .int .i64 a0.f5, .int .i64 a0.f6]) rfl rfl rfl rfl rfl rfl 0 rfl ?_
 refine AL.bx good (d := 6) (l := [.int .i64 a2.kind, .sl .ro 2 (enys a2.of)]) rfl rfl rfl rfl rfl rfl 1 rfl ?_
 refine AL.alc good (d := 8) rfl rfl rfl rfl rfl 2 rfl ?_
 refine Av (.int .i64 0) rfl ?_
 refine AW.seq ?_
 refine AW.seq (Rg ?_)
 refine Av (.ptr 0 0) rfl ?_
 refine Av (.int .i64 a0.f0) rfl ?_
 refine AW.block ?_
 refine AW.seq (Rg ?_)
 refine Av (.bool (a0.f0 == 2)) rfl ?_
 refine Av (.bool (a0.f0 == 2)) rfl ?_
 refine AW.if rfl (fun h1 => ?_) (fun h1 => ?_)
 ·replace hr := cnd_t h1 hr
  refine AW.seq (Rg ?_)
  refine Av (.sl .ro 2 (enys a3)) rfl ?_
  obtain ⟨x2, h3, hr⟩ := bnd1 hr
  refine AL.ix good (d := 19) (r := [.int .i64 x2.kind, .sl .ro 2 (enys x2.of)]) rfl rfl rfl rfl rfl rfl rfl (by decide) (enys_get h3) ?_
  refine Av (.agg [.int .i64 x2.kind, .sl .ro 2 (enys x2.of)]) rfl ?_
  refine AL.st2 good (c2 := [.int .i64 x2.kind, .sl .ro 2 (enys x2.of)]) rfl rfl rfl rfl rfl rfl rfl rfl rfl rfl rfl rfl ?_
  refine Av (.int .i64 0) rfl ?_
  refine AW.ret ?_
  obtain rfl := Option.some.inj hr
  exact RetQ.w good (.inr rfl) rfl rfl (Wv.refl _) (by simp)
 ·replace hr := cnd_f h1 hr
  refine AW.seq (Rg ?_)
  refine Av (.bool (a0.f0 == 3)) rfl ?_
  refine Av (.bool (a0.f0 == 3)) rfl ?_
  refine AW.if rfl (fun h4 => ?_) (fun h4 => ?_)
  ·replace hr := cnd_t h4 hr
   refine AW.seq (Rg ?_)
   refine Av (.sl .ro 2 (enys a3)) rfl ?_
   obtain ⟨x5, h6, hr⟩ := bnd1 hr
   refine AL.ix good (d := 24) (r := [.int .i64 x5.kind, .sl .ro 2 (enys x5.of)]) rfl rfl rfl rfl rfl rfl rfl (by decide) (enys_get h6) ?_
   refine Av (.ep [.int .i64 x5.kind, .sl .ro 2 (enys x5.of)]) rfl ?_
   refine Av (.int .i64 x5.kind) rfl ?_
   refine Av (.bool (x5.kind != 2)) rfl ?_
   refine AW.if rfl (fun h7 => ?_) (fun h7 => ?_)
   ·replace hr := cnd_t h7 hr
    refine AW.seq (Rg ?_)
    refine AL.bld good (d := 28) (l := [.int .i64 0, .sl .nil 0 []]) rfl rfl rfl rfl rfl rfl rfl ?_
    refine AL.st2 good (c2 := [.int .i64 0, .sl .nil 0 []]) rfl rfl rfl rfl rfl rfl rfl rfl rfl rfl rfl rfl ?_
    refine Av (.int .i64 5) rfl ?_
    refine AW.ret ?_
    obtain rfl := Option.some.inj hr
    exact RetQ.w good (.inr rfl) rfl rfl ⟨⟨Wv.refl _, ⟨.inr rfl, trivial, .inr rfl⟩, trivial⟩, Wv.refl _, trivial⟩ (by simp)
   ·replace hr := cnd_f h7 hr
    refine AW.skip ?_
    refine AW.seq (Rg ?_)
    refine Av (.sl .ro 2 (enys a1)) rfl ?_
    obtain ⟨x8, h9, hr⟩ := bnd1 hr
    refine AL.ix good (d := 97) (r := [.int .i64 x8.kind, .sl .ro 2 (enys x8.of)]) rfl rfl rfl rfl rfl rfl rfl (by decide) (enys_get h9) ?_
    refine Av (.agg [.int .i64 x8.kind, .sl .ro 2 (enys x8.of)]) rfl ?_
    refine AL.st2 good (c2 := [.int .i64 x8.kind, .sl .ro 2 (enys x8.of)]) rfl rfl rfl rfl rfl rfl rfl rfl rfl rfl rfl rfl ?_
    refine Av (.int .i64 0) rfl ?_
    refine AW.ret ?_
    obtain rfl := Option.some.inj hr
    exact RetQ.w good (.inr rfl) rfl rfl (Wv.refl _) (by simp)
  ·replace hr := cnd_f h4 hr
   refine AW.seq (Rg ?_)
   refine Av (.bool (a0.f0 == 4)) rfl ?_
   refine Av (.bool (a0.f0 == 4)) rfl ?_
   refine AW.if rfl (fun h10 => ?_) (fun h10 => ?_)
   ·replace hr := cnd_t h10 hr
    refine AW.seq ?_
    refine AW.seq (Rg ?_)
    refine Av (.int .i64 1) rfl ?_
    refine AW.block ?_
    refine AW.lens 3 rfl (fun hl20 => ?_)
    replace hl20 : a3.length ≤ 9223372036854775807 := by rw [← enys_length a3]; exact hl20
    refine AW.lpw (fun x : Nat × Nat => [(3, .sl .ro 2 (enys a3)), (8, .ptr 2 0), (10, .int .i64 (x.2 : Int))]) (fun x => [(2, .box 38 [.int .i64 0, .sl .nil 0 []])]) (fun x => s_f1010_l1 x.1 a3 x.2 = some r ∧ x.1 ≤ n) (fun x => x.1) (n, 1) ⟨(fun _ h => by cases h), fmc ⟨⟨⟨_, rfl, Wv.refl _⟩, (by simp)⟩, fmc ⟨⟨⟨_, rfl, Wv.refl _⟩, (by simp)⟩, fmc ⟨⟨⟨_, rfl, Wv.refl _⟩, (by simp)⟩, (fun _ h => by cases h)⟩⟩⟩, fmc ⟨⟨⟨_, rfl, ⟨rfl, ⟨Wv.refl _, Wv.refl _, trivial⟩⟩⟩, (by simp)⟩, (fun _ h => by cases h)⟩⟩ ⟨hr, Nat.le_refl _⟩ (fun ⟨m, v1_1⟩ hx => ?_)
    obtain ⟨hr, hm⟩ := hx
    try dsimp only at hr hm
    cases m with
    | zero => rw [s_f1010_l1] at hr; cases hr
    | succ m =>
     rw [s_f1010_l1] at hr
     show AW Tryz.prog _ _ _ (mkS 99 [(3, .sl .ro 2 (enys a3)), (8, .ptr 2 0), (10, .int .i64 (v1_1 : Int))] [(2, .box 38 [.int .i64 0, .sl .nil 0 []])])
     refine AW.seq ?_
     refine AW.seq (Rg ?_)
     refine Av (.int .i64 (v1_1 : Int)) rfl ?_
     refine Av (.sl .ro 2 (enys a3)) rfl ?_
     refine AL.ln good (d := 33) (m := a3.length) rfl rfl rfl rfl rfl rfl (enys_length _) ?_
     refine Av (.bool (decide ((v1_1 : Int) < (a3.length : Int)))) rfl ?_
     refine AW.if rfl (fun h21 => ?_) (fun h21 => ?_)
     ·replace hr := cnd_t h21 hr
      refine AW.skip ?_
      refine AW.seq ?_
      refine AW.block ?_
      refine AW.seq ?_
      refine AW.draw (M := fun i => false) good.wide (by kernel_rfl) ?_
      refine Av (.sl .ro 2 (enys a3)) rfl ?_
      refine Av (.int .i64 (v1_1 : Int)) rfl ?_
      obtain ⟨x22, h23, hr⟩ := bnd1 hr
      refine AL.ix good (d := 39) (r := [.int .i64 x22.kind, .sl .ro 2 (enys x22.of)]) rfl rfl rfl rfl rfl rfl rfl (Int.natCast_nonneg _) (enys_get h23) ?_
      refine Av (.agg [.int .i64 x22.kind, .sl .ro 2 (enys x22.of)]) rfl ?_
      refine Av (.sl .ro 2 (enys a3)) rfl ?_
      obtain ⟨x24, h25, hr⟩ := bnd1 hr
      refine AL.ix good (d := 42) (r := [.int .i64 x24.kind, .sl .ro 2 (enys x24.of)]) rfl rfl rfl rfl rfl rfl rfl (by decide) (enys_get h25) ?_
      refine Av (.agg [.int .i64 x24.kind, .sl .ro 2 (enys x24.of)]) rfl ?_
      obtain ⟨q26, h27, hr⟩ := bnd1 hr
      refine AL.cw good (d := 44) (xs := [.agg (tyC x22), .agg (tyC x24)]) (res := .bool q26) rfl rfl rfl rfl rfl rfl rfl (w_f65 _ _ _ _ h27) ⟨(Wv.refl _), (Wv.refl _), trivial⟩ (by simp) ?_
      refine Av (.bool (!q26)) rfl ?_
      refine AW.if rfl (fun h28 => ?_) (fun h28 => ?_)
      ·replace hr := cnd_t h28 hr
       refine AW.seq (Rg ?_)
       refine AL.bld good (d := 46) (l := [.int .i64 0, .sl .nil 0 []]) rfl rfl rfl rfl rfl rfl rfl ?_
       refine AL.st2 good (c2 := [.int .i64 0, .sl .nil 0 []]) rfl rfl rfl rfl rfl rfl rfl rfl rfl rfl rfl rfl ?_
       refine Av (.int .i64 5) rfl ?_
       refine AW.ret ?_
       obtain rfl := Option.some.inj hr
       exact RetQ.w good (.inr rfl) rfl rfl ⟨⟨Wv.refl _, ⟨.inr rfl, trivial, .inr rfl⟩, trivial⟩, Wv.refl _, trivial⟩ (by simp)
      ·replace hr := cnd_f h28 hr
       refine AW.skip ?_
       refine Rg ?_
       refine Av (.int .i64 (v1_1 : Int)) rfl ?_
       refine Av (.int .i64 (IntKind.i64.wrap ((v1_1 : Int) + 1))) rfl ?_
       refine Av (.int .i64 (IntKind.i64.wrap ((v1_1 : Int) + 1))) rfl ?_
       exact ⟨(m, (v1_1 + 1)), _, _, rfl, ⟨(fun _ h => by cases h), fmc ⟨⟨⟨_, rfl, Wv.refl _⟩, (by simp)⟩, fmc ⟨⟨⟨_, rfl, Wv.refl _⟩, (by simp)⟩, fmc ⟨⟨⟨_, rfl, (wnx h21 hl20)⟩, (by simp)⟩, (fun _ h => by cases h)⟩⟩⟩, fmc ⟨⟨⟨_, rfl, ⟨rfl, ⟨Wv.refl _, Wv.refl _, trivial⟩⟩⟩, (by simp)⟩, (fun _ h => by cases h)⟩⟩, ⟨hr, Nat.le_of_succ_le hm⟩, Nat.lt_succ_self _⟩
     ·replace hr := cnd_f h21 hr
      refine AW.exit ?_
      refine AW.seq (Rg ?_)
      refine Av (.sl .ro 2 (enys a3)) rfl ?_
      obtain ⟨x29, h30, hr⟩ := bnd1 hr
      refine AL.ix good (d := 48) (r := [.int .i64 x29.kind, .sl .ro 2 (enys x29.of)]) rfl rfl rfl rfl rfl rfl rfl (by decide) (enys_get h30) ?_
      refine Av (.agg [.int .i64 x29.kind, .sl .ro 2 (enys x29.of)]) rfl ?_
      refine AL.st2 good (c2 := [.int .i64 x29.kind, .sl .ro 2 (enys x29.of)]) rfl rfl rfl rfl rfl rfl rfl rfl rfl rfl rfl rfl ?_
      refine Av (.int .i64 0) rfl ?_
      refine AW.ret ?_
      obtain rfl := Option.some.inj hr
      exact RetQ.w good (.inr rfl) rfl rfl (Wv.refl _) (by simp)
   ·replace hr := cnd_f h10 hr
    refine AW.seq ?_
    refine AW.seq (Rg ?_)
    refine Av (.bool (a0.f0 == 5)) rfl ?_
    refine Av (.bool (a0.f0 == 5)) rfl ?_
    refine AW.if rfl (fun h31 => ?_) (fun h31 => ?_)
    ·replace hr := cnd_t h31 hr
     refine AW.skip ?_
     refine AW.if rfl (fun h => ?_) (fun h => by cases h31.symm.trans h)
     refine AW.seq ?_
     refine AW.seq (Rg ?_)
     refine Av (.ptr 0 0) rfl ?_
     refine Av (.int .i64 a0.f0) rfl ?_
     refine Av (.bool (a0.f0 == 5)) rfl ?_
     refine Av (.bool (a0.f0 == 5)) rfl ?_
     refine AL.cs 56 rfl (fun h => ?_) (fun h => by cases h31.symm.trans h)
     refine Av (.sl .ro 2 (enys a3)) rfl ?_
     obtain ⟨x32, h33, hr⟩ := bnd1 hr
     refine AL.ix good (d := 58) (r := [.int .i64 x32.kind, .sl .ro 2 (enys x32.of)]) rfl rfl rfl rfl rfl rfl rfl (by decide) (enys_get h33) ?_
     refine Av (.ep [.int .i64 x32.kind, .sl .ro 2 (enys x32.of)]) rfl ?_
     refine Av (.int .i64 x32.kind) rfl ?_
     refine Av (.bool (x32.kind != 1)) rfl ?_
     refine Av (.bool (x32.kind != 1)) rfl ?_
     refine AW.if rfl (fun h34 => ?_) (fun h34 => ?_)
     ·replace hr := cnd_t h34 hr
      refine AW.seq (Rg ?_)
      refine AL.bld good (d := 63) (l := [.int .i64 0, .sl .nil 0 []]) rfl rfl rfl rfl rfl rfl rfl ?_
      refine AL.st2 good (c2 := [.int .i64 0, .sl .nil 0 []]) rfl rfl rfl rfl rfl rfl rfl rfl rfl rfl rfl rfl ?_
      refine Av (.int .i64 5) rfl ?_
      refine AW.ret ?_
      obtain rfl := Option.some.inj hr
      exact RetQ.w good (.inr rfl) rfl rfl ⟨⟨Wv.refl _, ⟨.inr rfl, trivial, .inr rfl⟩, trivial⟩, Wv.refl _, trivial⟩ (by simp)
     ·replace hr := cnd_f h34 hr
      refine AW.skip ?_
      refine AW.seq ?_
      refine AW.drawc (M := fun i => ⟨Nat.beq i 5, bif Nat.beq i 0 then some { ids := [1] } else bif Nat.beq i 2 then some { ids := [3] } else bif Nat.beq i 4 then some { ids := [4] } else bif Nat.beq i 5 then some { ids := [4] } else none⟩) good.wide (by kernel_rfl) ?_
      refine AL.vc good (d := 64) (v := .agg [.int .i64 a2.kind, .sl .ro 2 (enys a2.of)]) rfl rfl rfl rfl rfl rfl (fmc ⟨.head _, (fun _ h => by cases h)⟩) ?_
      refine AL.cw (nc := ⟨rfl⟩) good (d := 65) (xs := [.int .i64 1]) (res := .agg [.int .i64 1, .sl .ro 2 (enys [])]) rfl rfl rfl rfl rfl rfl rfl (w_f121 1) ⟨(Wv.refl _), trivial⟩ (by simp) ?_
      refine AL.litC good (d := 66) (rows := [[.int .i64 a2.kind, .sl .ro 2 (enys a2.of)], [.int .i64 1, .sl .ro 2 (enys [])]]) rfl rfl rfl rfl rfl rfl rfl rfl rfl 3 rfl (ColN.mk rfl rfl (fun _ h => by cases h) (fmc ⟨.head _, (fun _ h => by cases h)⟩) (fun _ h => by cases h)) ?_
      refine AL.bld (nc := ⟨rfl⟩) good (d := 67) (l := [.int .i64 4, .sl (.own 3) 2 [[.int .i64 a2.kind, .sl .ro 2 (enys a2.of)], [.int .i64 1, .sl .ro 2 (enys [])]]]) rfl rfl rfl rfl rfl rfl rfl ?_
      refine AL.alcC good (d := 11) rfl rfl rfl rfl rfl 4 rfl (ColN.mk rfl rfl (fun _ h => by cases h) (fmc ⟨.head _, (fun _ h => by cases h)⟩) (fun _ h => by cases h)) ?_
      refine AL.st2c good (c2 := [.int .i64 4, .sl (.own 3) 2 [[.int .i64 a2.kind, .sl .ro 2 (enys a2.of)], [.int .i64 1, .sl .ro 2 (enys [])]]]) rfl rfl rfl rfl rfl rfl rfl rfl rfl rfl rfl rfl rfl ?_
      refine AW.seq (Rg ?_)
      refine Av (.agg [.int .i64 4, .sl (.own 3) 2 [[.int .i64 a2.kind, .sl .ro 2 (enys a2.of)], [.int .i64 1, .sl .ro 2 (enys [])]]]) rfl ?_
      obtain ⟨q35, h36, hr⟩ := bnd1 hr
      refine AL.cw good (d := 69) (xs := [.agg (tyC (Ty.mk 4 [a2, (Ty.mk 1 [])]))]) (res := .int .i64 q35) rfl rfl rfl rfl rfl rfl rfl (w_f56 _ _ _ h36) ⟨⟨Wv.refl _, ⟨.inr rfl, (WvR_enys ⟨⟨Wv.refl _, Wv.refl _, trivial⟩, ⟨Wv.refl _, Wv.refl _, trivial⟩, trivial⟩), .inl rfl⟩, trivial⟩, trivial⟩ (by simp) ?_
      refine Av (.int .i64 q35) rfl ?_
      refine AW.seq ?_
      refine AW.seq (Rg ?_)
      refine Av (.int .i64 q35) rfl ?_
      refine Av (.bool (q35 != 0)) rfl ?_
      refine AW.if rfl (fun h37 => ?_) (fun h37 => ?_)
      ·replace hr := cnd_t h37 hr
       refine AW.seq (Rg ?_)
       refine AL.bld good (d := 72) (l := [.int .i64 0, .sl .nil 0 []]) rfl rfl rfl rfl rfl rfl rfl ?_
       refine Av (.int .i64 q35) rfl ?_
       refine AL.st2 good (c2 := [.int .i64 0, .sl .nil 0 []]) rfl rfl rfl rfl rfl rfl rfl rfl rfl rfl rfl rfl ?_
       refine Av (.int .i64 q35) rfl ?_
       refine AW.ret ?_
       obtain rfl := Option.some.inj hr
       exact RetQ.w good (.inr rfl) rfl rfl ⟨⟨Wv.refl _, ⟨.inr rfl, trivial, .inr rfl⟩, trivial⟩, Wv.refl _, trivial⟩ (by simp)
      ·replace hr := cnd_f h37 hr
       refine AW.skip ?_
       refine AW.seq (Rg ?_)
       refine Av (.agg [.int .i64 4, .sl (.own 3) 2 [[.int .i64 a2.kind, .sl .ro 2 (enys a2.of)], [.int .i64 1, .sl .ro 2 (enys [])]]]) rfl ?_
       refine AL.st2 good (c2 := [.int .i64 4, .sl (.own 3) 2 [[.int .i64 a2.kind, .sl .ro 2 (enys a2.of)], [.int .i64 1, .sl .ro 2 (enys [])]]]) rfl rfl rfl rfl rfl rfl rfl rfl rfl rfl rfl rfl ?_
       refine Av (.int .i64 0) rfl ?_
       refine AW.ret ?_
       obtain rfl := Option.some.inj hr
       exact RetQ.w good (.inr rfl) rfl rfl ⟨⟨Wv.refl _, ⟨.inr rfl, (WvR_enys ⟨⟨Wv.refl _, Wv.refl _, trivial⟩, ⟨Wv.refl _, Wv.refl _, trivial⟩, trivial⟩), .inl rfl⟩, trivial⟩, Wv.refl _, trivial⟩ (by simp)
    ·replace hr := cnd_f h31 hr
     refine Rg ?_
     refine Av (.bool (a0.f0 == 6)) rfl ?_
     refine Av (.bool (a0.f0 == 6)) rfl ?_
     refine AW.if rfl (fun h38 => ?_) (fun h38 => ?_)
     ·replace hr := cnd_t h38 hr
      refine AW.seq ?_
      refine AW.seq (Rg ?_)
      refine Av (.ptr 0 0) rfl ?_
      refine Av (.int .i64 a0.f0) rfl ?_
      refine Av (.bool (a0.f0 == 5)) rfl ?_
      refine Av (.bool (a0.f0 == 5)) rfl ?_
      refine AL.cs 56 rfl (fun h => by cases h31.symm.trans h) (fun h => ?_)
      refine AL.sk good (d := 57) rfl rfl rfl ?_
      refine AL.sk good (d := 58) rfl rfl rfl ?_
      refine AL.sk good (d := 59) rfl rfl rfl ?_
      refine AL.sk good (d := 60) rfl rfl rfl ?_
      refine AL.sk good (d := 61) rfl rfl rfl ?_
      refine Av (.bool false) rfl ?_
      refine AW.if rfl (fun h => by cases h) (fun h => ?_)
      refine AW.skip ?_
      refine AW.seq ?_
      refine AW.drawc (M := fun i => ⟨Nat.beq i 5, bif Nat.beq i 0 then some { ids := [1] } else bif Nat.beq i 2 then some { ids := [3] } else bif Nat.beq i 4 then some { ids := [4] } else bif Nat.beq i 5 then some { ids := [4] } else none⟩) good.wide (by kernel_rfl) ?_
      refine AL.vc good (d := 64) (v := .agg [.int .i64 a2.kind, .sl .ro 2 (enys a2.of)]) rfl rfl rfl rfl rfl rfl (fmc ⟨.head _, (fun _ h => by cases h)⟩) ?_
      refine AL.cw (nc := ⟨rfl⟩) good (d := 65) (xs := [.int .i64 1]) (res := .agg [.int .i64 1, .sl .ro 2 (enys [])]) rfl rfl rfl rfl rfl rfl rfl (w_f121 1) ⟨(Wv.refl _), trivial⟩ (by simp) ?_
      refine AL.litC good (d := 66) (rows := [[.int .i64 a2.kind, .sl .ro 2 (enys a2.of)], [.int .i64 1, .sl .ro 2 (enys [])]]) rfl rfl rfl rfl rfl rfl rfl rfl rfl 3 rfl (ColN.mk rfl rfl (fun _ h => by cases h) (fmc ⟨.head _, (fun _ h => by cases h)⟩) (fun _ h => by cases h)) ?_
      refine AL.bld (nc := ⟨rfl⟩) good (d := 67) (l := [.int .i64 4, .sl (.own 3) 2 [[.int .i64 a2.kind, .sl .ro 2 (enys a2.of)], [.int .i64 1, .sl .ro 2 (enys [])]]]) rfl rfl rfl rfl rfl rfl rfl ?_
      refine AL.alcC good (d := 11) rfl rfl rfl rfl rfl 4 rfl (ColN.mk rfl rfl (fun _ h => by cases h) (fmc ⟨.head _, (fun _ h => by cases h)⟩) (fun _ h => by cases h)) ?_
      refine AL.st2c good (c2 := [.int .i64 4, .sl (.own 3) 2 [[.int .i64 a2.kind, .sl .ro 2 (enys a2.of)], [.int .i64 1, .sl .ro 2 (enys [])]]]) rfl rfl rfl rfl rfl rfl rfl rfl rfl rfl rfl rfl rfl ?_
      refine AW.seq (Rg ?_)
      refine Av (.agg [.int .i64 4, .sl (.own 3) 2 [[.int .i64 a2.kind, .sl .ro 2 (enys a2.of)], [.int .i64 1, .sl .ro 2 (enys [])]]]) rfl ?_
      obtain ⟨q39, h40, hr⟩ := bnd1 hr
      refine AL.cw good (d := 69) (xs := [.agg (tyC (Ty.mk 4 [a2, (Ty.mk 1 [])]))]) (res := .int .i64 q39) rfl rfl rfl rfl rfl rfl rfl (w_f56 _ _ _ h40) ⟨⟨Wv.refl _, ⟨.inr rfl, (WvR_enys ⟨⟨Wv.refl _, Wv.refl _, trivial⟩, ⟨Wv.refl _, Wv.refl _, trivial⟩, trivial⟩), .inl rfl⟩, trivial⟩, trivial⟩ (by simp) ?_
      refine Av (.int .i64 q39) rfl ?_
      refine AW.seq ?_
      refine AW.seq (Rg ?_)
      refine Av (.int .i64 q39) rfl ?_
      refine Av (.bool (q39 != 0)) rfl ?_
      refine AW.if rfl (fun h41 => ?_) (fun h41 => ?_)
      ·replace hr := cnd_t h41 hr
       refine AW.seq (Rg ?_)
       refine AL.bld good (d := 72) (l := [.int .i64 0, .sl .nil 0 []]) rfl rfl rfl rfl rfl rfl rfl ?_
       refine Av (.int .i64 q39) rfl ?_
       refine AL.st2 good (c2 := [.int .i64 0, .sl .nil 0 []]) rfl rfl rfl rfl rfl rfl rfl rfl rfl rfl rfl rfl ?_
       refine Av (.int .i64 q39) rfl ?_
       refine AW.ret ?_
       obtain rfl := Option.some.inj hr
       exact RetQ.w good (.inr rfl) rfl rfl ⟨⟨Wv.refl _, ⟨.inr rfl, trivial, .inr rfl⟩, trivial⟩, Wv.refl _, trivial⟩ (by simp)
      ·replace hr := cnd_f h41 hr
       refine AW.skip ?_
       refine AW.seq (Rg ?_)
       refine Av (.agg [.int .i64 4, .sl (.own 3) 2 [[.int .i64 a2.kind, .sl .ro 2 (enys a2.of)], [.int .i64 1, .sl .ro 2 (enys [])]]]) rfl ?_
       refine AL.st2 good (c2 := [.int .i64 4, .sl (.own 3) 2 [[.int .i64 a2.kind, .sl .ro 2 (enys a2.of)], [.int .i64 1, .sl .ro 2 (enys [])]]]) rfl rfl rfl rfl rfl rfl rfl rfl rfl rfl rfl rfl ?_
       refine Av (.int .i64 0) rfl ?_
       refine AW.ret ?_
       obtain rfl := Option.some.inj hr
       exact RetQ.w good (.inr rfl) rfl rfl ⟨⟨Wv.refl _, ⟨.inr rfl, (WvR_enys ⟨⟨Wv.refl _, Wv.refl _, trivial⟩, ⟨Wv.refl _, Wv.refl _, trivial⟩, trivial⟩), .inl rfl⟩, trivial⟩, Wv.refl _, trivial⟩ (by simp)
     ·replace hr := cnd_f h38 hr
      refine AW.seq (Rg ?_)
      refine Av (.bool (a0.f0 == 7)) rfl ?_
      refine Av (.bool (a0.f0 == 7)) rfl ?_
      refine AW.if rfl (fun h42 => ?_) (fun h42 => ?_)
      ·replace hr := cnd_t h42 hr
       refine AW.seq (Rg ?_)
       refine Av (.agg [.int .i64 a2.kind, .sl .ro 2 (enys a2.of)]) rfl ?_
       refine AL.st2 good (c2 := [.int .i64 a2.kind, .sl .ro 2 (enys a2.of)]) rfl rfl rfl rfl rfl rfl rfl rfl rfl rfl rfl rfl ?_
       refine Av (.int .i64 0) rfl ?_
       refine AW.ret ?_
       obtain rfl := Option.some.inj hr
       exact RetQ.w good (.inr rfl) rfl rfl (Wv.refl _) (by simp)
      ·replace hr := cnd_f h42 hr
       refine AW.seq (Rg ?_)
       refine Av (.bool (a0.f0 == 8)) rfl ?_
       refine Av (.bool (a0.f0 == 8)) rfl ?_
       refine AW.if rfl (fun h43 => ?_) (fun h43 => ?_)
       ·replace hr := cnd_t h43 hr
        refine AW.seq (Rg ?_)
        refine Av (.int .i64 1) rfl ?_
        refine AW.block ?_
        refine AW.lens 1 rfl (fun hl53 => ?_)
        replace hl53 : a1.length ≤ 9223372036854775807 := by rw [← enys_length a1]; exact hl53
        refine AW.lpw (fun x : Nat × Nat => [(1, .sl .ro 2 (enys a1)), (8, .ptr 2 0), (13, .int .i64 (x.2 : Int))]) (fun x => [(2, .box 38 [.int .i64 0, .sl .nil 0 []])]) (fun x => s_f1010_l2 x.1 a1 x.2 = some r ∧ x.1 ≤ n) (fun x => x.1) (n, 1) ⟨(fun _ h => by cases h), fmc ⟨⟨⟨_, rfl, Wv.refl _⟩, (by simp)⟩, fmc ⟨⟨⟨_, rfl, Wv.refl _⟩, (by simp)⟩, fmc ⟨⟨⟨_, rfl, Wv.refl _⟩, (by simp)⟩, (fun _ h => by cases h)⟩⟩⟩, fmc ⟨⟨⟨_, rfl, ⟨rfl, ⟨Wv.refl _, Wv.refl _, trivial⟩⟩⟩, (by simp)⟩, (fun _ h => by cases h)⟩⟩ ⟨hr, Nat.le_refl _⟩ (fun ⟨m, v2_1⟩ hx => ?_)
        obtain ⟨hr, hm⟩ := hx
        try dsimp only at hr hm
        cases m with
        | zero => rw [s_f1010_l2] at hr; cases hr
        | succ m =>
         rw [s_f1010_l2] at hr
         show AW Tryz.prog _ _ _ (mkS 99 [(1, .sl .ro 2 (enys a1)), (8, .ptr 2 0), (13, .int .i64 (v2_1 : Int))] [(2, .box 38 [.int .i64 0, .sl .nil 0 []])])
         refine AW.seq ?_
         refine AW.seq (Rg ?_)
         refine Av (.int .i64 (v2_1 : Int)) rfl ?_
         refine Av (.sl .ro 2 (enys a1)) rfl ?_
         refine AL.ln good (d := 82) (m := a1.length) rfl rfl rfl rfl rfl rfl (enys_length _) ?_
         refine Av (.bool (decide ((v2_1 : Int) < (a1.length : Int)))) rfl ?_
         refine AW.if rfl (fun h54 => ?_) (fun h54 => ?_)
         ·replace hr := cnd_t h54 hr
          refine AW.skip ?_
          refine AW.seq ?_
          refine AW.block ?_
          refine AW.seq ?_
          refine AW.draw (M := fun i => false) good.wide (by kernel_rfl) ?_
          refine Av (.sl .ro 2 (enys a1)) rfl ?_
          refine Av (.int .i64 (v2_1 : Int)) rfl ?_
          obtain ⟨x55, h56, hr⟩ := bnd1 hr
          refine AL.ix good (d := 88) (r := [.int .i64 x55.kind, .sl .ro 2 (enys x55.of)]) rfl rfl rfl rfl rfl rfl rfl (Int.natCast_nonneg _) (enys_get h56) ?_
          refine Av (.agg [.int .i64 x55.kind, .sl .ro 2 (enys x55.of)]) rfl ?_
          refine Av (.sl .ro 2 (enys a1)) rfl ?_
          obtain ⟨x57, h58, hr⟩ := bnd1 hr
          refine AL.ix good (d := 91) (r := [.int .i64 x57.kind, .sl .ro 2 (enys x57.of)]) rfl rfl rfl rfl rfl rfl rfl (by decide) (enys_get h58) ?_
          refine Av (.agg [.int .i64 x57.kind, .sl .ro 2 (enys x57.of)]) rfl ?_
          obtain ⟨q59, h60, hr⟩ := bnd1 hr
          refine AL.cw good (d := 93) (xs := [.agg (tyC x55), .agg (tyC x57)]) (res := .bool q59) rfl rfl rfl rfl rfl rfl rfl (w_f65 _ _ _ _ h60) ⟨(Wv.refl _), (Wv.refl _), trivial⟩ (by simp) ?_
          refine Av (.bool (!q59)) rfl ?_
          refine AW.if rfl (fun h61 => ?_) (fun h61 => ?_)
          ·replace hr := cnd_t h61 hr
           refine AW.seq (Rg ?_)
           refine AL.bld good (d := 95) (l := [.int .i64 0, .sl .nil 0 []]) rfl rfl rfl rfl rfl rfl rfl ?_
           refine AL.st2 good (c2 := [.int .i64 0, .sl .nil 0 []]) rfl rfl rfl rfl rfl rfl rfl rfl rfl rfl rfl rfl ?_
           refine Av (.int .i64 5) rfl ?_
           refine AW.ret ?_
           obtain rfl := Option.some.inj hr
           exact RetQ.w good (.inr rfl) rfl rfl ⟨⟨Wv.refl _, ⟨.inr rfl, trivial, .inr rfl⟩, trivial⟩, Wv.refl _, trivial⟩ (by simp)
          ·replace hr := cnd_f h61 hr
           refine AW.skip ?_
           refine Rg ?_
           refine Av (.int .i64 (v2_1 : Int)) rfl ?_
           refine Av (.int .i64 (IntKind.i64.wrap ((v2_1 : Int) + 1))) rfl ?_
           refine Av (.int .i64 (IntKind.i64.wrap ((v2_1 : Int) + 1))) rfl ?_
           exact ⟨(m, (v2_1 + 1)), _, _, rfl, ⟨(fun _ h => by cases h), fmc ⟨⟨⟨_, rfl, Wv.refl _⟩, (by simp)⟩, fmc ⟨⟨⟨_, rfl, Wv.refl _⟩, (by simp)⟩, fmc ⟨⟨⟨_, rfl, (wnx h54 hl53)⟩, (by simp)⟩, (fun _ h => by cases h)⟩⟩⟩, fmc ⟨⟨⟨_, rfl, ⟨rfl, ⟨Wv.refl _, Wv.refl _, trivial⟩⟩⟩, (by simp)⟩, (fun _ h => by cases h)⟩⟩, ⟨hr, Nat.le_of_succ_le hm⟩, Nat.lt_succ_self _⟩
         ·replace hr := cnd_f h54 hr
          refine AW.exit ?_
          refine AW.seq (Rg ?_)
          refine Av (.sl .ro 2 (enys a1)) rfl ?_
          obtain ⟨x62, h63, hr⟩ := bnd1 hr
          refine AL.ix good (d := 97) (r := [.int .i64 x62.kind, .sl .ro 2 (enys x62.of)]) rfl rfl rfl rfl rfl rfl rfl (by decide) (enys_get h63) ?_
          refine Av (.agg [.int .i64 x62.kind, .sl .ro 2 (enys x62.of)]) rfl ?_
          refine AL.st2 good (c2 := [.int .i64 x62.kind, .sl .ro 2 (enys x62.of)]) rfl rfl rfl rfl rfl rfl rfl rfl rfl rfl rfl rfl ?_
          refine Av (.int .i64 0) rfl ?_
          refine AW.ret ?_
          obtain rfl := Option.some.inj hr
          exact RetQ.w good (.inr rfl) rfl rfl (Wv.refl _) (by simp)
       ·replace hr := cnd_f h43 hr
        refine AW.skip ?_
        refine AW.seq (Rg ?_)
        refine Av (.sl .ro 2 (enys a1)) rfl ?_
        obtain ⟨x64, h65, hr⟩ := bnd1 hr
        refine AL.ix good (d := 97) (r := [.int .i64 x64.kind, .sl .ro 2 (enys x64.of)]) rfl rfl rfl rfl rfl rfl rfl (by decide) (enys_get h65) ?_
        refine Av (.agg [.int .i64 x64.kind, .sl .ro 2 (enys x64.of)]) rfl ?_
        refine AL.st2 good (c2 := [.int .i64 x64.kind, .sl .ro 2 (enys x64.of)]) rfl rfl rfl rfl rfl rfl rfl rfl rfl rfl rfl rfl ?_
        refine Av (.int .i64 0) rfl ?_
        refine AW.ret ?_
        obtain rfl := Option.some.inj hr
        exact RetQ.w good (.inr rfl) rfl rfl (Wv.refl _) (by simp)

mutual
def s_f1002_l4 : Nat → GOp → (List Ty) → Int → (List Ty) → (List Ty) → Nat → Option (Ty × Int)
  | 0, _, _, _, _, _, _ => none
  | n + 1, a0, a1, w3_1, w3_2, v4_1, v4_2 => (bif (decide ((v4_2 : Int) < (a0.f3.length : Int))) then ((a0.f3[v4_2]?).bind fun x66 => ((a1[0]?).bind fun x68 => ((s_f20 n x66 x68).bind fun q70 => (bif (q70.2 != 0) then some ((Ty.mk 0 []), q70.2) else (if v4_1.length + 1 ≤ 1000000 then (s_f1002_l4 n a0 a1 w3_1 w3_2 (v4_1 ++ [q70.1]) (v4_2 + 1)) else none))))) else ((s_f1010 n a0 a1 (Ty.mk w3_1 w3_2) v4_1).bind fun q74 => some (q74.1, q74.2)))
def s_f1002_j3 : Nat → GOp → (List Ty) → Int → (List Ty) → Option (Ty × Int)
  | 0, _, _, _, _ => none
  | n + 1, a0, a1, w3_1, w3_2 => (s_f1002_l4 n a0 a1 w3_1 w3_2 [] 0)
def s_f1002_l2 : Nat → GOp → (List Ty) → Nat → Option (Ty × Int)
  | 0, _, _, _ => none
  | n + 1, a0, a1, v2_1 => (bif (decide ((v2_1 : Int) < (a1.length : Int))) then ((a1[v2_1]?).bind fun x39 => ((s_f56 n x39).bind fun q41 => (bif (q41 != 0) then some ((Ty.mk 0 []), 5) else (s_f1002_l2 n a0 a1 (v2_1 + 1))))) else (bif (a0.f0 == 1) then ((s_f56 n a0.f2).bind fun q45 => (bif (q45 != 0) then some ((Ty.mk 0 []), 5) else some (a0.f2, 0))) else (bif (((a0.f0 == 5) || (a0.f0 == 6)) || (a0.f0 == 7)) then ((a1[0]?).bind fun x49 => ((s_f20 n a0.f4 x49).bind fun q51 => (bif (q51.2 != 0) then some ((Ty.mk 0 []), q51.2) else (s_f1002_j3 n a0 a1 q51.1.kind q51.1.of)))) else (s_f1002_j3 n a0 a1 0 []))))
def s_f1002_j1 : Nat → GOp → (List Ty) → Option (Ty × Int)
  | 0, _, _ => none
  | n + 1, a0, a1 => (s_f1002_l2 n a0 a1 0)
end
def s_f1002 (n : Nat) (a0 : GOp) (a1 : List Ty) : Option (Ty × Int) :=
  (bif ((decide (a0.f0 < 1)) || (decide (a0.f0 > 9))) then some ((Ty.mk 0 []), 6) else (bif (a0.f0 == 1) then ((s_f1007 n a0.f1).bind fun q5 => (bif (!q5) then some ((Ty.mk 0 []), 6) else ((s_f1008 n a0).bind fun q8 => (bif q8 then some ((Ty.mk 0 []), 1) else ((s_f1009 n a0.f0 (a1.length : Int)).bind fun q11 => (bif (!q11) then some ((Ty.mk 0 []), 1) else (s_f1002_j1 n a0 a1))))))) else (bif (a0.f0 == 9) then ((s_f1007 n a0.f1).bind fun q15 => (bif (!q15) then some ((Ty.mk 0 []), 6) else ((s_f1008 n a0).bind fun q18 => (bif q18 then some ((Ty.mk 0 []), 1) else ((s_f1009 n a0.f0 (a1.length : Int)).bind fun q21 => (bif (!q21) then some ((Ty.mk 0 []), 1) else (s_f1002_j1 n a0 a1))))))) else ((s_f1008 n a0).bind fun q24 => (bif q24 then some ((Ty.mk 0 []), 1) else ((s_f1009 n a0.f0 (a1.length : Int)).bind fun q27 => (bif (!q27) then some ((Ty.mk 0 []), 1) else (s_f1002_j1 n a0 a1))))))))

theorem w_f1002 (n : Nat) (a0 : GOp) (a1 : List Ty) (r : Ty × Int) (hr : s_f1002 n a0 a1 = some r) : ACall Tryz.prog 9 [.agg [.int .i64 a0.f0, .str a0.f1, .int .i64 a0.f2.kind, .sl .ro 2 (enys a0.f2.of), .sl .ro 8 (enxs a0.f3), .str a0.f4.op, .int .i64 a0.f4.v.kind, .int .i64 a0.f4.v.i, .bool a0.f4.v.b, .str a0.f4.v.s, .sl .ro 5 (encs a0.f4.v.t), .int .i64 a0.f4.n, .sl .ro 8 (enxs a0.f4.a), .int .i64 a0.f5, .int .i64 a0.f6], .sl .ro 2 (enys a1)] (.tup [.agg (tyC r.1), .int .i64 r.2]) := by
 refine ACall.go [(0, .agg [.int .i64 a0.f0, .str a0.f1, .int .i64 a0.f2.kind, .sl .ro 2 (enys a0.f2.of), .sl .ro 8 (enxs a0.f3), .str a0.f4.op, .int .i64 a0.f4.v.kind, .int .i64 a0.f4.v.i, .bool a0.f4.v.b, .str a0.f4.v.s, .sl .ro 5 (encs a0.f4.v.t), .int .i64 a0.f4.n, .sl .ro 8 (enxs a0.f4.a), .int .i64 a0.f5, .int .i64 a0.f6]), (1, .sl .ro 2 (enys a1))] Tryz.func9 rfl Tryz.ntmps9 rfl rfl (by simp) ?_
 rw [s_f1002] at hr
 refine AW.seq (Rg ?_)
 refine AL.bx good (d := 2) (l := [.int .i64 a0.f0, .str a0.f1, .int .i64 a0.f2.kind, .sl .ro 2 (enys a0.f2.of), .sl .ro 8 (enxs a0.f3), .str a0.f4.op, .int .i64 a0.f4.v.kind, .int .i64 a0.f4.v.i, .bool a0.f4.v.b, .str a0.f4.v.s, .sl .ro 5 (encs a0.f4.v.t), .int .i64 a0.f4.n, .sl .ro 8 (enxs a0.f4.a), .int .i64 a0.f5, .int .i64 a0.f6]) rfl rfl rfl rfl rfl rfl 0 rfl ?_
 refine AL.alc good (d := 4) rfl rfl rfl rfl rfl 1 rfl ?_
 refine Av (.int .i64 0) rfl ?_
 refine AW.sj (n := 126) (fun z : Nat => [(1, .sl .ro 2 (enys a1)), (2, .ptr 0 0), (4, .ptr 1 0)]) (fun z => [(0, .box 46 [.int .i64 a0.f0, .str a0.f1, .int .i64 a0.f2.kind, .sl .ro 2 (enys a0.f2.of), .sl .ro 8 (enxs a0.f3), .str a0.f4.op, .int .i64 a0.f4.v.kind, .int .i64 a0.f4.v.i, .bool a0.f4.v.b, .str a0.f4.v.s, .sl .ro 5 (encs a0.f4.v.t), .int .i64 a0.f4.n, .sl .ro 8 (enxs a0.f4.a), .int .i64 a0.f5, .int .i64 a0.f6]), (1, .box 38 [.int .i64 0, .sl .nil 0 []])]) (fun z => s_f1002_j1 z a0 a1 = some r ∧ z ≤ n) ?_ ?_
 ·skip
  refine AW.block ?_
  refine AW.seq (Rg ?_)
  refine Av (.ptr 0 0) rfl ?_
  refine Av (.int .i64 a0.f0) rfl ?_
  refine Av (.bool (decide (a0.f0 < 1))) rfl ?_
  refine AL.vb good (d := 18) (b := (decide (a0.f0 < 1))) rfl rfl rfl rfl (fun g1 h2 => ?_)
  refine Gv ((!g1)) (.ptr 0 0) rfl (by cases g1 <;> exact ⟨rfl, fun h => by first | rfl | cases h⟩) ?_
  refine Gv ((!g1)) (.int .i64 a0.f0) rfl (by cases g1 <;> exact ⟨rfl, fun h => by first | rfl | cases h⟩) ?_
  refine Gv ((!g1)) (.bool (decide (a0.f0 > 9))) rfl (by cases g1 <;> exact ⟨rfl, fun h => by first | rfl | cases h⟩) ?_
  refine AL.v good (d := 22) (v := .bool (g1 || (decide (a0.f0 > 9)))) (rd := []) rfl rfl rfl (by cases g1 <;> rfl) ?_
  refine Av (.bool (g1 || (decide (a0.f0 > 9)))) rfl ?_
  subst h2
  refine AW.if rfl (fun h3 => ?_) (fun h3 => ?_)
  ·replace hr := cnd_t h3 hr
   refine AW.seq (Rg ?_)
   refine AL.bld good (d := 23) (l := [.int .i64 0, .sl .nil 0 []]) rfl rfl rfl rfl rfl rfl rfl ?_
   refine AL.st2 good (c2 := [.int .i64 0, .sl .nil 0 []]) rfl rfl rfl rfl rfl rfl rfl rfl rfl rfl rfl rfl ?_
   refine Av (.int .i64 6) rfl ?_
   refine AW.ret ?_
   obtain rfl := Option.some.inj hr
   exact RetQ.w good (.inr rfl) rfl rfl ⟨⟨Wv.refl _, ⟨.inr rfl, trivial, .inr rfl⟩, trivial⟩, Wv.refl _, trivial⟩ (by simp)
  ·replace hr := cnd_f h3 hr
   refine AW.seq (Rg ?_)
   refine Av (.ptr 0 0) rfl ?_
   refine Av (.int .i64 a0.f0) rfl ?_
   refine Av (.bool (a0.f0 == 1)) rfl ?_
   refine Av (.bool (a0.f0 == 1)) rfl ?_
   refine AL.cs 28 rfl (fun h4 => ?_) (fun h4 => ?_)
   ·replace hr := cnd_t h4 hr
    refine AL.sk good (d := 29) rfl rfl rfl ?_
    refine AL.sk good (d := 30) rfl rfl rfl ?_
    refine AL.sk good (d := 31) rfl rfl rfl ?_
    refine Av (.bool true) rfl ?_
    refine Av (.bool true) rfl ?_
    refine Av (.ptr 0 1) rfl ?_
    refine Av (.str a0.f1) rfl ?_
    obtain ⟨q5, h6, hr⟩ := bnd1 hr
    refine AL.cw good (d := 36) (xs := [.str a0.f1]) (res := .bool q5) rfl rfl rfl rfl rfl rfl rfl (w_f1007 _ _ _ h6) ⟨(Wv.refl _), trivial⟩ (by simp) ?_
    refine Av (.bool (!q5)) rfl ?_
    refine Av (.bool (!q5)) rfl ?_
    refine Av (.bool (!q5)) rfl ?_
    refine AW.if rfl (fun h7 => ?_) (fun h7 => ?_)
    ·replace hr := cnd_t h7 hr
     refine AW.seq (Rg ?_)
     refine AL.bld good (d := 39) (l := [.int .i64 0, .sl .nil 0 []]) rfl rfl rfl rfl rfl rfl rfl ?_
     refine AL.st2 good (c2 := [.int .i64 0, .sl .nil 0 []]) rfl rfl rfl rfl rfl rfl rfl rfl rfl rfl rfl rfl ?_
     refine Av (.int .i64 6) rfl ?_
     refine AW.ret ?_
     obtain rfl := Option.some.inj hr
     exact RetQ.w good (.inr rfl) rfl rfl ⟨⟨Wv.refl _, ⟨.inr rfl, trivial, .inr rfl⟩, trivial⟩, Wv.refl _, trivial⟩ (by simp)
    ·replace hr := cnd_f h7 hr
     refine AW.seq (Rg ?_)
     refine Av (.agg [.int .i64 a0.f0, .str a0.f1, .int .i64 a0.f2.kind, .sl .ro 2 (enys a0.f2.of), .sl .ro 8 (enxs a0.f3), .str a0.f4.op, .int .i64 a0.f4.v.kind, .int .i64 a0.f4.v.i, .bool a0.f4.v.b, .str a0.f4.v.s, .sl .ro 5 (encs a0.f4.v.t), .int .i64 a0.f4.n, .sl .ro 8 (enxs a0.f4.a), .int .i64 a0.f5, .int .i64 a0.f6]) rfl ?_
     obtain ⟨q8, h9, hr⟩ := bnd1 hr
     refine AL.cw good (d := 42) (xs := [.agg [.int .i64 a0.f0, .str a0.f1, .int .i64 a0.f2.kind, .sl .ro 2 (enys a0.f2.of), .sl .ro 8 (enxs a0.f3), .str a0.f4.op, .int .i64 a0.f4.v.kind, .int .i64 a0.f4.v.i, .bool a0.f4.v.b, .str a0.f4.v.s, .sl .ro 5 (encs a0.f4.v.t), .int .i64 a0.f4.n, .sl .ro 8 (enxs a0.f4.a), .int .i64 a0.f5, .int .i64 a0.f6]]) (res := .bool q8) rfl rfl rfl rfl rfl rfl rfl (w_f1008 _ _ _ h9) ⟨(Wv.refl _), trivial⟩ (by simp) ?_
     refine Av (.bool q8) rfl ?_
     refine AL.cs 43 rfl (fun h10 => ?_) (fun h10 => ?_)
     ·replace hr := cnd_t h10 hr
      refine AL.sk good (d := 44) rfl rfl rfl ?_
      refine AL.sk good (d := 45) rfl rfl rfl ?_
      refine AL.sk good (d := 46) rfl rfl rfl ?_
      refine AL.sk good (d := 47) rfl rfl rfl ?_
      refine AL.sk good (d := 48) rfl rfl rfl ?_
      refine AL.sk good (d := 49) rfl rfl rfl ?_
      refine Av (.bool true) rfl ?_
      refine Av (.bool true) rfl ?_
      refine AW.if rfl (fun h => ?_) (fun h => by cases h)
      refine AW.seq (Rg ?_)
      refine AL.bld good (d := 51) (l := [.int .i64 0, .sl .nil 0 []]) rfl rfl rfl rfl rfl rfl rfl ?_
      refine AL.st2 good (c2 := [.int .i64 0, .sl .nil 0 []]) rfl rfl rfl rfl rfl rfl rfl rfl rfl rfl rfl rfl ?_
      refine Av (.int .i64 1) rfl ?_
      refine AW.ret ?_
      obtain rfl := Option.some.inj hr
      exact RetQ.w good (.inr rfl) rfl rfl ⟨⟨Wv.refl _, ⟨.inr rfl, trivial, .inr rfl⟩, trivial⟩, Wv.refl _, trivial⟩ (by simp)
     ·replace hr := cnd_f h10 hr
      refine Av (.ptr 0 0) rfl ?_
      refine Av (.int .i64 a0.f0) rfl ?_
      refine Av (.sl .ro 2 (enys a1)) rfl ?_
      refine AL.ln good (d := 47) (m := a1.length) rfl rfl rfl rfl rfl rfl (enys_length _) ?_
      obtain ⟨q11, h12, hr⟩ := bnd1 hr
      refine AL.cw good (d := 48) (xs := [.int .i64 a0.f0, .int .i64 (a1.length : Int)]) (res := .bool q11) rfl rfl rfl rfl rfl rfl rfl (w_f1009 _ _ _ _ h12) ⟨(Wv.refl _), (Wv.refl _), trivial⟩ (by simp) ?_
      refine Av (.bool (!q11)) rfl ?_
      refine Av (.bool (!q11)) rfl ?_
      refine Av (.bool (!q11)) rfl ?_
      refine AW.if rfl (fun h13 => ?_) (fun h13 => ?_)
      ·replace hr := cnd_t h13 hr
       refine AW.seq (Rg ?_)
       refine AL.bld good (d := 51) (l := [.int .i64 0, .sl .nil 0 []]) rfl rfl rfl rfl rfl rfl rfl ?_
       refine AL.st2 good (c2 := [.int .i64 0, .sl .nil 0 []]) rfl rfl rfl rfl rfl rfl rfl rfl rfl rfl rfl rfl ?_
       refine Av (.int .i64 1) rfl ?_
       refine AW.ret ?_
       obtain rfl := Option.some.inj hr
       exact RetQ.w good (.inr rfl) rfl rfl ⟨⟨Wv.refl _, ⟨.inr rfl, trivial, .inr rfl⟩, trivial⟩, Wv.refl _, trivial⟩ (by simp)
      ·replace hr := cnd_f h13 hr
       refine AW.skip ?_
       exact ⟨n, _, _, rfl, ⟨(fun _ h => by cases h), fmc ⟨⟨⟨_, rfl, Wv.refl _⟩, (by simp)⟩, fmc ⟨⟨⟨_, rfl, Wv.refl _⟩, (by simp)⟩, fmc ⟨⟨⟨_, rfl, Wv.refl _⟩, (by simp)⟩, (fun _ h => by cases h)⟩⟩⟩, fmc ⟨⟨⟨_, rfl, ⟨rfl, ⟨Wv.refl _, Wv.refl _, Wv.refl _, Wv.refl _, Wv.refl _, Wv.refl _, Wv.refl _, Wv.refl _, Wv.refl _, Wv.refl _, Wv.refl _, Wv.refl _, Wv.refl _, Wv.refl _, Wv.refl _, trivial⟩⟩⟩, (by simp)⟩, fmc ⟨⟨⟨_, rfl, ⟨rfl, ⟨Wv.refl _, Wv.refl _, trivial⟩⟩⟩, (by simp)⟩, (fun _ h => by cases h)⟩⟩⟩, ⟨hr, by (try dsimp only); omega⟩⟩
   ·replace hr := cnd_f h4 hr
    refine Av (.ptr 0 0) rfl ?_
    refine Av (.int .i64 a0.f0) rfl ?_
    refine Av (.bool (a0.f0 == 9)) rfl ?_
    refine Av (.bool (a0.f0 == 9)) rfl ?_
    refine Av (.bool (a0.f0 == 9)) rfl ?_
    refine AL.cs 33 rfl (fun h14 => ?_) (fun h14 => ?_)
    ·replace hr := cnd_t h14 hr
     refine Av (.ptr 0 1) rfl ?_
     refine Av (.str a0.f1) rfl ?_
     obtain ⟨q15, h16, hr⟩ := bnd1 hr
     refine AL.cw good (d := 36) (xs := [.str a0.f1]) (res := .bool q15) rfl rfl rfl rfl rfl rfl rfl (w_f1007 _ _ _ h16) ⟨(Wv.refl _), trivial⟩ (by simp) ?_
     refine Av (.bool (!q15)) rfl ?_
     refine Av (.bool (!q15)) rfl ?_
     refine Av (.bool (!q15)) rfl ?_
     refine AW.if rfl (fun h17 => ?_) (fun h17 => ?_)
     ·replace hr := cnd_t h17 hr
      refine AW.seq (Rg ?_)
      refine AL.bld good (d := 39) (l := [.int .i64 0, .sl .nil 0 []]) rfl rfl rfl rfl rfl rfl rfl ?_
      refine AL.st2 good (c2 := [.int .i64 0, .sl .nil 0 []]) rfl rfl rfl rfl rfl rfl rfl rfl rfl rfl rfl rfl ?_
      refine Av (.int .i64 6) rfl ?_
      refine AW.ret ?_
      obtain rfl := Option.some.inj hr
      exact RetQ.w good (.inr rfl) rfl rfl ⟨⟨Wv.refl _, ⟨.inr rfl, trivial, .inr rfl⟩, trivial⟩, Wv.refl _, trivial⟩ (by simp)
     ·replace hr := cnd_f h17 hr
      refine AW.seq (Rg ?_)
      refine Av (.agg [.int .i64 a0.f0, .str a0.f1, .int .i64 a0.f2.kind, .sl .ro 2 (enys a0.f2.of), .sl .ro 8 (enxs a0.f3), .str a0.f4.op, .int .i64 a0.f4.v.kind, .int .i64 a0.f4.v.i, .bool a0.f4.v.b, .str a0.f4.v.s, .sl .ro 5 (encs a0.f4.v.t), .int .i64 a0.f4.n, .sl .ro 8 (enxs a0.f4.a), .int .i64 a0.f5, .int .i64 a0.f6]) rfl ?_
      obtain ⟨q18, h19, hr⟩ := bnd1 hr
      refine AL.cw good (d := 42) (xs := [.agg [.int .i64 a0.f0, .str a0.f1, .int .i64 a0.f2.kind, .sl .ro 2 (enys a0.f2.of), .sl .ro 8 (enxs a0.f3), .str a0.f4.op, .int .i64 a0.f4.v.kind, .int .i64 a0.f4.v.i, .bool a0.f4.v.b, .str a0.f4.v.s, .sl .ro 5 (encs a0.f4.v.t), .int .i64 a0.f4.n, .sl .ro 8 (enxs a0.f4.a), .int .i64 a0.f5, .int .i64 a0.f6]]) (res := .bool q18) rfl rfl rfl rfl rfl rfl rfl (w_f1008 _ _ _ h19) ⟨(Wv.refl _), trivial⟩ (by simp) ?_
      refine Av (.bool q18) rfl ?_
      refine AL.cs 43 rfl (fun h20 => ?_) (fun h20 => ?_)
      ·replace hr := cnd_t h20 hr
       refine AL.sk good (d := 44) rfl rfl rfl ?_
       refine AL.sk good (d := 45) rfl rfl rfl ?_
       refine AL.sk good (d := 46) rfl rfl rfl ?_
       refine AL.sk good (d := 47) rfl rfl rfl ?_
       refine AL.sk good (d := 48) rfl rfl rfl ?_
       refine AL.sk good (d := 49) rfl rfl rfl ?_
       refine Av (.bool true) rfl ?_
       refine Av (.bool true) rfl ?_
       refine AW.if rfl (fun h => ?_) (fun h => by cases h)
       refine AW.seq (Rg ?_)
       refine AL.bld good (d := 51) (l := [.int .i64 0, .sl .nil 0 []]) rfl rfl rfl rfl rfl rfl rfl ?_
       refine AL.st2 good (c2 := [.int .i64 0, .sl .nil 0 []]) rfl rfl rfl rfl rfl rfl rfl rfl rfl rfl rfl rfl ?_
       refine Av (.int .i64 1) rfl ?_
       refine AW.ret ?_
       obtain rfl := Option.some.inj hr
       exact RetQ.w good (.inr rfl) rfl rfl ⟨⟨Wv.refl _, ⟨.inr rfl, trivial, .inr rfl⟩, trivial⟩, Wv.refl _, trivial⟩ (by simp)
      ·replace hr := cnd_f h20 hr
       refine Av (.ptr 0 0) rfl ?_
       refine Av (.int .i64 a0.f0) rfl ?_
       refine Av (.sl .ro 2 (enys a1)) rfl ?_
       refine AL.ln good (d := 47) (m := a1.length) rfl rfl rfl rfl rfl rfl (enys_length _) ?_
       obtain ⟨q21, h22, hr⟩ := bnd1 hr
       refine AL.cw good (d := 48) (xs := [.int .i64 a0.f0, .int .i64 (a1.length : Int)]) (res := .bool q21) rfl rfl rfl rfl rfl rfl rfl (w_f1009 _ _ _ _ h22) ⟨(Wv.refl _), (Wv.refl _), trivial⟩ (by simp) ?_
       refine Av (.bool (!q21)) rfl ?_
       refine Av (.bool (!q21)) rfl ?_
       refine Av (.bool (!q21)) rfl ?_
       refine AW.if rfl (fun h23 => ?_) (fun h23 => ?_)
       ·replace hr := cnd_t h23 hr
        refine AW.seq (Rg ?_)
        refine AL.bld good (d := 51) (l := [.int .i64 0, .sl .nil 0 []]) rfl rfl rfl rfl rfl rfl rfl ?_
        refine AL.st2 good (c2 := [.int .i64 0, .sl .nil 0 []]) rfl rfl rfl rfl rfl rfl rfl rfl rfl rfl rfl rfl ?_
        refine Av (.int .i64 1) rfl ?_
        refine AW.ret ?_
        obtain rfl := Option.some.inj hr
        exact RetQ.w good (.inr rfl) rfl rfl ⟨⟨Wv.refl _, ⟨.inr rfl, trivial, .inr rfl⟩, trivial⟩, Wv.refl _, trivial⟩ (by simp)
       ·replace hr := cnd_f h23 hr
        refine AW.skip ?_
        exact ⟨n, _, _, rfl, ⟨(fun _ h => by cases h), fmc ⟨⟨⟨_, rfl, Wv.refl _⟩, (by simp)⟩, fmc ⟨⟨⟨_, rfl, Wv.refl _⟩, (by simp)⟩, fmc ⟨⟨⟨_, rfl, Wv.refl _⟩, (by simp)⟩, (fun _ h => by cases h)⟩⟩⟩, fmc ⟨⟨⟨_, rfl, ⟨rfl, ⟨Wv.refl _, Wv.refl _, Wv.refl _, Wv.refl _, Wv.refl _, Wv.refl _, Wv.refl _, Wv.refl _, Wv.refl _, Wv.refl _, Wv.refl _, Wv.refl _, Wv.refl _, Wv.refl _, Wv.refl _, trivial⟩⟩⟩, (by simp)⟩, fmc ⟨⟨⟨_, rfl, ⟨rfl, ⟨Wv.refl _, Wv.refl _, trivial⟩⟩⟩, (by simp)⟩, (fun _ h => by cases h)⟩⟩⟩, ⟨hr, by (try dsimp only); omega⟩⟩
    ·replace hr := cnd_f h14 hr
     refine AL.sk good (d := 34) rfl rfl rfl ?_
     refine AL.sk good (d := 35) rfl rfl rfl ?_
     refine AL.sk good (d := 36) rfl rfl rfl ?_
     refine AL.sk good (d := 37) rfl rfl rfl ?_
     refine Av (.bool false) rfl ?_
     refine Av (.bool false) rfl ?_
     refine AW.if rfl (fun h => by cases h) (fun h => ?_)
     refine AW.seq (Rg ?_)
     refine Av (.agg [.int .i64 a0.f0, .str a0.f1, .int .i64 a0.f2.kind, .sl .ro 2 (enys a0.f2.of), .sl .ro 8 (enxs a0.f3), .str a0.f4.op, .int .i64 a0.f4.v.kind, .int .i64 a0.f4.v.i, .bool a0.f4.v.b, .str a0.f4.v.s, .sl .ro 5 (encs a0.f4.v.t), .int .i64 a0.f4.n, .sl .ro 8 (enxs a0.f4.a), .int .i64 a0.f5, .int .i64 a0.f6]) rfl ?_
     obtain ⟨q24, h25, hr⟩ := bnd1 hr
     refine AL.cw good (d := 42) (xs := [.agg [.int .i64 a0.f0, .str a0.f1, .int .i64 a0.f2.kind, .sl .ro 2 (enys a0.f2.of), .sl .ro 8 (enxs a0.f3), .str a0.f4.op, .int .i64 a0.f4.v.kind, .int .i64 a0.f4.v.i, .bool a0.f4.v.b, .str a0.f4.v.s, .sl .ro 5 (encs a0.f4.v.t), .int .i64 a0.f4.n, .sl .ro 8 (enxs a0.f4.a), .int .i64 a0.f5, .int .i64 a0.f6]]) (res := .bool q24) rfl rfl rfl rfl rfl rfl rfl (w_f1008 _ _ _ h25) ⟨(Wv.refl _), trivial⟩ (by simp) ?_
     refine Av (.bool q24) rfl ?_
     refine AL.cs 43 rfl (fun h26 => ?_) (fun h26 => ?_)
     ·replace hr := cnd_t h26 hr
      refine AL.sk good (d := 44) rfl rfl rfl ?_
      refine AL.sk good (d := 45) rfl rfl rfl ?_
      refine AL.sk good (d := 46) rfl rfl rfl ?_
      refine AL.sk good (d := 47) rfl rfl rfl ?_
      refine AL.sk good (d := 48) rfl rfl rfl ?_
      refine AL.sk good (d := 49) rfl rfl rfl ?_
      refine Av (.bool true) rfl ?_
      refine Av (.bool true) rfl ?_
      refine AW.if rfl (fun h => ?_) (fun h => by cases h)
      refine AW.seq (Rg ?_)
      refine AL.bld good (d := 51) (l := [.int .i64 0, .sl .nil 0 []]) rfl rfl rfl rfl rfl rfl rfl ?_
      refine AL.st2 good (c2 := [.int .i64 0, .sl .nil 0 []]) rfl rfl rfl rfl rfl rfl rfl rfl rfl rfl rfl rfl ?_
      refine Av (.int .i64 1) rfl ?_
      refine AW.ret ?_
      obtain rfl := Option.some.inj hr
      exact RetQ.w good (.inr rfl) rfl rfl ⟨⟨Wv.refl _, ⟨.inr rfl, trivial, .inr rfl⟩, trivial⟩, Wv.refl _, trivial⟩ (by simp)
     ·replace hr := cnd_f h26 hr
      refine Av (.ptr 0 0) rfl ?_
      refine Av (.int .i64 a0.f0) rfl ?_
      refine Av (.sl .ro 2 (enys a1)) rfl ?_
      refine AL.ln good (d := 47) (m := a1.length) rfl rfl rfl rfl rfl rfl (enys_length _) ?_
      obtain ⟨q27, h28, hr⟩ := bnd1 hr
      refine AL.cw good (d := 48) (xs := [.int .i64 a0.f0, .int .i64 (a1.length : Int)]) (res := .bool q27) rfl rfl rfl rfl rfl rfl rfl (w_f1009 _ _ _ _ h28) ⟨(Wv.refl _), (Wv.refl _), trivial⟩ (by simp) ?_
      refine Av (.bool (!q27)) rfl ?_
      refine Av (.bool (!q27)) rfl ?_
      refine Av (.bool (!q27)) rfl ?_
      refine AW.if rfl (fun h29 => ?_) (fun h29 => ?_)
      ·replace hr := cnd_t h29 hr
       refine AW.seq (Rg ?_)
       refine AL.bld good (d := 51) (l := [.int .i64 0, .sl .nil 0 []]) rfl rfl rfl rfl rfl rfl rfl ?_
       refine AL.st2 good (c2 := [.int .i64 0, .sl .nil 0 []]) rfl rfl rfl rfl rfl rfl rfl rfl rfl rfl rfl rfl ?_
       refine Av (.int .i64 1) rfl ?_
       refine AW.ret ?_
       obtain rfl := Option.some.inj hr
       exact RetQ.w good (.inr rfl) rfl rfl ⟨⟨Wv.refl _, ⟨.inr rfl, trivial, .inr rfl⟩, trivial⟩, Wv.refl _, trivial⟩ (by simp)
      ·replace hr := cnd_f h29 hr
       refine AW.skip ?_
       exact ⟨n, _, _, rfl, ⟨(fun _ h => by cases h), fmc ⟨⟨⟨_, rfl, Wv.refl _⟩, (by simp)⟩, fmc ⟨⟨⟨_, rfl, Wv.refl _⟩, (by simp)⟩, fmc ⟨⟨⟨_, rfl, Wv.refl _⟩, (by simp)⟩, (fun _ h => by cases h)⟩⟩⟩, fmc ⟨⟨⟨_, rfl, ⟨rfl, ⟨Wv.refl _, Wv.refl _, Wv.refl _, Wv.refl _, Wv.refl _, Wv.refl _, Wv.refl _, Wv.refl _, Wv.refl _, Wv.refl _, Wv.refl _, Wv.refl _, Wv.refl _, Wv.refl _, Wv.refl _, trivial⟩⟩⟩, (by simp)⟩, fmc ⟨⟨⟨_, rfl, ⟨rfl, ⟨Wv.refl _, Wv.refl _, trivial⟩⟩⟩, (by simp)⟩, (fun _ h => by cases h)⟩⟩⟩, ⟨hr, by (try dsimp only); omega⟩⟩
 ·rintro m ⟨hr, hm⟩
  try dsimp only at hr hm
  cases m with
  | zero => rw [s_f1002_j1] at hr; cases hr
  | succ m =>
   rw [s_f1002_j1] at hr
   show AW Tryz.prog _ _ _ (mkS 126 [(1, .sl .ro 2 (enys a1)), (2, .ptr 0 0), (4, .ptr 1 0)] [(0, .box 46 [.int .i64 a0.f0, .str a0.f1, .int .i64 a0.f2.kind, .sl .ro 2 (enys a0.f2.of), .sl .ro 8 (enxs a0.f3), .str a0.f4.op, .int .i64 a0.f4.v.kind, .int .i64 a0.f4.v.i, .bool a0.f4.v.b, .str a0.f4.v.s, .sl .ro 5 (encs a0.f4.v.t), .int .i64 a0.f4.n, .sl .ro 8 (enxs a0.f4.a), .int .i64 a0.f5, .int .i64 a0.f6]), (1, .box 38 [.int .i64 0, .sl .nil 0 []])])
   refine AW.seq ?_
   refine AW.seq (Rg ?_)
   refine Av (.int .i64 0) rfl ?_
   refine AW.block ?_
   refine AW.lens 1 rfl (fun hl37 => ?_)
   replace hl37 : a1.length ≤ 9223372036854775807 := by rw [← enys_length a1]; exact hl37
   refine AW.lpw (fun x : Nat × Nat => [(1, .sl .ro 2 (enys a1)), (2, .ptr 0 0), (4, .ptr 1 0), (6, .int .i64 (x.2 : Int))]) (fun x => [(0, .box 46 [.int .i64 a0.f0, .str a0.f1, .int .i64 a0.f2.kind, .sl .ro 2 (enys a0.f2.of), .sl .ro 8 (enxs a0.f3), .str a0.f4.op, .int .i64 a0.f4.v.kind, .int .i64 a0.f4.v.i, .bool a0.f4.v.b, .str a0.f4.v.s, .sl .ro 5 (encs a0.f4.v.t), .int .i64 a0.f4.n, .sl .ro 8 (enxs a0.f4.a), .int .i64 a0.f5, .int .i64 a0.f6]), (1, .box 38 [.int .i64 0, .sl .nil 0 []])]) (fun x => s_f1002_l2 x.1 a0 a1 x.2 = some r ∧ x.1 ≤ m) (fun x => x.1) (m, 0) ⟨(fun _ h => by cases h), fmc ⟨⟨⟨_, rfl, Wv.refl _⟩, (by simp)⟩, fmc ⟨⟨⟨_, rfl, Wv.refl _⟩, (by simp)⟩, fmc ⟨⟨⟨_, rfl, Wv.refl _⟩, (by simp)⟩, fmc ⟨⟨⟨_, rfl, Wv.refl _⟩, (by simp)⟩, (fun _ h => by cases h)⟩⟩⟩⟩, fmc ⟨⟨⟨_, rfl, ⟨rfl, ⟨Wv.refl _, Wv.refl _, Wv.refl _, Wv.refl _, Wv.refl _, Wv.refl _, Wv.refl _, Wv.refl _, Wv.refl _, Wv.refl _, Wv.refl _, Wv.refl _, Wv.refl _, Wv.refl _, Wv.refl _, trivial⟩⟩⟩, (by simp)⟩, fmc ⟨⟨⟨_, rfl, ⟨rfl, ⟨Wv.refl _, Wv.refl _, trivial⟩⟩⟩, (by simp)⟩, (fun _ h => by cases h)⟩⟩⟩ ⟨hr, Nat.le_refl _⟩ (fun ⟨m, v2_1⟩ hx => ?_)
   obtain ⟨hr, hm⟩ := hx
   try dsimp only at hr hm
   cases m with
   | zero => rw [s_f1002_l2] at hr; cases hr
   | succ m =>
    rw [s_f1002_l2] at hr
    show AW Tryz.prog _ _ _ (mkS 126 [(1, .sl .ro 2 (enys a1)), (2, .ptr 0 0), (4, .ptr 1 0), (6, .int .i64 (v2_1 : Int))] [(0, .box 46 [.int .i64 a0.f0, .str a0.f1, .int .i64 a0.f2.kind, .sl .ro 2 (enys a0.f2.of), .sl .ro 8 (enxs a0.f3), .str a0.f4.op, .int .i64 a0.f4.v.kind, .int .i64 a0.f4.v.i, .bool a0.f4.v.b, .str a0.f4.v.s, .sl .ro 5 (encs a0.f4.v.t), .int .i64 a0.f4.n, .sl .ro 8 (enxs a0.f4.a), .int .i64 a0.f5, .int .i64 a0.f6]), (1, .box 38 [.int .i64 0, .sl .nil 0 []])])
    refine AW.seq ?_
    refine AW.seq (Rg ?_)
    refine Av (.int .i64 (v2_1 : Int)) rfl ?_
    refine Av (.sl .ro 2 (enys a1)) rfl ?_
    refine AL.ln good (d := 54) (m := a1.length) rfl rfl rfl rfl rfl rfl (enys_length _) ?_
    refine Av (.bool (decide ((v2_1 : Int) < (a1.length : Int)))) rfl ?_
    refine AW.if rfl (fun h38 => ?_) (fun h38 => ?_)
    ·replace hr := cnd_t h38 hr
     refine AW.skip ?_
     refine AW.seq ?_
     refine AW.block ?_
     refine AW.seq (Rg ?_)
     refine Av (.sl .ro 2 (enys a1)) rfl ?_
     refine Av (.int .i64 (v2_1 : Int)) rfl ?_
     obtain ⟨x39, h40, hr⟩ := bnd1 hr
     refine AL.ix good (d := 60) (r := [.int .i64 x39.kind, .sl .ro 2 (enys x39.of)]) rfl rfl rfl rfl rfl rfl rfl (Int.natCast_nonneg _) (enys_get h40) ?_
     refine Av (.agg [.int .i64 x39.kind, .sl .ro 2 (enys x39.of)]) rfl ?_
     obtain ⟨q41, h42, hr⟩ := bnd1 hr
     refine AL.cw good (d := 62) (xs := [.agg (tyC x39)]) (res := .int .i64 q41) rfl rfl rfl rfl rfl rfl rfl (w_f56 _ _ _ h42) ⟨(Wv.refl _), trivial⟩ (by simp) ?_
     refine Av (.bool (q41 != 0)) rfl ?_
     refine AW.if rfl (fun h43 => ?_) (fun h43 => ?_)
     ·replace hr := cnd_t h43 hr
      refine AW.seq (Rg ?_)
      refine AL.bld good (d := 64) (l := [.int .i64 0, .sl .nil 0 []]) rfl rfl rfl rfl rfl rfl rfl ?_
      refine AL.st2 good (c2 := [.int .i64 0, .sl .nil 0 []]) rfl rfl rfl rfl rfl rfl rfl rfl rfl rfl rfl rfl ?_
      refine Av (.int .i64 5) rfl ?_
      refine AW.ret ?_
      obtain rfl := Option.some.inj hr
      exact RetQ.w good (.inr rfl) rfl rfl ⟨⟨Wv.refl _, ⟨.inr rfl, trivial, .inr rfl⟩, trivial⟩, Wv.refl _, trivial⟩ (by simp)
     ·replace hr := cnd_f h43 hr
      refine AW.skip ?_
      refine Rg ?_
      refine Av (.int .i64 (v2_1 : Int)) rfl ?_
      refine Av (.int .i64 (IntKind.i64.wrap ((v2_1 : Int) + 1))) rfl ?_
      refine Av (.int .i64 (IntKind.i64.wrap ((v2_1 : Int) + 1))) rfl ?_
      exact ⟨(m, (v2_1 + 1)), _, _, rfl, ⟨(fun _ h => by cases h), fmc ⟨⟨⟨_, rfl, Wv.refl _⟩, (by simp)⟩, fmc ⟨⟨⟨_, rfl, Wv.refl _⟩, (by simp)⟩, fmc ⟨⟨⟨_, rfl, Wv.refl _⟩, (by simp)⟩, fmc ⟨⟨⟨_, rfl, (wnx h38 hl37)⟩, (by simp)⟩, (fun _ h => by cases h)⟩⟩⟩⟩, fmc ⟨⟨⟨_, rfl, ⟨rfl, ⟨Wv.refl _, Wv.refl _, Wv.refl _, Wv.refl _, Wv.refl _, Wv.refl _, Wv.refl _, Wv.refl _, Wv.refl _, Wv.refl _, Wv.refl _, Wv.refl _, Wv.refl _, Wv.refl _, Wv.refl _, trivial⟩⟩⟩, (by simp)⟩, fmc ⟨⟨⟨_, rfl, ⟨rfl, ⟨Wv.refl _, Wv.refl _, trivial⟩⟩⟩, (by simp)⟩, (fun _ h => by cases h)⟩⟩⟩, ⟨hr, Nat.le_of_succ_le hm⟩, Nat.lt_succ_self _⟩
    ·replace hr := cnd_f h38 hr
     refine AW.exit ?_
     refine AW.seq ?_
     refine AW.seq (Rg ?_)
     refine Av (.ptr 0 0) rfl ?_
     refine Av (.int .i64 a0.f0) rfl ?_
     refine Av (.bool (a0.f0 == 1)) rfl ?_
     refine AW.if rfl (fun h44 => ?_) (fun h44 => ?_)
     ·replace hr := cnd_t h44 hr
      refine AW.seq ?_
      refine AW.seq (Rg ?_)
      refine Av (.ptr 0 2) rfl ?_
      refine Av (.agg [.int .i64 a0.f2.kind, .sl .ro 2 (enys a0.f2.of)]) rfl ?_
      obtain ⟨q45, h46, hr⟩ := bnd1 hr
      refine AL.cw good (d := 70) (xs := [.agg (tyC a0.f2)]) (res := .int .i64 q45) rfl rfl rfl rfl rfl rfl rfl (w_f56 _ _ _ h46) ⟨(Wv.refl _), trivial⟩ (by simp) ?_
      refine Av (.bool (q45 != 0)) rfl ?_
      refine AW.if rfl (fun h47 => ?_) (fun h47 => ?_)
      ·replace hr := cnd_t h47 hr
       refine AW.seq (Rg ?_)
       refine AL.bld good (d := 72) (l := [.int .i64 0, .sl .nil 0 []]) rfl rfl rfl rfl rfl rfl rfl ?_
       refine AL.st2 good (c2 := [.int .i64 0, .sl .nil 0 []]) rfl rfl rfl rfl rfl rfl rfl rfl rfl rfl rfl rfl ?_
       refine Av (.int .i64 5) rfl ?_
       refine AW.ret ?_
       obtain rfl := Option.some.inj hr
       exact RetQ.w good (.inr rfl) rfl rfl ⟨⟨Wv.refl _, ⟨.inr rfl, trivial, .inr rfl⟩, trivial⟩, Wv.refl _, trivial⟩ (by simp)
      ·replace hr := cnd_f h47 hr
       refine AW.skip ?_
       refine AW.seq (Rg ?_)
       refine Av (.ptr 0 2) rfl ?_
       refine Av (.agg [.int .i64 a0.f2.kind, .sl .ro 2 (enys a0.f2.of)]) rfl ?_
       refine AL.st2 good (c2 := [.int .i64 a0.f2.kind, .sl .ro 2 (enys a0.f2.of)]) rfl rfl rfl rfl rfl rfl rfl rfl rfl rfl rfl rfl ?_
       refine Av (.int .i64 0) rfl ?_
       refine AW.ret ?_
       obtain rfl := Option.some.inj hr
       exact RetQ.w good (.inr rfl) rfl rfl (Wv.refl _) (by simp)
     ·replace hr := cnd_f h44 hr
      refine AW.skip ?_
      refine AW.seq (Rg ?_)
      refine AL.bld good (d := 75) (l := [.int .i64 0, .sl .nil 0 []]) rfl rfl rfl rfl rfl rfl rfl ?_
      refine AL.alc good (d := 7) rfl rfl rfl rfl rfl 2 rfl ?_
      refine AL.st2 good (c2 := [.int .i64 0, .sl .nil 0 []]) rfl rfl rfl rfl rfl rfl rfl rfl rfl rfl rfl rfl ?_
      refine AW.sj (n := 126) (fun z : Nat × Int × (List Ty) => [(1, .sl .ro 2 (enys a1)), (2, .ptr 0 0), (4, .ptr 1 0), (7, .ptr 2 0)]) (fun z => [(0, .box 46 [.int .i64 a0.f0, .str a0.f1, .int .i64 a0.f2.kind, .sl .ro 2 (enys a0.f2.of), .sl .ro 8 (enxs a0.f3), .str a0.f4.op, .int .i64 a0.f4.v.kind, .int .i64 a0.f4.v.i, .bool a0.f4.v.b, .str a0.f4.v.s, .sl .ro 5 (encs a0.f4.v.t), .int .i64 a0.f4.n, .sl .ro 8 (enxs a0.f4.a), .int .i64 a0.f5, .int .i64 a0.f6]), (1, .box 38 [.int .i64 0, .sl .nil 0 []]), (2, .box 38 [.int .i64 z.2.1, .sl .ro 2 (enys z.2.2)])]) (fun z => s_f1002_j3 z.1 a0 a1 z.2.1 z.2.2 = some r ∧ z.1 ≤ m) ?_ ?_
      ·skip
       refine AW.seq (Rg ?_)
       refine Av (.agg [.int .i64 a0.f0, .str a0.f1, .int .i64 a0.f2.kind, .sl .ro 2 (enys a0.f2.of), .sl .ro 8 (enxs a0.f3), .str a0.f4.op, .int .i64 a0.f4.v.kind, .int .i64 a0.f4.v.i, .bool a0.f4.v.b, .str a0.f4.v.s, .sl .ro 5 (encs a0.f4.v.t), .int .i64 a0.f4.n, .sl .ro 8 (enxs a0.f4.a), .int .i64 a0.f5, .int .i64 a0.f6]) rfl ?_
       refine AL.cw good (d := 77) (xs := [.agg [.int .i64 a0.f0, .str a0.f1, .int .i64 a0.f2.kind, .sl .ro 2 (enys a0.f2.of), .sl .ro 8 (enxs a0.f3), .str a0.f4.op, .int .i64 a0.f4.v.kind, .int .i64 a0.f4.v.i, .bool a0.f4.v.b, .str a0.f4.v.s, .sl .ro 5 (encs a0.f4.v.t), .int .i64 a0.f4.n, .sl .ro 8 (enxs a0.f4.a), .int .i64 a0.f5, .int .i64 a0.f6]]) (res := .bool (((a0.f0 == 5) || (a0.f0 == 6)) || (a0.f0 == 7))) rfl rfl rfl rfl rfl rfl rfl (w_f1003 a0) ⟨(Wv.refl _), trivial⟩ (by simp) ?_
       refine AW.if rfl (fun h48 => ?_) (fun h48 => ?_)
       ·replace hr := cnd_t h48 hr
        refine AW.seq ?_
        refine AW.drawc (M := fun i => ⟨Nat.beq i 10, bif Nat.beq i 1 then some { ids := [0] } else bif Nat.beq i 4 then some { ids := [] } else bif Nat.beq i 9 then some { ids := [3] } else bif Nat.beq i 10 then some { ids := [3] } else none⟩) good.wide (by kernel_rfl) ?_
        refine Av (nc := ⟨rfl⟩) (.ptr 0 5) rfl ?_
        refine AL.vc good (d := 80) (v := .agg [.str a0.f4.op, .int .i64 a0.f4.v.kind, .int .i64 a0.f4.v.i, .bool a0.f4.v.b, .str a0.f4.v.s, .sl .ro 5 (encs a0.f4.v.t), .int .i64 a0.f4.n, .sl .ro 8 (enxs a0.f4.a)]) rfl rfl rfl rfl rfl rfl (fmc ⟨.head _, (fun _ h => by cases h)⟩) ?_
        refine Av (nc := ⟨rfl⟩) (.sl .ro 2 (enys a1)) rfl ?_
        obtain ⟨x49, h50, hr⟩ := bnd1 hr
        refine AL.ix (nc := ⟨rfl⟩) good (d := 82) (r := [.int .i64 x49.kind, .sl .ro 2 (enys x49.of)]) rfl rfl rfl rfl rfl rfl rfl (by decide) (enys_get h50) ?_
        refine AL.vc good (d := 83) (v := .agg [.int .i64 x49.kind, .sl .ro 2 (enys x49.of)]) rfl rfl rfl rfl rfl rfl (fun _ h => by cases h) ?_
        obtain ⟨q51, h52, hr⟩ := bnd1 hr
        refine AL.cw (nc := ⟨rfl⟩) good (d := 84) (xs := [.agg (exC a0.f4), .agg (tyC x49)]) (res := .tup [.agg [.int .i64 q51.1.kind, .sl .ro 2 (enys q51.1.of)], .int .i64 q51.2]) rfl rfl rfl rfl rfl rfl rfl (w_f20 _ _ _ _ h52) ⟨(Wv.refl _), (Wv.refl _), trivial⟩ (by simp) ?_
        refine Av (nc := ⟨rfl⟩) (.tup [.agg [.int .i64 q51.1.kind, .sl .ro 2 (enys q51.1.of)], .int .i64 q51.2]) rfl ?_
        refine Av (nc := ⟨rfl⟩) (.agg [.int .i64 q51.1.kind, .sl .ro 2 (enys q51.1.of)]) rfl ?_
        refine Av (nc := ⟨rfl⟩) (.int .i64 q51.2) rfl ?_
        refine AL.alcC good (d := 8) rfl rfl rfl rfl rfl 3 rfl (ColN.mk rfl rfl (fun _ h => by cases h) (fmc ⟨.head _, (fun _ h => by cases h)⟩) (fun _ h => by cases h)) ?_
        refine AL.st2c good (c2 := [.int .i64 q51.1.kind, .sl .ro 2 (enys q51.1.of)]) rfl rfl rfl rfl rfl rfl rfl rfl rfl rfl rfl rfl rfl ?_
        refine Av (nc := ⟨rfl⟩) (.int .i64 q51.2) rfl ?_
        refine AW.seq ?_
        refine AW.seq (Rg ?_)
        refine Av (.int .i64 q51.2) rfl ?_
        refine Av (.bool (q51.2 != 0)) rfl ?_
        refine AW.if rfl (fun h53 => ?_) (fun h53 => ?_)
        ·replace hr := cnd_t h53 hr
         refine AW.seq (Rg ?_)
         refine AL.bld good (d := 89) (l := [.int .i64 0, .sl .nil 0 []]) rfl rfl rfl rfl rfl rfl rfl ?_
         refine Av (.int .i64 q51.2) rfl ?_
         refine AL.st2 good (c2 := [.int .i64 0, .sl .nil 0 []]) rfl rfl rfl rfl rfl rfl rfl rfl rfl rfl rfl rfl ?_
         refine Av (.int .i64 q51.2) rfl ?_
         refine AW.ret ?_
         obtain rfl := Option.some.inj hr
         exact RetQ.w good (.inr rfl) rfl rfl ⟨⟨Wv.refl _, ⟨.inr rfl, trivial, .inr rfl⟩, trivial⟩, Wv.refl _, trivial⟩ (by simp)
        ·replace hr := cnd_f h53 hr
         refine AW.skip ?_
         refine Rg ?_
         refine Av (.agg [.int .i64 q51.1.kind, .sl .ro 2 (enys q51.1.of)]) rfl ?_
         refine AL.st2 good (c2 := [.int .i64 q51.1.kind, .sl .ro 2 (enys q51.1.of)]) rfl rfl rfl rfl rfl rfl rfl rfl rfl rfl rfl rfl ?_
         exact ⟨(m, q51.1.kind, q51.1.of), _, _, rfl, ⟨(fun _ h => by cases h), fmc ⟨⟨⟨_, rfl, Wv.refl _⟩, (by simp)⟩, fmc ⟨⟨⟨_, rfl, Wv.refl _⟩, (by simp)⟩, fmc ⟨⟨⟨_, rfl, Wv.refl _⟩, (by simp)⟩, fmc ⟨⟨⟨_, rfl, Wv.refl _⟩, (by simp)⟩, (fun _ h => by cases h)⟩⟩⟩⟩, fmc ⟨⟨⟨_, rfl, ⟨rfl, ⟨Wv.refl _, Wv.refl _, Wv.refl _, Wv.refl _, Wv.refl _, Wv.refl _, Wv.refl _, Wv.refl _, Wv.refl _, Wv.refl _, Wv.refl _, Wv.refl _, Wv.refl _, Wv.refl _, Wv.refl _, trivial⟩⟩⟩, (by simp)⟩, fmc ⟨⟨⟨_, rfl, ⟨rfl, ⟨Wv.refl _, Wv.refl _, trivial⟩⟩⟩, (by simp)⟩, fmc ⟨⟨⟨_, rfl, ⟨rfl, ⟨Wv.refl _, Wv.refl _, trivial⟩⟩⟩, (by simp)⟩, (fun _ h => by cases h)⟩⟩⟩⟩, ⟨hr, by (try dsimp only); omega⟩⟩
       ·replace hr := cnd_f h48 hr
        refine AW.skip ?_
        exact ⟨(m, 0, []), _, _, rfl, ⟨(fun _ h => by cases h), fmc ⟨⟨⟨_, rfl, Wv.refl _⟩, (by simp)⟩, fmc ⟨⟨⟨_, rfl, Wv.refl _⟩, (by simp)⟩, fmc ⟨⟨⟨_, rfl, Wv.refl _⟩, (by simp)⟩, fmc ⟨⟨⟨_, rfl, Wv.refl _⟩, (by simp)⟩, (fun _ h => by cases h)⟩⟩⟩⟩, fmc ⟨⟨⟨_, rfl, ⟨rfl, ⟨Wv.refl _, Wv.refl _, Wv.refl _, Wv.refl _, Wv.refl _, Wv.refl _, Wv.refl _, Wv.refl _, Wv.refl _, Wv.refl _, Wv.refl _, Wv.refl _, Wv.refl _, Wv.refl _, Wv.refl _, trivial⟩⟩⟩, (by simp)⟩, fmc ⟨⟨⟨_, rfl, ⟨rfl, ⟨Wv.refl _, Wv.refl _, trivial⟩⟩⟩, (by simp)⟩, fmc ⟨⟨⟨_, rfl, ⟨rfl, ⟨Wv.refl _, ⟨.inr rfl, trivial, .inr rfl⟩, trivial⟩⟩⟩, (by simp)⟩, (fun _ h => by cases h)⟩⟩⟩⟩, ⟨hr, by (try dsimp only); omega⟩⟩
      ·rintro ⟨m, w3_1, w3_2⟩ ⟨hr, hm⟩
       try dsimp only at hr hm
       cases m with
       | zero => rw [s_f1002_j3] at hr; cases hr
       | succ m =>
        rw [s_f1002_j3] at hr
        show AW Tryz.prog _ _ _ (mkS 126 [(1, .sl .ro 2 (enys a1)), (2, .ptr 0 0), (4, .ptr 1 0), (7, .ptr 2 0)] [(0, .box 46 [.int .i64 a0.f0, .str a0.f1, .int .i64 a0.f2.kind, .sl .ro 2 (enys a0.f2.of), .sl .ro 8 (enxs a0.f3), .str a0.f4.op, .int .i64 a0.f4.v.kind, .int .i64 a0.f4.v.i, .bool a0.f4.v.b, .str a0.f4.v.s, .sl .ro 5 (encs a0.f4.v.t), .int .i64 a0.f4.n, .sl .ro 8 (enxs a0.f4.a), .int .i64 a0.f5, .int .i64 a0.f6]), (1, .box 38 [.int .i64 0, .sl .nil 0 []]), (2, .box 38 [.int .i64 w3_1, .sl .ro 2 (enys w3_2)])])
        refine AW.seq (Rg ?_)
        refine Av (.sl .nil 0 []) rfl ?_
        refine AW.seq ?_
        refine AW.seq (Rg ?_)
        refine Av (.int .i64 0) rfl ?_
        refine AW.block ?_
        refine AW.adopt 10 rfl 4 2 38 rfl rfl ?_
        refine AW.lensB 0 rfl (fun hl64 => ?_)
        replace hl64 : a0.f3.length ≤ 9223372036854775807 := by rw [← enxs_length a0.f3]; exact hl64.2.2.2.2.1
        refine AW.lpw (fun x : Nat × (List Ty) × Nat => [(1, .sl .ro 2 (enys a1)), (2, .ptr 0 0), (4, .ptr 1 0), (7, .ptr 2 0), (10, .sl (.own 4) 2 (enys x.2.1)), (11, .int .i64 (x.2.2 : Int))]) (fun x => [(0, .box 46 [.int .i64 a0.f0, .str a0.f1, .int .i64 a0.f2.kind, .sl .ro 2 (enys a0.f2.of), .sl .ro 8 (enxs a0.f3), .str a0.f4.op, .int .i64 a0.f4.v.kind, .int .i64 a0.f4.v.i, .bool a0.f4.v.b, .str a0.f4.v.s, .sl .ro 5 (encs a0.f4.v.t), .int .i64 a0.f4.n, .sl .ro 8 (enxs a0.f4.a), .int .i64 a0.f5, .int .i64 a0.f6]), (1, .box 38 [.int .i64 0, .sl .nil 0 []]), (2, .box 38 [.int .i64 w3_1, .sl .ro 2 (enys w3_2)]), (4, .row 38 2 (enys x.2.1).length)]) (fun x => s_f1002_l4 x.1 a0 a1 w3_1 w3_2 x.2.1 x.2.2 = some r ∧ x.1 ≤ m) (fun x => x.1) (m, [], 0) ⟨(fun _ h => by cases h), fmc ⟨⟨⟨_, rfl, Wv.refl _⟩, (by simp)⟩, fmc ⟨⟨⟨_, rfl, Wv.refl _⟩, (by simp)⟩, fmc ⟨⟨⟨_, rfl, Wv.refl _⟩, (by simp)⟩, fmc ⟨⟨⟨_, rfl, Wv.refl _⟩, (by simp)⟩, fmc ⟨⟨⟨_, rfl, Wv.refl _⟩, (by simp)⟩, fmc ⟨⟨⟨_, rfl, Wv.refl _⟩, (by simp)⟩, (fun _ h => by cases h)⟩⟩⟩⟩⟩⟩, fmc ⟨⟨⟨_, rfl, ⟨rfl, ⟨Wv.refl _, Wv.refl _, Wv.refl _, Wv.refl _, Wv.refl _, Wv.refl _, Wv.refl _, Wv.refl _, Wv.refl _, Wv.refl _, Wv.refl _, Wv.refl _, Wv.refl _, Wv.refl _, Wv.refl _, trivial⟩⟩⟩, (by simp)⟩, fmc ⟨⟨⟨_, rfl, ⟨rfl, ⟨Wv.refl _, Wv.refl _, trivial⟩⟩⟩, (by simp)⟩, fmc ⟨⟨⟨_, rfl, ⟨rfl, ⟨Wv.refl _, Wv.refl _, trivial⟩⟩⟩, (by simp)⟩, fmc ⟨⟨⟨_, rfl, ⟨rfl, rfl, rfl⟩⟩, (by simp)⟩, (fun _ h => by cases h)⟩⟩⟩⟩⟩ ⟨hr, Nat.le_refl _⟩ (fun ⟨m, v4_1, v4_2⟩ hx => ?_)
        obtain ⟨hr, hm⟩ := hx
        try dsimp only at hr hm
        cases m with
        | zero => rw [s_f1002_l4] at hr; cases hr
        | succ m =>
         rw [s_f1002_l4] at hr
         show AW Tryz.prog _ _ _ (mkS 126 [(1, .sl .ro 2 (enys a1)), (2, .ptr 0 0), (4, .ptr 1 0), (7, .ptr 2 0), (10, .sl (.own 4) 2 (enys v4_1)), (11, .int .i64 (v4_2 : Int))] [(0, .box 46 [.int .i64 a0.f0, .str a0.f1, .int .i64 a0.f2.kind, .sl .ro 2 (enys a0.f2.of), .sl .ro 8 (enxs a0.f3), .str a0.f4.op, .int .i64 a0.f4.v.kind, .int .i64 a0.f4.v.i, .bool a0.f4.v.b, .str a0.f4.v.s, .sl .ro 5 (encs a0.f4.v.t), .int .i64 a0.f4.n, .sl .ro 8 (enxs a0.f4.a), .int .i64 a0.f5, .int .i64 a0.f6]), (1, .box 38 [.int .i64 0, .sl .nil 0 []]), (2, .box 38 [.int .i64 w3_1, .sl .ro 2 (enys w3_2)]), (4, .row 38 2 (enys v4_1).length)])
         refine AW.seq ?_
         refine AW.seq (Rg ?_)
         refine Av (.int .i64 (v4_2 : Int)) rfl ?_
         refine Av (.ptr 0 4) rfl ?_
         refine Av (.sl .ro 8 (enxs a0.f3)) rfl ?_
         refine AL.ln good (d := 95) (m := a0.f3.length) rfl rfl rfl rfl rfl rfl (enxs_length _) ?_
         refine Av (.bool (decide ((v4_2 : Int) < (a0.f3.length : Int)))) rfl ?_
         refine AW.if rfl (fun h65 => ?_) (fun h65 => ?_)
         ·replace hr := cnd_t h65 hr
          refine AW.skip ?_
          refine AW.seq ?_
          refine AW.block ?_
          refine AW.seq ?_
          refine AW.drawc (M := fun i => ⟨Nat.beq i 13, bif Nat.beq i 1 then some { ids := [0] } else bif Nat.beq i 4 then some { ids := [] } else bif Nat.beq i 7 then some { ids := [] } else bif Nat.beq i 12 then some { ids := [5] } else bif Nat.beq i 13 then some { ids := [5] } else none⟩) good.wide (by kernel_rfl) ?_
          refine Av (nc := ⟨rfl⟩) (.ptr 0 4) rfl ?_
          refine AL.vc good (d := 101) (v := .sl .ro 8 (enxs a0.f3)) rfl rfl rfl rfl rfl rfl (fmc ⟨.head _, (fun _ h => by cases h)⟩) ?_
          refine Av (nc := ⟨rfl⟩) (.int .i64 (v4_2 : Int)) rfl ?_
          obtain ⟨x66, h67, hr⟩ := bnd1 hr
          refine AL.ix (nc := ⟨rfl⟩) good (d := 103) (r := [.str x66.op, .int .i64 x66.v.kind, .int .i64 x66.v.i, .bool x66.v.b, .str x66.v.s, .sl .ro 5 (encs x66.v.t), .int .i64 x66.n, .sl .ro 8 (enxs x66.a)]) rfl rfl rfl rfl rfl rfl rfl (Int.natCast_nonneg _) (enxs_get h67) ?_
          refine AL.vc good (d := 104) (v := .agg [.str x66.op, .int .i64 x66.v.kind, .int .i64 x66.v.i, .bool x66.v.b, .str x66.v.s, .sl .ro 5 (encs x66.v.t), .int .i64 x66.n, .sl .ro 8 (enxs x66.a)]) rfl rfl rfl rfl rfl rfl (fun _ h => by cases h) ?_
          refine Av (nc := ⟨rfl⟩) (.sl .ro 2 (enys a1)) rfl ?_
          obtain ⟨x68, h69, hr⟩ := bnd1 hr
          refine AL.ix (nc := ⟨rfl⟩) good (d := 106) (r := [.int .i64 x68.kind, .sl .ro 2 (enys x68.of)]) rfl rfl rfl rfl rfl rfl rfl (by decide) (enys_get h69) ?_
          refine AL.vc good (d := 107) (v := .agg [.int .i64 x68.kind, .sl .ro 2 (enys x68.of)]) rfl rfl rfl rfl rfl rfl (fun _ h => by cases h) ?_
          obtain ⟨q70, h71, hr⟩ := bnd1 hr
          refine AL.cw (nc := ⟨rfl⟩) good (d := 108) (xs := [.agg (exC x66), .agg (tyC x68)]) (res := .tup [.agg [.int .i64 q70.1.kind, .sl .ro 2 (enys q70.1.of)], .int .i64 q70.2]) rfl rfl rfl rfl rfl rfl rfl (w_f20 _ _ _ _ h71) ⟨(Wv.refl _), (Wv.refl _), trivial⟩ (by simp) ?_
          refine Av (nc := ⟨rfl⟩) (.tup [.agg [.int .i64 q70.1.kind, .sl .ro 2 (enys q70.1.of)], .int .i64 q70.2]) rfl ?_
          refine Av (nc := ⟨rfl⟩) (.agg [.int .i64 q70.1.kind, .sl .ro 2 (enys q70.1.of)]) rfl ?_
          refine Av (nc := ⟨rfl⟩) (.int .i64 q70.2) rfl ?_
          refine AL.alcC good (d := 12) rfl rfl rfl rfl rfl 5 rfl (ColN.mk rfl rfl (fun _ h => by cases h) (fmc ⟨.head _, (fun _ h => by cases h)⟩) (fun _ h => by cases h)) ?_
          refine AL.st2c good (c2 := [.int .i64 q70.1.kind, .sl .ro 2 (enys q70.1.of)]) rfl rfl rfl rfl rfl rfl rfl rfl rfl rfl rfl rfl rfl ?_
          refine Av (nc := ⟨rfl⟩) (.int .i64 q70.2) rfl ?_
          refine AW.seq ?_
          refine AW.seq (Rg ?_)
          refine Av (.int .i64 q70.2) rfl ?_
          refine Av (.bool (q70.2 != 0)) rfl ?_
          refine AW.if rfl (fun h72 => ?_) (fun h72 => ?_)
          ·replace hr := cnd_t h72 hr
           refine AW.seq (Rg ?_)
           refine AL.bld good (d := 113) (l := [.int .i64 0, .sl .nil 0 []]) rfl rfl rfl rfl rfl rfl rfl ?_
           refine Av (.int .i64 q70.2) rfl ?_
           refine AL.st2 good (c2 := [.int .i64 0, .sl .nil 0 []]) rfl rfl rfl rfl rfl rfl rfl rfl rfl rfl rfl rfl ?_
           refine Av (.int .i64 q70.2) rfl ?_
           refine AW.ret ?_
           obtain rfl := Option.some.inj hr
           exact RetQ.w good (.inr rfl) rfl rfl ⟨⟨Wv.refl _, ⟨.inr rfl, trivial, .inr rfl⟩, trivial⟩, Wv.refl _, trivial⟩ (by simp)
          ·replace hr := cnd_f h72 hr
           refine AW.skip ?_
           refine Rg ?_
           refine Av (.sl (.own 4) 2 (enys v4_1)) rfl ?_
           refine Av (.agg [.int .i64 q70.1.kind, .sl .ro 2 (enys q70.1.of)]) rfl ?_
           refine AL.lit good (d := 117) (rows := [[.int .i64 q70.1.kind, .sl .ro 2 (enys q70.1.of)]]) rfl rfl rfl rfl rfl rfl rfl rfl rfl 6 rfl ?_
           obtain ⟨h73, hr⟩ := grd hr
           refine AL.aw2 good (d := 118) (rows := enys v4_1) (news := [(tyC q70.1)]) (rows2 := enys (v4_1 ++ [q70.1])) rfl rfl rfl rfl rfl rfl rfl rfl rfl (by simp) rfl rfl rfl ⟨⟨Wv.refl _, Wv.refl _, trivial⟩, trivial⟩ (by simp [enys_map]) (by rw [enys_length, List.length_append]; exact h73) rfl ?_
           refine Av (.sl (.own 4) 2 (enys (v4_1 ++ [q70.1]))) rfl ?_
           refine Rg ?_
           refine Av (.int .i64 (v4_2 : Int)) rfl ?_
           refine Av (.int .i64 (IntKind.i64.wrap ((v4_2 : Int) + 1))) rfl ?_
           refine Av (.int .i64 (IntKind.i64.wrap ((v4_2 : Int) + 1))) rfl ?_
           exact ⟨(m, (v4_1 ++ [q70.1]), (v4_2 + 1)), _, _, rfl, ⟨(fun _ h => by cases h), fmc ⟨⟨⟨_, rfl, Wv.refl _⟩, (by simp)⟩, fmc ⟨⟨⟨_, rfl, Wv.refl _⟩, (by simp)⟩, fmc ⟨⟨⟨_, rfl, Wv.refl _⟩, (by simp)⟩, fmc ⟨⟨⟨_, rfl, Wv.refl _⟩, (by simp)⟩, fmc ⟨⟨⟨_, rfl, Wv.refl _⟩, (by simp)⟩, fmc ⟨⟨⟨_, rfl, (wnx h65 hl64)⟩, (by simp)⟩, (fun _ h => by cases h)⟩⟩⟩⟩⟩⟩, fmc ⟨⟨⟨_, rfl, ⟨rfl, ⟨Wv.refl _, Wv.refl _, Wv.refl _, Wv.refl _, Wv.refl _, Wv.refl _, Wv.refl _, Wv.refl _, Wv.refl _, Wv.refl _, Wv.refl _, Wv.refl _, Wv.refl _, Wv.refl _, Wv.refl _, trivial⟩⟩⟩, (by simp)⟩, fmc ⟨⟨⟨_, rfl, ⟨rfl, ⟨Wv.refl _, Wv.refl _, trivial⟩⟩⟩, (by simp)⟩, fmc ⟨⟨⟨_, rfl, ⟨rfl, ⟨Wv.refl _, Wv.refl _, trivial⟩⟩⟩, (by simp)⟩, fmc ⟨⟨⟨_, rfl, ⟨rfl, rfl, rfl⟩⟩, (by simp)⟩, (fun _ h => by cases h)⟩⟩⟩⟩⟩, ⟨hr, Nat.le_of_succ_le hm⟩, Nat.lt_succ_self _⟩
         ·replace hr := cnd_f h65 hr
          refine AW.exit ?_
          refine AW.seq (Rg ?_)
          refine Av (.agg [.int .i64 a0.f0, .str a0.f1, .int .i64 a0.f2.kind, .sl .ro 2 (enys a0.f2.of), .sl .ro 8 (enxs a0.f3), .str a0.f4.op, .int .i64 a0.f4.v.kind, .int .i64 a0.f4.v.i, .bool a0.f4.v.b, .str a0.f4.v.s, .sl .ro 5 (encs a0.f4.v.t), .int .i64 a0.f4.n, .sl .ro 8 (enxs a0.f4.a), .int .i64 a0.f5, .int .i64 a0.f6]) rfl ?_
          refine Av (.sl .ro 2 (enys a1)) rfl ?_
          refine Av (.agg [.int .i64 w3_1, .sl .ro 2 (enys w3_2)]) rfl ?_
          refine Av (.sl (.own 4) 2 (enys v4_1)) rfl ?_
          obtain ⟨q74, h75, hr⟩ := bnd1 hr
          refine AL.cw good (d := 123) (xs := [.agg [.int .i64 a0.f0, .str a0.f1, .int .i64 a0.f2.kind, .sl .ro 2 (enys a0.f2.of), .sl .ro 8 (enxs a0.f3), .str a0.f4.op, .int .i64 a0.f4.v.kind, .int .i64 a0.f4.v.i, .bool a0.f4.v.b, .str a0.f4.v.s, .sl .ro 5 (encs a0.f4.v.t), .int .i64 a0.f4.n, .sl .ro 8 (enxs a0.f4.a), .int .i64 a0.f5, .int .i64 a0.f6], .sl .ro 2 (enys a1), .agg (tyC (Ty.mk w3_1 w3_2)), .sl .ro 2 (enys v4_1)]) (res := .tup [.agg [.int .i64 q74.1.kind, .sl .ro 2 (enys q74.1.of)], .int .i64 q74.2]) rfl rfl rfl rfl rfl rfl rfl (w_f1010 _ _ _ _ _ _ h75) ⟨(Wv.refl _), (Wv.refl _), (Wv.refl _), ⟨.inr rfl, WvR.refl _, .inl rfl⟩, trivial⟩ (by simp) ?_
          refine Av (.agg [.int .i64 q74.1.kind, .sl .ro 2 (enys q74.1.of)]) rfl ?_
          refine Av (.int .i64 q74.2) rfl ?_
          refine AL.st2 good (c2 := [.int .i64 q74.1.kind, .sl .ro 2 (enys q74.1.of)]) rfl rfl rfl rfl rfl rfl rfl rfl rfl rfl rfl rfl ?_
          refine Av (.int .i64 q74.2) rfl ?_
          refine AW.ret ?_
          obtain rfl := Option.some.inj hr
          exact RetQ.w good (.inr rfl) rfl rfl (Wv.refl _) (by simp)

end
end Go.Proofs.YtbcjcekoonebiaaGreat.Tl

set_option linter.unusedVariables false
set_option linter.unusedSimpArgs false
namespace Go.Proofs.YtbcjcekoonebiaaGreat.Tl
open Go Go.RowKit
mutual
def s_f1011 : Nat → Ty → Int → Int → Option Int
  | 0, _, _, _ => none
  | n + 1, a0, a1, a2 => (bif (((decide (a2 ≤ 0)) || (decide (a1 ≤ 0))) || (decide ((a0.of.length : Int) > 20))) then some 0 else (s_f1011_l1 n a0 a1 (IntKind.i64.wrap (a2 - 1)) 0))
def s_f1011_l1 : Nat → Ty → Int → Int → Int → Option Int
  | 0, _, _, _, _ => none
  | n + 1, a0, a1, v1_1, v1_2 => (bif ((decide (v1_2 < (a0.of.length : Int))) && (decide (v1_1 > 0))) then (if 0 ≤ v1_2 then ((a0.of[v1_2.toNat]?).bind fun x17 => ((s_f1011 n x17 (IntKind.i64.wrap (a1 - 1)) v1_1).bind fun q20 => (s_f1011_l1 n a0 a1 q20 (IntKind.i64.wrap (v1_2 + 1))))) else none) else some v1_1)
end

section
attribute [local simp] pureA pureL pureR inA inL inR inO idsIn encs_pure enxs_pure enys_pure valC_pure exC_pure tyC_pure r_int_u8_pure r_st_GInst_pure r_sl_st_GInst_pure r_st_GMiss_pure
theorem w_f1011_a (n : Nat) (ih : ∀ (m : Nat) (a0 : Ty) (a1 : Int) (a2 : Int) (r : Int), s_f1011 m a0 a1 a2 = some r → m < n → ACall Tryz.prog 43 [.agg (tyC a0), .int .i64 a1, .int .i64 a2] (.int .i64 r)) (a0 : Ty) (a1 : Int) (a2 : Int) (r : Int) (hr : s_f1011 n a0 a1 a2 = some r) : ACall Tryz.prog 43 [.agg (tyC a0), .int .i64 a1, .int .i64 a2] (.int .i64 r) := by
 refine ACall.go [(0, .agg (tyC a0)), (1, .int .i64 a1), (2, .int .i64 a2)] Tryz.func43 rfl Tryz.ntmps43 rfl rfl (by simp) ?_
 cases n with
 | zero => rw [s_f1011] at hr; cases hr
 | succ n =>
  rw [s_f1011] at hr
  refine AW.seq (Rg ?_)
  refine AL.bx good (d := 3) (l := [.int .i64 a0.kind, .sl .ro 2 (enys a0.of)]) rfl rfl rfl rfl rfl rfl 0 rfl ?_
  refine Av (.int .i64 0) rfl ?_
  refine AW.seq ?_
  refine AW.seq (Rg ?_)
  refine Av (.int .i64 a2) rfl ?_
  refine Av (.bool (decide (a2 ≤ 0))) rfl ?_
  refine AL.vb good (d := 10) (b := (decide (a2 ≤ 0))) rfl rfl rfl rfl (fun g1 h2 => ?_)
  refine Gv ((!g1)) (.int .i64 a1) rfl (by cases g1 <;> exact ⟨rfl, fun h => by first | rfl | cases h⟩) ?_
  refine Gv ((!g1)) (.bool (decide (a1 ≤ 0))) rfl (by cases g1 <;> exact ⟨rfl, fun h => by first | rfl | cases h⟩) ?_
  refine AL.v good (d := 13) (v := .bool (g1 || (decide (a1 ≤ 0)))) (rd := []) rfl rfl rfl (by cases g1 <;> rfl) ?_
  refine AL.vb good (d := 14) (b := (g1 || (decide (a1 ≤ 0)))) rfl rfl rfl rfl (fun g3 h4 => ?_)
  refine Gv ((!g3)) (.ptr 0 1) rfl (by cases g3 <;> exact ⟨rfl, fun h => by first | rfl | cases h⟩) ?_
  refine Gv ((!g3)) (.sl .ro 2 (enys a0.of)) rfl (by cases g3 <;> exact ⟨rfl, fun h => by first | rfl | cases h⟩) ?_
  refine AL.gln good (d := 17) (c := (!g3)) (m := a0.of.length) rfl rfl (by cases g3 <;> rfl) rfl rfl (fun h => by cases g3 <;> first | rfl | exact absurd h (by decide)) (enys_length _) ?_
  refine Gv ((!g3)) (.bool (decide ((a0.of.length : Int) > 20))) rfl (by cases g3 <;> exact ⟨rfl, fun h => by first | rfl | cases h⟩) ?_
  refine AL.v good (d := 19) (v := .bool (g3 || (decide ((a0.of.length : Int) > 20)))) (rd := []) rfl rfl rfl (by cases g3 <;> rfl) ?_
  subst h2 h4
  refine AW.if rfl (fun h5 => ?_) (fun h5 => ?_)
  ·replace hr := cnd_t h5 hr
   refine AW.seq (Rg ?_)
   refine Av (.int .i64 0) rfl ?_
   refine AW.ret ?_
   obtain rfl := Option.some.inj hr
   exact RetQ.w good (.inr rfl) rfl rfl (Wv.refl _) (by simp)
  ·replace hr := cnd_f h5 hr
   refine AW.skip ?_
   refine AW.seq (Rg ?_)
   refine Av (.int .i64 a2) rfl ?_
   refine Av (.int .i64 (IntKind.i64.wrap (a2 - 1))) rfl ?_
   refine Av (.int .i64 (IntKind.i64.wrap (a2 - 1))) rfl ?_
   refine AW.seq ?_
   refine AW.seq (Rg ?_)
   refine Av (.int .i64 0) rfl ?_
   refine AW.block ?_
   refine AW.lpw (fun x : Nat × Int × Int => [(1, .int .i64 a1), (2, .int .i64 x.2.1), (3, .ptr 0 0), (7, .int .i64 x.2.2)]) (fun x => [(0, .box 24 [.int .i64 a0.kind, .sl .ro 2 (enys a0.of)])]) (fun x => s_f1011_l1 x.1 a0 a1 x.2.1 x.2.2 = some r ∧ x.1 ≤ n) (fun x => x.1) (n, (IntKind.i64.wrap (a2 - 1)), 0) ⟨(fun _ h => by cases h), fmc ⟨⟨⟨_, rfl, Wv.refl _⟩, (by simp)⟩, fmc ⟨⟨⟨_, rfl, Wv.refl _⟩, (by simp)⟩, fmc ⟨⟨⟨_, rfl, Wv.refl _⟩, (by simp)⟩, fmc ⟨⟨⟨_, rfl, Wv.refl _⟩, (by simp)⟩, (fun _ h => by cases h)⟩⟩⟩⟩, fmc ⟨⟨⟨_, rfl, ⟨rfl, ⟨Wv.refl _, Wv.refl _, trivial⟩⟩⟩, (by simp)⟩, (fun _ h => by cases h)⟩⟩ ⟨hr, Nat.le_refl _⟩ (fun ⟨m, v1_1, v1_2⟩ hx => ?_)
   obtain ⟨hr, hm⟩ := hx
   try dsimp only at hr hm
   cases m with
   | zero => rw [s_f1011_l1] at hr; cases hr
   | succ m =>
    rw [s_f1011_l1] at hr
    show AW Tryz.prog _ _ _ (mkS 43 [(1, .int .i64 a1), (2, .int .i64 v1_1), (3, .ptr 0 0), (7, .int .i64 v1_2)] [(0, .box 24 [.int .i64 a0.kind, .sl .ro 2 (enys a0.of)])])
    refine AW.seq ?_
    refine AW.seq (Rg ?_)
    refine Av (.int .i64 v1_2) rfl ?_
    refine Av (.ptr 0 1) rfl ?_
    refine Av (.sl .ro 2 (enys a0.of)) rfl ?_
    refine AL.ln good (d := 25) (m := a0.of.length) rfl rfl rfl rfl rfl rfl (enys_length _) ?_
    refine Av (.bool (decide (v1_2 < (a0.of.length : Int)))) rfl ?_
    refine AL.vb good (d := 27) (b := (decide (v1_2 < (a0.of.length : Int)))) rfl rfl rfl rfl (fun g14 h15 => ?_)
    refine Gv (g14) (.int .i64 v1_1) rfl (by cases g14 <;> exact ⟨rfl, fun h => by first | rfl | cases h⟩) ?_
    refine Gv (g14) (.bool (decide (v1_1 > 0))) rfl (by cases g14 <;> exact ⟨rfl, fun h => by first | rfl | cases h⟩) ?_
    refine AL.v good (d := 30) (v := .bool (g14 && (decide (v1_1 > 0)))) (rd := []) rfl rfl rfl (by cases g14 <;> rfl) ?_
    subst h15
    refine AW.if rfl (fun h16 => ?_) (fun h16 => ?_)
    ·replace hr := cnd_t h16 hr
     refine AW.skip ?_
     refine AW.seq ?_
     refine AW.block ?_
     refine Rg ?_
     refine Av (.ptr 0 1) rfl ?_
     refine Av (.sl .ro 2 (enys a0.of)) rfl ?_
     refine Av (.int .i64 v1_2) rfl ?_
     obtain ⟨h19, hr⟩ := grd hr
     obtain ⟨x17, h18, hr⟩ := bnd1 hr
     refine AL.ix good (d := 36) (r := [.int .i64 x17.kind, .sl .ro 2 (enys x17.of)]) rfl rfl rfl rfl rfl rfl rfl h19 (enys_get h18) ?_
     refine Av (.agg [.int .i64 x17.kind, .sl .ro 2 (enys x17.of)]) rfl ?_
     refine Av (.int .i64 a1) rfl ?_
     refine Av (.int .i64 (IntKind.i64.wrap (a1 - 1))) rfl ?_
     refine Av (.int .i64 v1_1) rfl ?_
     obtain ⟨q20, h21, hr⟩ := bnd1 hr
     refine AL.cw good (d := 41) (xs := [.agg (tyC x17), .int .i64 (IntKind.i64.wrap (a1 - 1)), .int .i64 v1_1]) (res := .int .i64 q20) rfl rfl rfl rfl rfl rfl rfl (ih _ _ _ _ _ h21 (by omega)) ⟨(Wv.refl _), (Wv.refl _), (Wv.refl _), trivial⟩ (by simp) ?_
     refine Av (.int .i64 q20) rfl ?_
     refine Rg ?_
     refine Av (.int .i64 v1_2) rfl ?_
     refine Av (.int .i64 (IntKind.i64.wrap (v1_2 + 1))) rfl ?_
     refine Av (.int .i64 (IntKind.i64.wrap (v1_2 + 1))) rfl ?_
     exact ⟨(m, q20, (IntKind.i64.wrap (v1_2 + 1))), _, _, rfl, ⟨(fun _ h => by cases h), fmc ⟨⟨⟨_, rfl, Wv.refl _⟩, (by simp)⟩, fmc ⟨⟨⟨_, rfl, Wv.refl _⟩, (by simp)⟩, fmc ⟨⟨⟨_, rfl, Wv.refl _⟩, (by simp)⟩, fmc ⟨⟨⟨_, rfl, Wv.refl _⟩, (by simp)⟩, (fun _ h => by cases h)⟩⟩⟩⟩, fmc ⟨⟨⟨_, rfl, ⟨rfl, ⟨Wv.refl _, Wv.refl _, trivial⟩⟩⟩, (by simp)⟩, (fun _ h => by cases h)⟩⟩, ⟨hr, Nat.le_of_succ_le hm⟩, Nat.lt_succ_self _⟩
    ·replace hr := cnd_f h16 hr
     refine AW.exit ?_
     refine AW.seq (Rg ?_)
     refine Av (.int .i64 v1_1) rfl ?_
     refine Av (.int .i64 v1_1) rfl ?_
     refine AW.ret ?_
     obtain rfl := Option.some.inj hr
     exact RetQ.w good (.inr rfl) rfl rfl (Wv.refl _) (by simp)
theorem w_f1011 (n : Nat) : ∀ (a0 : Ty) (a1 : Int) (a2 : Int) (r : Int) (hr : s_f1011 n a0 a1 a2 = some r), ACall Tryz.prog 43 [.agg (tyC a0), .int .i64 a1, .int .i64 a2] (.int .i64 r) := by
 induction n using Nat.strongRecOn with
 | _ n ih =>
  intro a0 a1 a2 r hr
  exact w_f1011_a n (fun m a0 a1 a2 r h hm => ih m hm a0 a1 a2 r h) a0 a1 a2 r hr

def s_f1006 (n : Nat) (a0 : Ty) : Option Bool :=
  ((s_f1011 n a0 12 300).bind fun q1 => some (decide (q1 > 0)))

theorem w_f1006 (n : Nat) (a0 : Ty) (r : Bool) (hr : s_f1006 n a0 = some r) : ACall Tryz.prog 22 [.agg (tyC a0)] (.bool r) := by
 refine ACall.go [(0, .agg (tyC a0))] Tryz.func22 rfl Tryz.ntmps22 rfl rfl (by simp) ?_
 rw [s_f1006] at hr
 refine AW.seq (Rg ?_)
 refine AL.bx good (d := 1) (l := [.int .i64 a0.kind, .sl .ro 2 (enys a0.of)]) rfl rfl rfl rfl rfl rfl 0 rfl ?_
 refine Av (.bool false) rfl ?_
 refine AW.seq (Rg ?_)
 refine Av (.agg [.int .i64 a0.kind, .sl .ro 2 (enys a0.of)]) rfl ?_
 obtain ⟨q1, h2, hr⟩ := bnd1 hr
 refine AL.cw good (d := 4) (xs := [.agg (tyC a0), .int .i64 12, .int .i64 300]) (res := .int .i64 q1) rfl rfl rfl rfl rfl rfl rfl (w_f1011 _ _ _ _ _ h2) ⟨(Wv.refl _), (Wv.refl _), (Wv.refl _), trivial⟩ (by simp) ?_
 refine Av (.bool (decide (q1 > 0))) rfl ?_
 refine Av (.bool (decide (q1 > 0))) rfl ?_
 refine AW.ret ?_
 obtain rfl := Option.some.inj hr
 exact RetQ.w good (.inr rfl) rfl rfl (Wv.refl _) (by simp)

mutual
def s_f1001_l1 : Nat → GOp → Nat → Option Bool
  | 0, _, _ => none
  | n + 1, a0, v1_1 => (bif (decide ((v1_1 : Int) < (a0.f3.length : Int))) then ((a0.f3[v1_1]?).bind fun x18 => ((s_f17 n x18).bind fun q20 => (bif (!q20) then some false else (s_f1001_l1 n a0 (v1_1 + 1))))) else some true)
end
def s_f1001 (n : Nat) (a0 : GOp) : Option Bool :=
  (bif (decide ((a0.f1.size : Int) > 50)) then some false else ((s_f1006 n a0.f2).bind fun q2 => (bif (!q2) then some false else (bif (decide ((a0.f3.length : Int) > 8)) then some false else ((s_f17 n a0.f4).bind fun q6 => (bif (!q6) then some false else (s_f1001_l1 n a0 0)))))))

theorem w_f1001 (n : Nat) (a0 : GOp) (r : Bool) (hr : s_f1001 n a0 = some r) : ACall Tryz.prog 5 [.agg [.int .i64 a0.f0, .str a0.f1, .int .i64 a0.f2.kind, .sl .ro 2 (enys a0.f2.of), .sl .ro 8 (enxs a0.f3), .str a0.f4.op, .int .i64 a0.f4.v.kind, .int .i64 a0.f4.v.i, .bool a0.f4.v.b, .str a0.f4.v.s, .sl .ro 5 (encs a0.f4.v.t), .int .i64 a0.f4.n, .sl .ro 8 (enxs a0.f4.a), .int .i64 a0.f5, .int .i64 a0.f6]] (.bool r) := by
 refine ACall.go [(0, .agg [.int .i64 a0.f0, .str a0.f1, .int .i64 a0.f2.kind, .sl .ro 2 (enys a0.f2.of), .sl .ro 8 (enxs a0.f3), .str a0.f4.op, .int .i64 a0.f4.v.kind, .int .i64 a0.f4.v.i, .bool a0.f4.v.b, .str a0.f4.v.s, .sl .ro 5 (encs a0.f4.v.t), .int .i64 a0.f4.n, .sl .ro 8 (enxs a0.f4.a), .int .i64 a0.f5, .int .i64 a0.f6])] Tryz.func5 rfl Tryz.ntmps5 rfl rfl (by simp) ?_
 rw [s_f1001] at hr
 refine AW.seq (Rg ?_)
 refine AL.bx good (d := 1) (l := [.int .i64 a0.f0, .str a0.f1, .int .i64 a0.f2.kind, .sl .ro 2 (enys a0.f2.of), .sl .ro 8 (enxs a0.f3), .str a0.f4.op, .int .i64 a0.f4.v.kind, .int .i64 a0.f4.v.i, .bool a0.f4.v.b, .str a0.f4.v.s, .sl .ro 5 (encs a0.f4.v.t), .int .i64 a0.f4.n, .sl .ro 8 (enxs a0.f4.a), .int .i64 a0.f5, .int .i64 a0.f6]) rfl rfl rfl rfl rfl rfl 0 rfl ?_
 refine Av (.bool false) rfl ?_
 refine AW.seq ?_
 refine AW.seq (Rg ?_)
 refine Av (.ptr 0 1) rfl ?_
 refine Av (.str a0.f1) rfl ?_
 refine Av (.int .i64 (a0.f1.size : Int)) rfl ?_
 refine Av (.bool (decide ((a0.f1.size : Int) > 50))) rfl ?_
 refine Av (.bool (decide ((a0.f1.size : Int) > 50))) rfl ?_
 refine AL.cs 8 rfl (fun h1 => ?_) (fun h1 => ?_)
 ·replace hr := cnd_t h1 hr
  refine AL.sk good (d := 9) rfl rfl rfl ?_
  refine AL.sk good (d := 10) rfl rfl rfl ?_
  refine AL.sk good (d := 11) rfl rfl rfl ?_
  refine AL.sk good (d := 12) rfl rfl rfl ?_
  refine Av (.bool true) rfl ?_
  refine Av (.bool true) rfl ?_
  refine AL.sk good (d := 15) rfl rfl rfl ?_
  refine AL.sk good (d := 16) rfl rfl rfl ?_
  refine AL.sk good (d := 17) rfl rfl rfl ?_
  refine AL.sk good (d := 18) rfl rfl rfl ?_
  refine Av (.bool true) rfl ?_
  refine Av (.bool true) rfl ?_
  refine AL.sk good (d := 21) rfl rfl rfl ?_
  refine AL.sk good (d := 22) rfl rfl rfl ?_
  refine AL.sk good (d := 23) rfl rfl rfl ?_
  refine AL.sk good (d := 24) rfl rfl rfl ?_
  refine Av (.bool true) rfl ?_
  refine AW.if rfl (fun h => ?_) (fun h => by cases h)
  refine AW.seq (Rg ?_)
  refine Av (.bool false) rfl ?_
  refine AW.ret ?_
  obtain rfl := Option.some.inj hr
  exact RetQ.w good (.inr rfl) rfl rfl (Wv.refl _) (by simp)
 ·replace hr := cnd_f h1 hr
  refine Av (.ptr 0 2) rfl ?_
  refine Av (.agg [.int .i64 a0.f2.kind, .sl .ro 2 (enys a0.f2.of)]) rfl ?_
  obtain ⟨q2, h3, hr⟩ := bnd1 hr
  refine AL.cw good (d := 11) (xs := [.agg (tyC a0.f2)]) (res := .bool q2) rfl rfl rfl rfl rfl rfl rfl (w_f1006 _ _ _ h3) ⟨(Wv.refl _), trivial⟩ (by simp) ?_
  refine Av (.bool (!q2)) rfl ?_
  refine Av (.bool (!q2)) rfl ?_
  refine Av (.bool (!q2)) rfl ?_
  refine AL.cs 14 rfl (fun h4 => ?_) (fun h4 => ?_)
  ·replace hr := cnd_t h4 hr
   refine AL.sk good (d := 15) rfl rfl rfl ?_
   refine AL.sk good (d := 16) rfl rfl rfl ?_
   refine AL.sk good (d := 17) rfl rfl rfl ?_
   refine AL.sk good (d := 18) rfl rfl rfl ?_
   refine Av (.bool true) rfl ?_
   refine Av (.bool true) rfl ?_
   refine AL.sk good (d := 21) rfl rfl rfl ?_
   refine AL.sk good (d := 22) rfl rfl rfl ?_
   refine AL.sk good (d := 23) rfl rfl rfl ?_
   refine AL.sk good (d := 24) rfl rfl rfl ?_
   refine Av (.bool true) rfl ?_
   refine AW.if rfl (fun h => ?_) (fun h => by cases h)
   refine AW.seq (Rg ?_)
   refine Av (.bool false) rfl ?_
   refine AW.ret ?_
   obtain rfl := Option.some.inj hr
   exact RetQ.w good (.inr rfl) rfl rfl (Wv.refl _) (by simp)
  ·replace hr := cnd_f h4 hr
   refine Av (.ptr 0 4) rfl ?_
   refine Av (.sl .ro 8 (enxs a0.f3)) rfl ?_
   refine AL.ln good (d := 17) (m := a0.f3.length) rfl rfl rfl rfl rfl rfl (enxs_length _) ?_
   refine Av (.bool (decide ((a0.f3.length : Int) > 8))) rfl ?_
   refine Av (.bool (decide ((a0.f3.length : Int) > 8))) rfl ?_
   refine Av (.bool (decide ((a0.f3.length : Int) > 8))) rfl ?_
   refine AL.cs 20 rfl (fun h5 => ?_) (fun h5 => ?_)
   ·replace hr := cnd_t h5 hr
    refine AL.sk good (d := 21) rfl rfl rfl ?_
    refine AL.sk good (d := 22) rfl rfl rfl ?_
    refine AL.sk good (d := 23) rfl rfl rfl ?_
    refine AL.sk good (d := 24) rfl rfl rfl ?_
    refine Av (.bool true) rfl ?_
    refine AW.if rfl (fun h => ?_) (fun h => by cases h)
    refine AW.seq (Rg ?_)
    refine Av (.bool false) rfl ?_
    refine AW.ret ?_
    obtain rfl := Option.some.inj hr
    exact RetQ.w good (.inr rfl) rfl rfl (Wv.refl _) (by simp)
   ·replace hr := cnd_f h5 hr
    refine Av (.ptr 0 5) rfl ?_
    refine Av (.agg [.str a0.f4.op, .int .i64 a0.f4.v.kind, .int .i64 a0.f4.v.i, .bool a0.f4.v.b, .str a0.f4.v.s, .sl .ro 5 (encs a0.f4.v.t), .int .i64 a0.f4.n, .sl .ro 8 (enxs a0.f4.a)]) rfl ?_
    obtain ⟨q6, h7, hr⟩ := bnd1 hr
    refine AL.cw good (d := 23) (xs := [.agg (exC a0.f4)]) (res := .bool q6) rfl rfl rfl rfl rfl rfl rfl (w_f17 _ _ _ h7) ⟨(Wv.refl _), trivial⟩ (by simp) ?_
    refine Av (.bool (!q6)) rfl ?_
    refine Av (.bool (!q6)) rfl ?_
    refine AW.if rfl (fun h8 => ?_) (fun h8 => ?_)
    ·replace hr := cnd_t h8 hr
     refine AW.seq (Rg ?_)
     refine Av (.bool false) rfl ?_
     refine AW.ret ?_
     obtain rfl := Option.some.inj hr
     exact RetQ.w good (.inr rfl) rfl rfl (Wv.refl _) (by simp)
    ·replace hr := cnd_f h8 hr
     refine AW.skip ?_
     refine AW.seq ?_
     refine AW.seq (Rg ?_)
     refine Av (.int .i64 0) rfl ?_
     refine AW.block ?_
     refine AW.lensB 0 rfl (fun hl16 => ?_)
     replace hl16 : a0.f3.length ≤ 9223372036854775807 := by rw [← enxs_length a0.f3]; exact hl16.2.2.2.2.1
     refine AW.lpw (fun x : Nat × Nat => [(1, .ptr 0 0), (3, .int .i64 (x.2 : Int))]) (fun x => [(0, .box 32 [.int .i64 a0.f0, .str a0.f1, .int .i64 a0.f2.kind, .sl .ro 2 (enys a0.f2.of), .sl .ro 8 (enxs a0.f3), .str a0.f4.op, .int .i64 a0.f4.v.kind, .int .i64 a0.f4.v.i, .bool a0.f4.v.b, .str a0.f4.v.s, .sl .ro 5 (encs a0.f4.v.t), .int .i64 a0.f4.n, .sl .ro 8 (enxs a0.f4.a), .int .i64 a0.f5, .int .i64 a0.f6])]) (fun x => s_f1001_l1 x.1 a0 x.2 = some r ∧ x.1 ≤ n) (fun x => x.1) (n, 0) ⟨(fun _ h => by cases h), fmc ⟨⟨⟨_, rfl, Wv.refl _⟩, (by simp)⟩, fmc ⟨⟨⟨_, rfl, Wv.refl _⟩, (by simp)⟩, (fun _ h => by cases h)⟩⟩, fmc ⟨⟨⟨_, rfl, ⟨rfl, ⟨Wv.refl _, Wv.refl _, Wv.refl _, Wv.refl _, Wv.refl _, Wv.refl _, Wv.refl _, Wv.refl _, Wv.refl _, Wv.refl _, Wv.refl _, Wv.refl _, Wv.refl _, Wv.refl _, Wv.refl _, trivial⟩⟩⟩, (by simp)⟩, (fun _ h => by cases h)⟩⟩ ⟨hr, Nat.le_refl _⟩ (fun ⟨m, v1_1⟩ hx => ?_)
     obtain ⟨hr, hm⟩ := hx
     try dsimp only at hr hm
     cases m with
     | zero => rw [s_f1001_l1] at hr; cases hr
     | succ m =>
      rw [s_f1001_l1] at hr
      show AW Tryz.prog _ _ _ (mkS 40 [(1, .ptr 0 0), (3, .int .i64 (v1_1 : Int))] [(0, .box 32 [.int .i64 a0.f0, .str a0.f1, .int .i64 a0.f2.kind, .sl .ro 2 (enys a0.f2.of), .sl .ro 8 (enxs a0.f3), .str a0.f4.op, .int .i64 a0.f4.v.kind, .int .i64 a0.f4.v.i, .bool a0.f4.v.b, .str a0.f4.v.s, .sl .ro 5 (encs a0.f4.v.t), .int .i64 a0.f4.n, .sl .ro 8 (enxs a0.f4.a), .int .i64 a0.f5, .int .i64 a0.f6])])
      refine AW.seq ?_
      refine AW.seq (Rg ?_)
      refine Av (.int .i64 (v1_1 : Int)) rfl ?_
      refine Av (.ptr 0 4) rfl ?_
      refine Av (.sl .ro 8 (enxs a0.f3)) rfl ?_
      refine AL.ln good (d := 29) (m := a0.f3.length) rfl rfl rfl rfl rfl rfl (enxs_length _) ?_
      refine Av (.bool (decide ((v1_1 : Int) < (a0.f3.length : Int)))) rfl ?_
      refine AW.if rfl (fun h17 => ?_) (fun h17 => ?_)
      ·replace hr := cnd_t h17 hr
       refine AW.skip ?_
       refine AW.seq ?_
       refine AW.block ?_
       refine AW.seq (Rg ?_)
       refine Av (.ptr 0 4) rfl ?_
       refine Av (.sl .ro 8 (enxs a0.f3)) rfl ?_
       refine Av (.int .i64 (v1_1 : Int)) rfl ?_
       obtain ⟨x18, h19, hr⟩ := bnd1 hr
       refine AL.ix good (d := 36) (r := [.str x18.op, .int .i64 x18.v.kind, .int .i64 x18.v.i, .bool x18.v.b, .str x18.v.s, .sl .ro 5 (encs x18.v.t), .int .i64 x18.n, .sl .ro 8 (enxs x18.a)]) rfl rfl rfl rfl rfl rfl rfl (Int.natCast_nonneg _) (enxs_get h19) ?_
       refine Av (.agg [.str x18.op, .int .i64 x18.v.kind, .int .i64 x18.v.i, .bool x18.v.b, .str x18.v.s, .sl .ro 5 (encs x18.v.t), .int .i64 x18.n, .sl .ro 8 (enxs x18.a)]) rfl ?_
       obtain ⟨q20, h21, hr⟩ := bnd1 hr
       refine AL.cw good (d := 38) (xs := [.agg (exC x18)]) (res := .bool q20) rfl rfl rfl rfl rfl rfl rfl (w_f17 _ _ _ h21) ⟨(Wv.refl _), trivial⟩ (by simp) ?_
       refine Av (.bool (!q20)) rfl ?_
       refine AW.if rfl (fun h22 => ?_) (fun h22 => ?_)
       ·replace hr := cnd_t h22 hr
        refine AW.seq (Rg ?_)
        refine Av (.bool false) rfl ?_
        refine AW.ret ?_
        obtain rfl := Option.some.inj hr
        exact RetQ.w good (.inr rfl) rfl rfl (Wv.refl _) (by simp)
       ·replace hr := cnd_f h22 hr
        refine AW.skip ?_
        refine Rg ?_
        refine Av (.int .i64 (v1_1 : Int)) rfl ?_
        refine Av (.int .i64 (IntKind.i64.wrap ((v1_1 : Int) + 1))) rfl ?_
        refine Av (.int .i64 (IntKind.i64.wrap ((v1_1 : Int) + 1))) rfl ?_
        exact ⟨(m, (v1_1 + 1)), _, _, rfl, ⟨(fun _ h => by cases h), fmc ⟨⟨⟨_, rfl, Wv.refl _⟩, (by simp)⟩, fmc ⟨⟨⟨_, rfl, (wnx h17 hl16)⟩, (by simp)⟩, (fun _ h => by cases h)⟩⟩, fmc ⟨⟨⟨_, rfl, ⟨rfl, ⟨Wv.refl _, Wv.refl _, Wv.refl _, Wv.refl _, Wv.refl _, Wv.refl _, Wv.refl _, Wv.refl _, Wv.refl _, Wv.refl _, Wv.refl _, Wv.refl _, Wv.refl _, Wv.refl _, Wv.refl _, trivial⟩⟩⟩, (by simp)⟩, (fun _ h => by cases h)⟩⟩, ⟨hr, Nat.le_of_succ_le hm⟩, Nat.lt_succ_self _⟩
      ·replace hr := cnd_f h17 hr
       refine AW.exit ?_
       refine AW.seq (Rg ?_)
       refine Av (.bool true) rfl ?_
       refine AW.ret ?_
       obtain rfl := Option.some.inj hr
       exact RetQ.w good (.inr rfl) rfl rfl (Wv.refl _) (by simp)

mutual
def s_f1005_l1 : Nat → GOp → Val → (List Val) → Nat → Option (List Val × Int)
  | 0, _, _, _, _ => none
  | n + 1, a0, a1, v1_1, v1_2 => (bif (decide ((v1_2 : Int) < (a0.f3.length : Int))) then ((a0.f3[v1_2]?).bind fun x16 => ((s_f24 n x16 a1).bind fun q18 => (bif (q18.2 != 0) then some ([], q18.2) else (if v1_1.length + 1 ≤ 1000000 then (s_f1005_l1 n a0 a1 (v1_1 ++ [q18.1]) (v1_2 + 1)) else none)))) else (bif (a0.f0 == 3) then ((v1_1[0]?).bind fun x23 => (bif (!x23.b) then some ([], 0) else some ([a1], 0))) else some (v1_1, 0)))
end
def s_f1005 (n : Nat) (a0 : GOp) (a1 : Val) : Option (List Val × Int) :=
  (bif (((a0.f0 != 2) && (a0.f0 != 3)) && (a0.f0 != 4)) then some ([a1], 0) else (s_f1005_l1 n a0 a1 [] 0))

theorem w_f1005 (n : Nat) (a0 : GOp) (a1 : Val) (r : List Val × Int) (hr : s_f1005 n a0 a1 = some r) : ACall Tryz.prog 18 [.agg [.int .i64 a0.f0, .str a0.f1, .int .i64 a0.f2.kind, .sl .ro 2 (enys a0.f2.of), .sl .ro 8 (enxs a0.f3), .str a0.f4.op, .int .i64 a0.f4.v.kind, .int .i64 a0.f4.v.i, .bool a0.f4.v.b, .str a0.f4.v.s, .sl .ro 5 (encs a0.f4.v.t), .int .i64 a0.f4.n, .sl .ro 8 (enxs a0.f4.a), .int .i64 a0.f5, .int .i64 a0.f6], .agg (valC a1)] (.tup [.sl .ro 5 (encs r.1), .int .i64 r.2]) := by
 refine ACall.go [(0, .agg [.int .i64 a0.f0, .str a0.f1, .int .i64 a0.f2.kind, .sl .ro 2 (enys a0.f2.of), .sl .ro 8 (enxs a0.f3), .str a0.f4.op, .int .i64 a0.f4.v.kind, .int .i64 a0.f4.v.i, .bool a0.f4.v.b, .str a0.f4.v.s, .sl .ro 5 (encs a0.f4.v.t), .int .i64 a0.f4.n, .sl .ro 8 (enxs a0.f4.a), .int .i64 a0.f5, .int .i64 a0.f6]), (1, .agg (valC a1))] Tryz.func18 rfl Tryz.ntmps18 rfl rfl (by simp) ?_
 rw [s_f1005] at hr
 refine AW.seq (Rg ?_)
 refine AL.bx good (d := 2) (l := [.int .i64 a0.f0, .str a0.f1, .int .i64 a0.f2.kind, .sl .ro 2 (enys a0.f2.of), .sl .ro 8 (enxs a0.f3), .str a0.f4.op, .int .i64 a0.f4.v.kind, .int .i64 a0.f4.v.i, .bool a0.f4.v.b, .str a0.f4.v.s, .sl .ro 5 (encs a0.f4.v.t), .int .i64 a0.f4.n, .sl .ro 8 (enxs a0.f4.a), .int .i64 a0.f5, .int .i64 a0.f6]) rfl rfl rfl rfl rfl rfl 0 rfl ?_
 refine AL.bx good (d := 3) (l := [.int .i64 a1.kind, .int .i64 a1.i, .bool a1.b, .str a1.s, .sl .ro 5 (encs a1.t)]) rfl rfl rfl rfl rfl rfl 1 rfl ?_
 refine Av (.sl .nil 0 []) rfl ?_
 refine Av (.int .i64 0) rfl ?_
 refine AW.seq ?_
 refine AW.seq (Rg ?_)
 refine Av (.ptr 0 0) rfl ?_
 refine Av (.int .i64 a0.f0) rfl ?_
 refine Av (.bool (a0.f0 != 2)) rfl ?_
 refine AL.vb good (d := 13) (b := (a0.f0 != 2)) rfl rfl rfl rfl (fun g1 h2 => ?_)
 refine Gv (g1) (.ptr 0 0) rfl (by cases g1 <;> exact ⟨rfl, fun h => by first | rfl | cases h⟩) ?_
 refine Gv (g1) (.int .i64 a0.f0) rfl (by cases g1 <;> exact ⟨rfl, fun h => by first | rfl | cases h⟩) ?_
 refine Gv (g1) (.bool (a0.f0 != 3)) rfl (by cases g1 <;> exact ⟨rfl, fun h => by first | rfl | cases h⟩) ?_
 refine AL.v good (d := 17) (v := .bool (g1 && (a0.f0 != 3))) (rd := []) rfl rfl rfl (by cases g1 <;> rfl) ?_
 refine AL.vb good (d := 18) (b := (g1 && (a0.f0 != 3))) rfl rfl rfl rfl (fun g3 h4 => ?_)
 refine Gv (g3) (.ptr 0 0) rfl (by cases g3 <;> exact ⟨rfl, fun h => by first | rfl | cases h⟩) ?_
 refine Gv (g3) (.int .i64 a0.f0) rfl (by cases g3 <;> exact ⟨rfl, fun h => by first | rfl | cases h⟩) ?_
 refine Gv (g3) (.bool (a0.f0 != 4)) rfl (by cases g3 <;> exact ⟨rfl, fun h => by first | rfl | cases h⟩) ?_
 refine AL.v good (d := 22) (v := .bool (g3 && (a0.f0 != 4))) (rd := []) rfl rfl rfl (by cases g3 <;> rfl) ?_
 subst h2 h4
 refine AW.if rfl (fun h5 => ?_) (fun h5 => ?_)
 ·replace hr := cnd_t h5 hr
  refine AW.seq (Rg ?_)
  refine Av (.agg [.int .i64 a1.kind, .int .i64 a1.i, .bool a1.b, .str a1.s, .sl .ro 5 (encs a1.t)]) rfl ?_
  refine AL.lit good (d := 24) (rows := [[.int .i64 a1.kind, .int .i64 a1.i, .bool a1.b, .str a1.s, .sl .ro 5 (encs a1.t)]]) rfl rfl rfl rfl rfl rfl rfl rfl rfl 2 rfl ?_
  refine Av (.sl (.own 2) 5 [[.int .i64 a1.kind, .int .i64 a1.i, .bool a1.b, .str a1.s, .sl .ro 5 (encs a1.t)]]) rfl ?_
  refine Av (.int .i64 0) rfl ?_
  refine AW.ret ?_
  obtain rfl := Option.some.inj hr
  exact RetQ.w good (.inr rfl) rfl rfl ⟨⟨.inr rfl, (WvR_encs ⟨⟨Wv.refl _, Wv.refl _, Wv.refl _, Wv.refl _, Wv.refl _, trivial⟩, trivial⟩), .inl rfl⟩, Wv.refl _, trivial⟩ (by simp)
 ·replace hr := cnd_f h5 hr
  refine AW.skip ?_
  refine AW.seq (Rg ?_)
  refine Av (.sl .nil 0 []) rfl ?_
  refine AW.seq ?_
  refine AW.seq (Rg ?_)
  refine Av (.int .i64 0) rfl ?_
  refine AW.block ?_
  refine AW.adopt 6 rfl 2 5 42 rfl rfl ?_
  refine AW.lensB 0 rfl (fun hl14 => ?_)
  replace hl14 : a0.f3.length ≤ 9223372036854775807 := by rw [← enxs_length a0.f3]; exact hl14.2.2.2.2.1
  refine AW.lpw (fun x : Nat × (List Val) × Nat => [(2, .ptr 0 0), (3, .ptr 1 0), (6, .sl (.own 2) 5 (encs x.2.1)), (7, .int .i64 (x.2.2 : Int))]) (fun x => [(0, .box 46 [.int .i64 a0.f0, .str a0.f1, .int .i64 a0.f2.kind, .sl .ro 2 (enys a0.f2.of), .sl .ro 8 (enxs a0.f3), .str a0.f4.op, .int .i64 a0.f4.v.kind, .int .i64 a0.f4.v.i, .bool a0.f4.v.b, .str a0.f4.v.s, .sl .ro 5 (encs a0.f4.v.t), .int .i64 a0.f4.n, .sl .ro 8 (enxs a0.f4.a), .int .i64 a0.f5, .int .i64 a0.f6]), (1, .box 42 [.int .i64 a1.kind, .int .i64 a1.i, .bool a1.b, .str a1.s, .sl .ro 5 (encs a1.t)]), (2, .row 42 5 (encs x.2.1).length)]) (fun x => s_f1005_l1 x.1 a0 a1 x.2.1 x.2.2 = some r ∧ x.1 ≤ n) (fun x => x.1) (n, [], 0) ⟨(fun _ h => by cases h), fmc ⟨⟨⟨_, rfl, Wv.refl _⟩, (by simp)⟩, fmc ⟨⟨⟨_, rfl, Wv.refl _⟩, (by simp)⟩, fmc ⟨⟨⟨_, rfl, Wv.refl _⟩, (by simp)⟩, fmc ⟨⟨⟨_, rfl, Wv.refl _⟩, (by simp)⟩, (fun _ h => by cases h)⟩⟩⟩⟩, fmc ⟨⟨⟨_, rfl, ⟨rfl, ⟨Wv.refl _, Wv.refl _, Wv.refl _, Wv.refl _, Wv.refl _, Wv.refl _, Wv.refl _, Wv.refl _, Wv.refl _, Wv.refl _, Wv.refl _, Wv.refl _, Wv.refl _, Wv.refl _, Wv.refl _, trivial⟩⟩⟩, (by simp)⟩, fmc ⟨⟨⟨_, rfl, ⟨rfl, ⟨Wv.refl _, Wv.refl _, Wv.refl _, Wv.refl _, Wv.refl _, trivial⟩⟩⟩, (by simp)⟩, fmc ⟨⟨⟨_, rfl, ⟨rfl, rfl, rfl⟩⟩, (by simp)⟩, (fun _ h => by cases h)⟩⟩⟩⟩ ⟨hr, Nat.le_refl _⟩ (fun ⟨m, v1_1, v1_2⟩ hx => ?_)
  obtain ⟨hr, hm⟩ := hx
  try dsimp only at hr hm
  cases m with
  | zero => rw [s_f1005_l1] at hr; cases hr
  | succ m =>
   rw [s_f1005_l1] at hr
   show AW Tryz.prog _ _ _ (mkS 60 [(2, .ptr 0 0), (3, .ptr 1 0), (6, .sl (.own 2) 5 (encs v1_1)), (7, .int .i64 (v1_2 : Int))] [(0, .box 46 [.int .i64 a0.f0, .str a0.f1, .int .i64 a0.f2.kind, .sl .ro 2 (enys a0.f2.of), .sl .ro 8 (enxs a0.f3), .str a0.f4.op, .int .i64 a0.f4.v.kind, .int .i64 a0.f4.v.i, .bool a0.f4.v.b, .str a0.f4.v.s, .sl .ro 5 (encs a0.f4.v.t), .int .i64 a0.f4.n, .sl .ro 8 (enxs a0.f4.a), .int .i64 a0.f5, .int .i64 a0.f6]), (1, .box 42 [.int .i64 a1.kind, .int .i64 a1.i, .bool a1.b, .str a1.s, .sl .ro 5 (encs a1.t)]), (2, .row 42 5 (encs v1_1).length)])
   refine AW.seq ?_
   refine AW.seq (Rg ?_)
   refine Av (.int .i64 (v1_2 : Int)) rfl ?_
   refine Av (.ptr 0 4) rfl ?_
   refine Av (.sl .ro 8 (enxs a0.f3)) rfl ?_
   refine AL.ln good (d := 28) (m := a0.f3.length) rfl rfl rfl rfl rfl rfl (enxs_length _) ?_
   refine Av (.bool (decide ((v1_2 : Int) < (a0.f3.length : Int)))) rfl ?_
   refine AW.if rfl (fun h15 => ?_) (fun h15 => ?_)
   ·replace hr := cnd_t h15 hr
    refine AW.skip ?_
    refine AW.seq ?_
    refine AW.block ?_
    refine AW.seq ?_
    refine AW.drawc (M := fun i => ⟨Nat.beq i 11, bif Nat.beq i 1 then some { ids := [0] } else bif Nat.beq i 4 then some { ids := [] } else bif Nat.beq i 5 then some { ids := [1] } else bif Nat.beq i 10 then some { ids := [3] } else bif Nat.beq i 11 then some { ids := [3] } else none⟩) good.wide (by kernel_rfl) ?_
    refine Av (nc := ⟨rfl⟩) (.ptr 0 4) rfl ?_
    refine AL.vc good (d := 34) (v := .sl .ro 8 (enxs a0.f3)) rfl rfl rfl rfl rfl rfl (fmc ⟨.head _, (fun _ h => by cases h)⟩) ?_
    refine Av (nc := ⟨rfl⟩) (.int .i64 (v1_2 : Int)) rfl ?_
    obtain ⟨x16, h17, hr⟩ := bnd1 hr
    refine AL.ix (nc := ⟨rfl⟩) good (d := 36) (r := [.str x16.op, .int .i64 x16.v.kind, .int .i64 x16.v.i, .bool x16.v.b, .str x16.v.s, .sl .ro 5 (encs x16.v.t), .int .i64 x16.n, .sl .ro 8 (enxs x16.a)]) rfl rfl rfl rfl rfl rfl rfl (Int.natCast_nonneg _) (enxs_get h17) ?_
    refine AL.vc good (d := 37) (v := .agg [.str x16.op, .int .i64 x16.v.kind, .int .i64 x16.v.i, .bool x16.v.b, .str x16.v.s, .sl .ro 5 (encs x16.v.t), .int .i64 x16.n, .sl .ro 8 (enxs x16.a)]) rfl rfl rfl rfl rfl rfl (fun _ h => by cases h) ?_
    refine AL.vc good (d := 38) (v := .agg [.int .i64 a1.kind, .int .i64 a1.i, .bool a1.b, .str a1.s, .sl .ro 5 (encs a1.t)]) rfl rfl rfl rfl rfl rfl (fmc ⟨.head _, (fun _ h => by cases h)⟩) ?_
    obtain ⟨q18, h19, hr⟩ := bnd1 hr
    refine AL.cw (nc := ⟨rfl⟩) good (d := 39) (xs := [.agg (exC x16), .agg (valC a1)]) (res := .tup [.agg [.int .i64 q18.1.kind, .int .i64 q18.1.i, .bool q18.1.b, .str q18.1.s, .sl .ro 5 (encs q18.1.t)], .int .i64 q18.2]) rfl rfl rfl rfl rfl rfl rfl (w_f24 _ _ _ _ h19) ⟨(Wv.refl _), (Wv.refl _), trivial⟩ (by simp) ?_
    refine Av (nc := ⟨rfl⟩) (.tup [.agg [.int .i64 q18.1.kind, .int .i64 q18.1.i, .bool q18.1.b, .str q18.1.s, .sl .ro 5 (encs q18.1.t)], .int .i64 q18.2]) rfl ?_
    refine Av (nc := ⟨rfl⟩) (.agg [.int .i64 q18.1.kind, .int .i64 q18.1.i, .bool q18.1.b, .str q18.1.s, .sl .ro 5 (encs q18.1.t)]) rfl ?_
    refine Av (nc := ⟨rfl⟩) (.int .i64 q18.2) rfl ?_
    refine AL.alcC good (d := 8) rfl rfl rfl rfl rfl 3 rfl (ColN.mk rfl rfl (fun _ h => by cases h) (fmc ⟨.head _, (fun _ h => by cases h)⟩) (fun _ h => by cases h)) ?_
    refine AL.st2c good (c2 := [.int .i64 q18.1.kind, .int .i64 q18.1.i, .bool q18.1.b, .str q18.1.s, .sl .ro 5 (encs q18.1.t)]) rfl rfl rfl rfl rfl rfl rfl rfl rfl rfl rfl rfl rfl ?_
    refine Av (nc := ⟨rfl⟩) (.int .i64 q18.2) rfl ?_
    refine AW.seq ?_
    refine AW.seq (Rg ?_)
    refine Av (.int .i64 q18.2) rfl ?_
    refine Av (.bool (q18.2 != 0)) rfl ?_
    refine AW.if rfl (fun h20 => ?_) (fun h20 => ?_)
    ·replace hr := cnd_t h20 hr
     refine AW.seq (Rg ?_)
     refine Av (.int .i64 q18.2) rfl ?_
     refine Av (.sl .nil 0 []) rfl ?_
     refine Av (.int .i64 q18.2) rfl ?_
     refine AW.ret ?_
     obtain rfl := Option.some.inj hr
     exact RetQ.w good (.inr rfl) rfl rfl ⟨⟨.inr rfl, trivial, .inr rfl⟩, Wv.refl _, trivial⟩ (by simp)
    ·replace hr := cnd_f h20 hr
     refine AW.skip ?_
     refine Rg ?_
     refine Av (.sl (.own 2) 5 (encs v1_1)) rfl ?_
     refine Av (.agg [.int .i64 q18.1.kind, .int .i64 q18.1.i, .bool q18.1.b, .str q18.1.s, .sl .ro 5 (encs q18.1.t)]) rfl ?_
     refine AL.lit good (d := 47) (rows := [[.int .i64 q18.1.kind, .int .i64 q18.1.i, .bool q18.1.b, .str q18.1.s, .sl .ro 5 (encs q18.1.t)]]) rfl rfl rfl rfl rfl rfl rfl rfl rfl 4 rfl ?_
     obtain ⟨h21, hr⟩ := grd hr
     refine AL.aw2 good (d := 48) (rows := encs v1_1) (news := [(valC q18.1)]) (rows2 := encs (v1_1 ++ [q18.1])) rfl rfl rfl rfl rfl rfl rfl rfl rfl (by simp) rfl rfl rfl ⟨⟨Wv.refl _, Wv.refl _, Wv.refl _, Wv.refl _, Wv.refl _, trivial⟩, trivial⟩ (by simp [encs_map]) (by rw [encs_length, List.length_append]; exact h21) rfl ?_
     refine Av (.sl (.own 2) 5 (encs (v1_1 ++ [q18.1]))) rfl ?_
     refine Rg ?_
     refine Av (.int .i64 (v1_2 : Int)) rfl ?_
     refine Av (.int .i64 (IntKind.i64.wrap ((v1_2 : Int) + 1))) rfl ?_
     refine Av (.int .i64 (IntKind.i64.wrap ((v1_2 : Int) + 1))) rfl ?_
     exact ⟨(m, (v1_1 ++ [q18.1]), (v1_2 + 1)), _, _, rfl, ⟨(fun _ h => by cases h), fmc ⟨⟨⟨_, rfl, Wv.refl _⟩, (by simp)⟩, fmc ⟨⟨⟨_, rfl, Wv.refl _⟩, (by simp)⟩, fmc ⟨⟨⟨_, rfl, Wv.refl _⟩, (by simp)⟩, fmc ⟨⟨⟨_, rfl, (wnx h15 hl14)⟩, (by simp)⟩, (fun _ h => by cases h)⟩⟩⟩⟩, fmc ⟨⟨⟨_, rfl, ⟨rfl, ⟨Wv.refl _, Wv.refl _, Wv.refl _, Wv.refl _, Wv.refl _, Wv.refl _, Wv.refl _, Wv.refl _, Wv.refl _, Wv.refl _, Wv.refl _, Wv.refl _, Wv.refl _, Wv.refl _, Wv.refl _, trivial⟩⟩⟩, (by simp)⟩, fmc ⟨⟨⟨_, rfl, ⟨rfl, ⟨Wv.refl _, Wv.refl _, Wv.refl _, Wv.refl _, Wv.refl _, trivial⟩⟩⟩, (by simp)⟩, fmc ⟨⟨⟨_, rfl, ⟨rfl, rfl, rfl⟩⟩, (by simp)⟩, (fun _ h => by cases h)⟩⟩⟩⟩, ⟨hr, Nat.le_of_succ_le hm⟩, Nat.lt_succ_self _⟩
   ·replace hr := cnd_f h15 hr
    refine AW.exit ?_
    refine AW.seq ?_
    refine AW.seq (Rg ?_)
    refine Av (.ptr 0 0) rfl ?_
    refine Av (.int .i64 a0.f0) rfl ?_
    refine Av (.bool (a0.f0 == 3)) rfl ?_
    refine AW.if rfl (fun h22 => ?_) (fun h22 => ?_)
    ·replace hr := cnd_t h22 hr
     refine AW.seq ?_
     refine AW.seq (Rg ?_)
     refine Av (.sl (.own 2) 5 (encs v1_1)) rfl ?_
     obtain ⟨x23, h24, hr⟩ := bnd1 hr
     refine AL.ix good (d := 53) (r := [.int .i64 x23.kind, .int .i64 x23.i, .bool x23.b, .str x23.s, .sl .ro 5 (encs x23.t)]) rfl rfl rfl rfl rfl rfl rfl (by decide) (encs_get h24) ?_
     refine Av (.ep [.bool x23.b, .str x23.s, .sl .ro 5 (encs x23.t)]) rfl ?_
     refine Av (.bool x23.b) rfl ?_
     refine Av (.bool (!x23.b)) rfl ?_
     refine AW.if rfl (fun h25 => ?_) (fun h25 => ?_)
     ·replace hr := cnd_t h25 hr
      refine AW.seq (Rg ?_)
      refine Av (.sl .nil 0 []) rfl ?_
      refine Av (.int .i64 0) rfl ?_
      refine AW.ret ?_
      obtain rfl := Option.some.inj hr
      exact RetQ.w good (.inr rfl) rfl rfl ⟨⟨.inr rfl, trivial, .inr rfl⟩, Wv.refl _, trivial⟩ (by simp)
     ·replace hr := cnd_f h25 hr
      refine AW.skip ?_
      refine AW.seq (Rg ?_)
      refine Av (.agg [.int .i64 a1.kind, .int .i64 a1.i, .bool a1.b, .str a1.s, .sl .ro 5 (encs a1.t)]) rfl ?_
      refine AL.lit good (d := 58) (rows := [[.int .i64 a1.kind, .int .i64 a1.i, .bool a1.b, .str a1.s, .sl .ro 5 (encs a1.t)]]) rfl rfl rfl rfl rfl rfl rfl rfl rfl 3 rfl ?_
      refine Av (.sl (.own 3) 5 [[.int .i64 a1.kind, .int .i64 a1.i, .bool a1.b, .str a1.s, .sl .ro 5 (encs a1.t)]]) rfl ?_
      refine Av (.int .i64 0) rfl ?_
      refine AW.ret ?_
      obtain rfl := Option.some.inj hr
      exact RetQ.w good (.inr rfl) rfl rfl ⟨⟨.inr rfl, (WvR_encs ⟨⟨Wv.refl _, Wv.refl _, Wv.refl _, Wv.refl _, Wv.refl _, trivial⟩, trivial⟩), .inl rfl⟩, Wv.refl _, trivial⟩ (by simp)
    ·replace hr := cnd_f h22 hr
     refine AW.skip ?_
     refine AW.seq (Rg ?_)
     refine Av (.sl (.own 2) 5 (encs v1_1)) rfl ?_
     refine Av (.sl (.own 2) 5 (encs v1_1)) rfl ?_
     refine Av (.int .i64 0) rfl ?_
     refine AW.ret ?_
     obtain rfl := Option.some.inj hr
     exact RetQ.w good (.inr rfl) rfl rfl ⟨⟨.inr rfl, WvR.refl _, .inl rfl⟩, Wv.refl _, trivial⟩ (by simp)

def s_f1004 (n : Nat) (a0 : GOp) : Option (List GInst) :=
  ((s_f52 n a0.f4).bind fun q1 => (if q1.length + 2 ≤ 1000000 then some (q1 ++ [(GInst.mk ⟨#[101, 109, 105, 116]⟩ (Val.mk 0 0 false ⟨#[]⟩ []) 1), (GInst.mk ⟨#[114, 101, 116]⟩ (Val.mk 0 0 false ⟨#[]⟩ []) 0)]) else none))

theorem w_f1004 (n : Nat) (a0 : GOp) (r : List GInst) (hr : s_f1004 n a0 = some r) (id : Nat) : ACallN Tryz.prog 14 [.agg [.int .i64 a0.f0, .str a0.f1, .int .i64 a0.f2.kind, .sl .ro 2 (enys a0.f2.of), .sl .ro 8 (enxs a0.f3), .str a0.f4.op, .int .i64 a0.f4.v.kind, .int .i64 a0.f4.v.i, .bool a0.f4.v.b, .str a0.f4.v.s, .sl .ro 5 (encs a0.f4.v.t), .int .i64 a0.f4.n, .sl .ro 8 (enxs a0.f4.a), .int .i64 a0.f5, .int .i64 a0.f6]] id (.row 94 7 (r_st_GInst r).length) (.sl (.own id) 7 (r_st_GInst r)) := by
 refine ACallN.go (rows := r_st_GInst r) [(0, .agg [.int .i64 a0.f0, .str a0.f1, .int .i64 a0.f2.kind, .sl .ro 2 (enys a0.f2.of), .sl .ro 8 (enxs a0.f3), .str a0.f4.op, .int .i64 a0.f4.v.kind, .int .i64 a0.f4.v.i, .bool a0.f4.v.b, .str a0.f4.v.s, .sl .ro 5 (encs a0.f4.v.t), .int .i64 a0.f4.n, .sl .ro 8 (enxs a0.f4.a), .int .i64 a0.f5, .int .i64 a0.f6])] Tryz.func14 rfl Tryz.ntmps14 rfl rfl (by simp) (by simp) ?_ id
 rw [s_f1004] at hr
 refine AW.seq (Rg ?_)
 refine AL.bx good (d := 1) (l := [.int .i64 a0.f0, .str a0.f1, .int .i64 a0.f2.kind, .sl .ro 2 (enys a0.f2.of), .sl .ro 8 (enxs a0.f3), .str a0.f4.op, .int .i64 a0.f4.v.kind, .int .i64 a0.f4.v.i, .bool a0.f4.v.b, .str a0.f4.v.s, .sl .ro 5 (encs a0.f4.v.t), .int .i64 a0.f4.n, .sl .ro 8 (enxs a0.f4.a), .int .i64 a0.f5, .int .i64 a0.f6]) rfl rfl rfl rfl rfl rfl 0 rfl ?_
 refine Av (.sl .nil 0 []) rfl ?_
 refine AW.seq (Rg ?_)
 refine Av (.ptr 0 5) rfl ?_
 refine Av (.agg [.str a0.f4.op, .int .i64 a0.f4.v.kind, .int .i64 a0.f4.v.i, .bool a0.f4.v.b, .str a0.f4.v.s, .sl .ro 5 (encs a0.f4.v.t), .int .i64 a0.f4.n, .sl .ro 8 (enxs a0.f4.a)]) rfl ?_
 obtain ⟨q1, h2, hr⟩ := bnd1 hr
 refine AL.clF good (d := 5) (xs := [.agg (exC a0.f4)]) (ob := .row 94 7 (r_st_GInst q1).length) (res := .sl (.own 1) 7 (r_st_GInst q1)) rfl rfl rfl rfl rfl rfl rfl 1 rfl (w_f52 _ _ _ h2 1) ⟨(Wv.refl _), trivial⟩ rfl ColN.no ?_
 refine AL.cw good (d := 6) (xs := [.str ⟨#[101, 109, 105, 116]⟩, .int .i64 1]) (res := .agg [.str ⟨#[101, 109, 105, 116]⟩, .int .i64 0, .int .i64 0, .bool false, .str ⟨#[]⟩, .sl .ro 5 (encs []), .int .i64 1]) rfl rfl rfl rfl rfl rfl rfl (w_f86 ⟨#[101, 109, 105, 116]⟩ 1) ⟨(Wv.refl _), (Wv.refl _), trivial⟩ (by simp) ?_
 refine AL.cw good (d := 7) (xs := [.str ⟨#[114, 101, 116]⟩, .int .i64 0]) (res := .agg [.str ⟨#[114, 101, 116]⟩, .int .i64 0, .int .i64 0, .bool false, .str ⟨#[]⟩, .sl .ro 5 (encs []), .int .i64 0]) rfl rfl rfl rfl rfl rfl rfl (w_f86 ⟨#[114, 101, 116]⟩ 0) ⟨(Wv.refl _), (Wv.refl _), trivial⟩ (by simp) ?_
 refine AL.lit good (d := 8) (rows := [[.str ⟨#[101, 109, 105, 116]⟩, .int .i64 0, .int .i64 0, .bool false, .str ⟨#[]⟩, .sl .ro 5 (encs []), .int .i64 1], [.str ⟨#[114, 101, 116]⟩, .int .i64 0, .int .i64 0, .bool false, .str ⟨#[]⟩, .sl .ro 5 (encs []), .int .i64 0]]) rfl rfl rfl rfl rfl rfl rfl rfl rfl 2 rfl ?_
 obtain ⟨h3, hr⟩ := grd hr
 refine AL.aw2 good (d := 9) (rows := r_st_GInst q1) (news := [[.str (((GInst.mk ⟨#[101, 109, 105, 116]⟩ (Val.mk 0 0 false ⟨#[]⟩ []) 1)).f0), .int .i64 ((((GInst.mk ⟨#[101, 109, 105, 116]⟩ (Val.mk 0 0 false ⟨#[]⟩ []) 1)).f1).kind), .int .i64 ((((GInst.mk ⟨#[101, 109, 105, 116]⟩ (Val.mk 0 0 false ⟨#[]⟩ []) 1)).f1).i), .bool ((((GInst.mk ⟨#[101, 109, 105, 116]⟩ (Val.mk 0 0 false ⟨#[]⟩ []) 1)).f1).b), .str ((((GInst.mk ⟨#[101, 109, 105, 116]⟩ (Val.mk 0 0 false ⟨#[]⟩ []) 1)).f1).s), .sl .ro 5 (encs ((((GInst.mk ⟨#[101, 109, 105, 116]⟩ (Val.mk 0 0 false ⟨#[]⟩ []) 1)).f1).t)), .int .i64 (((GInst.mk ⟨#[101, 109, 105, 116]⟩ (Val.mk 0 0 false ⟨#[]⟩ []) 1)).f2)], [.str (((GInst.mk ⟨#[114, 101, 116]⟩ (Val.mk 0 0 false ⟨#[]⟩ []) 0)).f0), .int .i64 ((((GInst.mk ⟨#[114, 101, 116]⟩ (Val.mk 0 0 false ⟨#[]⟩ []) 0)).f1).kind), .int .i64 ((((GInst.mk ⟨#[114, 101, 116]⟩ (Val.mk 0 0 false ⟨#[]⟩ []) 0)).f1).i), .bool ((((GInst.mk ⟨#[114, 101, 116]⟩ (Val.mk 0 0 false ⟨#[]⟩ []) 0)).f1).b), .str ((((GInst.mk ⟨#[114, 101, 116]⟩ (Val.mk 0 0 false ⟨#[]⟩ []) 0)).f1).s), .sl .ro 5 (encs ((((GInst.mk ⟨#[114, 101, 116]⟩ (Val.mk 0 0 false ⟨#[]⟩ []) 0)).f1).t)), .int .i64 (((GInst.mk ⟨#[114, 101, 116]⟩ (Val.mk 0 0 false ⟨#[]⟩ []) 0)).f2)]]) (rows2 := r_st_GInst (q1 ++ [(GInst.mk ⟨#[101, 109, 105, 116]⟩ (Val.mk 0 0 false ⟨#[]⟩ []) 1), (GInst.mk ⟨#[114, 101, 116]⟩ (Val.mk 0 0 false ⟨#[]⟩ []) 0)])) rfl rfl rfl rfl rfl rfl rfl rfl rfl (by simp) rfl rfl rfl ⟨⟨Wv.refl _, Wv.refl _, Wv.refl _, Wv.refl _, Wv.refl _, Wv.refl _, Wv.refl _, trivial⟩, ⟨Wv.refl _, Wv.refl _, Wv.refl _, Wv.refl _, Wv.refl _, Wv.refl _, Wv.refl _, trivial⟩, trivial⟩ (by simp [r_st_GInst, rowF]) (by rw [r_st_GInst_length, List.length_append]; exact h3) rfl ?_
 refine Av (.sl (.own 1) 7 (r_st_GInst (q1 ++ [(GInst.mk ⟨#[101, 109, 105, 116]⟩ (Val.mk 0 0 false ⟨#[]⟩ []) 1), (GInst.mk ⟨#[114, 101, 116]⟩ (Val.mk 0 0 false ⟨#[]⟩ []) 0)]))) rfl ?_
 refine AW.ret ?_
 obtain rfl := Option.some.inj hr
 exact RetN.w good (.inr rfl) rfl rfl (WvR.refl _) rfl

mutual
def s_f42_l1 : Nat → (List Val) → (List Val) → Nat → Option Bool
  | 0, _, _, _ => none
  | n + 1, a0, a1, v1_1 => (bif (decide ((v1_1 : Int) < (a0.length : Int))) then ((a0[v1_1]?).bind fun x16 => ((s_f22 n x16).bind fun q18 => ((a1[v1_1]?).bind fun x20 => ((s_f25 n q18 x20).bind fun q22 => (bif (!q22) then some false else (s_f42_l1 n a0 a1 (v1_1 + 1))))))) else some true)
end
def s_f42 (n : Nat) (a0 : List Val) (a1 : List Val) : Option Bool :=
  (bif ((a0.length : Int) != (a1.length : Int)) then some false else (s_f42_l1 n a0 a1 0))

theorem w_f42 (n : Nat) (a0 : List Val) (a1 : List Val) (r : Bool) (hr : s_f42 n a0 a1 = some r) : ACall Tryz.prog 19 [.sl .ro 5 (encs a0), .sl .ro 5 (encs a1)] (.bool r) := by
 refine ACall.go [(0, .sl .ro 5 (encs a0)), (1, .sl .ro 5 (encs a1))] Tryz.func19 rfl Tryz.ntmps19 rfl rfl (by simp) ?_
 rw [s_f42] at hr
 refine AW.seq (Rg ?_)
 refine Av (.bool false) rfl ?_
 refine AW.seq ?_
 refine AW.seq (Rg ?_)
 refine Av (.sl .ro 5 (encs a0)) rfl ?_
 refine AL.ln good (d := 7) (m := a0.length) rfl rfl rfl rfl rfl rfl (encs_length _) ?_
 refine Av (.sl .ro 5 (encs a1)) rfl ?_
 refine AL.ln good (d := 9) (m := a1.length) rfl rfl rfl rfl rfl rfl (encs_length _) ?_
 refine Av (.bool ((a0.length : Int) != (a1.length : Int))) rfl ?_
 refine AW.if rfl (fun h1 => ?_) (fun h1 => ?_)
 ·replace hr := cnd_t h1 hr
  refine AW.seq (Rg ?_)
  refine Av (.bool false) rfl ?_
  refine AW.ret ?_
  obtain rfl := Option.some.inj hr
  exact RetQ.w good (.inr rfl) rfl rfl (Wv.refl _) (by simp)
 ·replace hr := cnd_f h1 hr
  refine AW.skip ?_
  refine AW.seq ?_
  refine AW.seq (Rg ?_)
  refine Av (.int .i64 0) rfl ?_
  refine AW.block ?_
  refine AW.lens 0 rfl (fun hl14 => ?_)
  replace hl14 : a0.length ≤ 9223372036854775807 := by rw [← encs_length a0]; exact hl14
  refine AW.lpw (fun x : Nat × Nat => [(0, .sl .ro 5 (encs a0)), (1, .sl .ro 5 (encs a1)), (5, .int .i64 (x.2 : Int))]) (fun x => []) (fun x => s_f42_l1 x.1 a0 a1 x.2 = some r ∧ x.1 ≤ n) (fun x => x.1) (n, 0) ⟨(fun _ h => by cases h), fmc ⟨⟨⟨_, rfl, Wv.refl _⟩, (by simp)⟩, fmc ⟨⟨⟨_, rfl, Wv.refl _⟩, (by simp)⟩, fmc ⟨⟨⟨_, rfl, Wv.refl _⟩, (by simp)⟩, (fun _ h => by cases h)⟩⟩⟩, (fun _ h => by cases h)⟩ ⟨hr, Nat.le_refl _⟩ (fun ⟨m, v1_1⟩ hx => ?_)
  obtain ⟨hr, hm⟩ := hx
  try dsimp only at hr hm
  cases m with
  | zero => rw [s_f42_l1] at hr; cases hr
  | succ m =>
   rw [s_f42_l1] at hr
   show AW Tryz.prog _ _ _ (mkS 28 [(0, .sl .ro 5 (encs a0)), (1, .sl .ro 5 (encs a1)), (5, .int .i64 (v1_1 : Int))] [])
   refine AW.seq ?_
   refine AW.seq (Rg ?_)
   refine Av (.int .i64 (v1_1 : Int)) rfl ?_
   refine Av (.sl .ro 5 (encs a0)) rfl ?_
   refine AL.ln good (d := 13) (m := a0.length) rfl rfl rfl rfl rfl rfl (encs_length _) ?_
   refine Av (.bool (decide ((v1_1 : Int) < (a0.length : Int)))) rfl ?_
   refine AW.if rfl (fun h15 => ?_) (fun h15 => ?_)
   ·replace hr := cnd_t h15 hr
    refine AW.skip ?_
    refine AW.seq ?_
    refine AW.block ?_
    refine AW.seq ?_
    refine AW.draw (M := fun i => false) good.wide (by kernel_rfl) ?_
    refine Av (.sl .ro 5 (encs a0)) rfl ?_
    refine Av (.int .i64 (v1_1 : Int)) rfl ?_
    obtain ⟨x16, h17, hr⟩ := bnd1 hr
    refine AL.ix good (d := 19) (r := [.int .i64 x16.kind, .int .i64 x16.i, .bool x16.b, .str x16.s, .sl .ro 5 (encs x16.t)]) rfl rfl rfl rfl rfl rfl rfl (Int.natCast_nonneg _) (encs_get h17) ?_
    refine Av (.agg [.int .i64 x16.kind, .int .i64 x16.i, .bool x16.b, .str x16.s, .sl .ro 5 (encs x16.t)]) rfl ?_
    obtain ⟨q18, h19, hr⟩ := bnd1 hr
    refine AL.cw good (d := 21) (xs := [.agg (valC x16)]) (res := .agg [.int .i64 q18.kind, .int .i64 q18.i, .bool q18.b, .str q18.s, .sl .ro 5 (encs q18.t)]) rfl rfl rfl rfl rfl rfl rfl (w_f22 _ _ _ h19) ⟨(Wv.refl _), trivial⟩ (by simp) ?_
    refine Av (.sl .ro 5 (encs a1)) rfl ?_
    refine Av (.int .i64 (v1_1 : Int)) rfl ?_
    obtain ⟨x20, h21, hr⟩ := bnd1 hr
    refine AL.ix good (d := 24) (r := [.int .i64 x20.kind, .int .i64 x20.i, .bool x20.b, .str x20.s, .sl .ro 5 (encs x20.t)]) rfl rfl rfl rfl rfl rfl rfl (Int.natCast_nonneg _) (encs_get h21) ?_
    refine Av (.agg [.int .i64 x20.kind, .int .i64 x20.i, .bool x20.b, .str x20.s, .sl .ro 5 (encs x20.t)]) rfl ?_
    obtain ⟨q22, h23, hr⟩ := bnd1 hr
    refine AL.cw good (d := 26) (xs := [.agg (valC q18), .agg (valC x20)]) (res := .bool q22) rfl rfl rfl rfl rfl rfl rfl (w_f25 _ _ _ _ h23) ⟨(Wv.refl _), (Wv.refl _), trivial⟩ (by simp) ?_
    refine Av (.bool (!q22)) rfl ?_
    refine AW.if rfl (fun h24 => ?_) (fun h24 => ?_)
    ·replace hr := cnd_t h24 hr
     refine AW.seq (Rg ?_)
     refine Av (.bool false) rfl ?_
     refine AW.ret ?_
     obtain rfl := Option.some.inj hr
     exact RetQ.w good (.inr rfl) rfl rfl (Wv.refl _) (by simp)
    ·replace hr := cnd_f h24 hr
     refine AW.skip ?_
     refine Rg ?_
     refine Av (.int .i64 (v1_1 : Int)) rfl ?_
     refine Av (.int .i64 (IntKind.i64.wrap ((v1_1 : Int) + 1))) rfl ?_
     refine Av (.int .i64 (IntKind.i64.wrap ((v1_1 : Int) + 1))) rfl ?_
     exact ⟨(m, (v1_1 + 1)), _, _, rfl, ⟨(fun _ h => by cases h), fmc ⟨⟨⟨_, rfl, Wv.refl _⟩, (by simp)⟩, fmc ⟨⟨⟨_, rfl, Wv.refl _⟩, (by simp)⟩, fmc ⟨⟨⟨_, rfl, (wnx h15 hl14)⟩, (by simp)⟩, (fun _ h => by cases h)⟩⟩⟩, (fun _ h => by cases h)⟩, ⟨hr, Nat.le_of_succ_le hm⟩, Nat.lt_succ_self _⟩
   ·replace hr := cnd_f h15 hr
    refine AW.exit ?_
    refine AW.seq (Rg ?_)
    refine Av (.bool true) rfl ?_
    refine AW.ret ?_
    obtain rfl := Option.some.inj hr
    exact RetQ.w good (.inr rfl) rfl rfl (Wv.refl _) (by simp)

end
end Go.Proofs.YtbcjcekoonebiaaGreat.Tl

set_option linter.unusedVariables false
set_option linter.unusedSimpArgs false
namespace Go.Proofs.YtbcjcekoonebiaaGreat.Tl
open Go Go.RowKit
def s_f1000 (n : Nat) (a0 : GOp) (a1 : Val) : Option Bool :=
  ((s_f36 n).bind fun q1 => (bif (!q1) then some false else ((s_f1001 n a0).bind fun q4 => (bif (!q4) then some true else ((s_f18 n a1).bind fun q7 => (bif (!q7) then some true else ((s_f76 n a0).bind fun q10 => ((s_f22 n a1).bind fun q12 => (bif ((decide (q10.f0 < 2)) || (decide (q10.f0 > 7))) then some true else ((s_f21 n q12).bind fun q17 => ((s_f1002 n q10 [q17]).bind fun q19 => (bif (q19.2 != 0) then some true else (bif (((q10.f0 == 5) || (q10.f0 == 6)) || (q10.f0 == 7)) then ((s_f1004 n q10).bind fun q23 => ((s_f51 n q23).bind fun q25 => ((s_f40 n q25 a1).bind fun q27 => ((s_f24 n q10.f4 q12).bind fun q29 => (bif (q27.2 == q29.2) then (bif (q29.2 != 0) then (bif ((q27.1.length : Int) == 0) then some true else some false) else (bif ((q27.1.length : Int) == 1) then ((q27.1[0]?).bind fun x35 => ((s_f22 n x35).bind fun q37 => ((s_f25 n q37 q29.1).bind fun q39 => some q39))) else some false)) else some false))))) else ((s_f75 n q10).bind fun q41 => ((s_f51 n q41).bind fun q43 => ((s_f40 n q43 a1).bind fun q45 => ((s_f1005 n q10 q12).bind fun q47 => (bif (q45.2 == q47.2) then ((s_f42 n q45.1 q47.1).bind fun q50 => some q50) else some false))))))))))))))))))

section
attribute [local simp] pureA pureL pureR inA inL inR inO idsIn encs_pure enxs_pure enys_pure valC_pure exC_pure tyC_pure r_int_u8_pure r_st_GInst_pure r_sl_st_GInst_pure r_st_GMiss_pure
theorem w_f1000 (n : Nat) (a0 : GOp) (a1 : Val) (r : Bool) (hr : s_f1000 n a0 a1 = some r) : ACall Tryz.prog 3 [.agg [.int .i64 a0.f0, .str a0.f1, .int .i64 a0.f2.kind, .sl .ro 2 (enys a0.f2.of), .sl .ro 8 (enxs a0.f3), .str a0.f4.op, .int .i64 a0.f4.v.kind, .int .i64 a0.f4.v.i, .bool a0.f4.v.b, .str a0.f4.v.s, .sl .ro 5 (encs a0.f4.v.t), .int .i64 a0.f4.n, .sl .ro 8 (enxs a0.f4.a), .int .i64 a0.f5, .int .i64 a0.f6], .agg (valC a1)] (.bool r) := by
 refine ACall.go [(0, .agg [.int .i64 a0.f0, .str a0.f1, .int .i64 a0.f2.kind, .sl .ro 2 (enys a0.f2.of), .sl .ro 8 (enxs a0.f3), .str a0.f4.op, .int .i64 a0.f4.v.kind, .int .i64 a0.f4.v.i, .bool a0.f4.v.b, .str a0.f4.v.s, .sl .ro 5 (encs a0.f4.v.t), .int .i64 a0.f4.n, .sl .ro 8 (enxs a0.f4.a), .int .i64 a0.f5, .int .i64 a0.f6]), (1, .agg (valC a1))] Tryz.func3 rfl Tryz.ntmps3 rfl rfl (by simp) ?_
 rw [s_f1000] at hr
 refine AW.seq (Rg ?_)
 refine AL.bx good (d := 2) (l := [.int .i64 a0.f0, .str a0.f1, .int .i64 a0.f2.kind, .sl .ro 2 (enys a0.f2.of), .sl .ro 8 (enxs a0.f3), .str a0.f4.op, .int .i64 a0.f4.v.kind, .int .i64 a0.f4.v.i, .bool a0.f4.v.b, .str a0.f4.v.s, .sl .ro 5 (encs a0.f4.v.t), .int .i64 a0.f4.n, .sl .ro 8 (enxs a0.f4.a), .int .i64 a0.f5, .int .i64 a0.f6]) rfl rfl rfl rfl rfl rfl 0 rfl ?_
 refine AL.bx good (d := 3) (l := [.int .i64 a1.kind, .int .i64 a1.i, .bool a1.b, .str a1.s, .sl .ro 5 (encs a1.t)]) rfl rfl rfl rfl rfl rfl 1 rfl ?_
 refine Av (.bool false) rfl ?_
 refine AW.seq ?_
 refine AW.seq (Rg ?_)
 obtain ⟨q1, h2, hr⟩ := bnd1 hr
 refine AL.cw good (d := 17) (xs := []) (res := .bool q1) rfl rfl rfl rfl rfl rfl rfl (w_f36 _ _ h2) trivial (by simp) ?_
 refine Av (.bool (!q1)) rfl ?_
 refine AW.if rfl (fun h3 => ?_) (fun h3 => ?_)
 ·replace hr := cnd_t h3 hr
  refine AW.seq (Rg ?_)
  refine Av (.bool false) rfl ?_
  refine AW.ret ?_
  obtain rfl := Option.some.inj hr
  exact RetQ.w good (.inr rfl) rfl rfl (Wv.refl _) (by simp)
 ·replace hr := cnd_f h3 hr
  refine AW.skip ?_
  refine AW.seq ?_
  refine AW.seq (Rg ?_)
  refine Av (.agg [.int .i64 a0.f0, .str a0.f1, .int .i64 a0.f2.kind, .sl .ro 2 (enys a0.f2.of), .sl .ro 8 (enxs a0.f3), .str a0.f4.op, .int .i64 a0.f4.v.kind, .int .i64 a0.f4.v.i, .bool a0.f4.v.b, .str a0.f4.v.s, .sl .ro 5 (encs a0.f4.v.t), .int .i64 a0.f4.n, .sl .ro 8 (enxs a0.f4.a), .int .i64 a0.f5, .int .i64 a0.f6]) rfl ?_
  obtain ⟨q4, h5, hr⟩ := bnd1 hr
  refine AL.cw good (d := 20) (xs := [.agg [.int .i64 a0.f0, .str a0.f1, .int .i64 a0.f2.kind, .sl .ro 2 (enys a0.f2.of), .sl .ro 8 (enxs a0.f3), .str a0.f4.op, .int .i64 a0.f4.v.kind, .int .i64 a0.f4.v.i, .bool a0.f4.v.b, .str a0.f4.v.s, .sl .ro 5 (encs a0.f4.v.t), .int .i64 a0.f4.n, .sl .ro 8 (enxs a0.f4.a), .int .i64 a0.f5, .int .i64 a0.f6]]) (res := .bool q4) rfl rfl rfl rfl rfl rfl rfl (w_f1001 _ _ _ h5) ⟨(Wv.refl _), trivial⟩ (by simp) ?_
  refine Av (.bool (!q4)) rfl ?_
  refine Av (.bool (!q4)) rfl ?_
  refine AL.cs 22 rfl (fun h6 => ?_) (fun h6 => ?_)
  ·replace hr := cnd_t h6 hr
   refine AL.sk good (d := 23) rfl rfl rfl ?_
   refine AL.sk good (d := 24) rfl rfl rfl ?_
   refine AL.sk good (d := 25) rfl rfl rfl ?_
   refine Av (.bool true) rfl ?_
   refine AW.if rfl (fun h => ?_) (fun h => by cases h)
   refine AW.seq (Rg ?_)
   refine Av (.bool true) rfl ?_
   refine AW.ret ?_
   obtain rfl := Option.some.inj hr
   exact RetQ.w good (.inr rfl) rfl rfl (Wv.refl _) (by simp)
  ·replace hr := cnd_f h6 hr
   refine Av (.agg [.int .i64 a1.kind, .int .i64 a1.i, .bool a1.b, .str a1.s, .sl .ro 5 (encs a1.t)]) rfl ?_
   obtain ⟨q7, h8, hr⟩ := bnd1 hr
   refine AL.cw good (d := 24) (xs := [.agg (valC a1)]) (res := .bool q7) rfl rfl rfl rfl rfl rfl rfl (w_f18 _ _ _ h8) ⟨(Wv.refl _), trivial⟩ (by simp) ?_
   refine Av (.bool (!q7)) rfl ?_
   refine Av (.bool (!q7)) rfl ?_
   refine AW.if rfl (fun h9 => ?_) (fun h9 => ?_)
   ·replace hr := cnd_t h9 hr
    refine AW.seq (Rg ?_)
    refine Av (.bool true) rfl ?_
    refine AW.ret ?_
    obtain rfl := Option.some.inj hr
    exact RetQ.w good (.inr rfl) rfl rfl (Wv.refl _) (by simp)
   ·replace hr := cnd_f h9 hr
    refine AW.skip ?_
    refine AW.seq (Rg ?_)
    refine Av (.agg [.int .i64 a0.f0, .str a0.f1, .int .i64 a0.f2.kind, .sl .ro 2 (enys a0.f2.of), .sl .ro 8 (enxs a0.f3), .str a0.f4.op, .int .i64 a0.f4.v.kind, .int .i64 a0.f4.v.i, .bool a0.f4.v.b, .str a0.f4.v.s, .sl .ro 5 (encs a0.f4.v.t), .int .i64 a0.f4.n, .sl .ro 8 (enxs a0.f4.a), .int .i64 a0.f5, .int .i64 a0.f6]) rfl ?_
    obtain ⟨q10, h11, hr⟩ := bnd1 hr
    refine AL.cw good (d := 28) (xs := [.agg [.int .i64 a0.f0, .str a0.f1, .int .i64 a0.f2.kind, .sl .ro 2 (enys a0.f2.of), .sl .ro 8 (enxs a0.f3), .str a0.f4.op, .int .i64 a0.f4.v.kind, .int .i64 a0.f4.v.i, .bool a0.f4.v.b, .str a0.f4.v.s, .sl .ro 5 (encs a0.f4.v.t), .int .i64 a0.f4.n, .sl .ro 8 (enxs a0.f4.a), .int .i64 a0.f5, .int .i64 a0.f6]]) (res := .agg [.int .i64 q10.f0, .str q10.f1, .int .i64 q10.f2.kind, .sl .ro 2 (enys q10.f2.of), .sl .ro 8 (enxs q10.f3), .str q10.f4.op, .int .i64 q10.f4.v.kind, .int .i64 q10.f4.v.i, .bool q10.f4.v.b, .str q10.f4.v.s, .sl .ro 5 (encs q10.f4.v.t), .int .i64 q10.f4.n, .sl .ro 8 (enxs q10.f4.a), .int .i64 q10.f5, .int .i64 q10.f6]) rfl rfl rfl rfl rfl rfl rfl (w_f76 _ _ _ h11) ⟨(Wv.refl _), trivial⟩ (by simp) ?_
    refine AL.alc good (d := 5) rfl rfl rfl rfl rfl 2 rfl ?_
    refine AL.st2 good (c2 := [.int .i64 q10.f0, .str q10.f1, .int .i64 q10.f2.kind, .sl .ro 2 (enys q10.f2.of), .sl .ro 8 (enxs q10.f3), .str q10.f4.op, .int .i64 q10.f4.v.kind, .int .i64 q10.f4.v.i, .bool q10.f4.v.b, .str q10.f4.v.s, .sl .ro 5 (encs q10.f4.v.t), .int .i64 q10.f4.n, .sl .ro 8 (enxs q10.f4.a), .int .i64 q10.f5, .int .i64 q10.f6]) rfl rfl rfl rfl rfl rfl rfl rfl rfl rfl rfl rfl ?_
    refine AW.seq (Rg ?_)
    refine Av (.agg [.int .i64 a1.kind, .int .i64 a1.i, .bool a1.b, .str a1.s, .sl .ro 5 (encs a1.t)]) rfl ?_
    obtain ⟨q12, h13, hr⟩ := bnd1 hr
    refine AL.cw good (d := 30) (xs := [.agg (valC a1)]) (res := .agg [.int .i64 q12.kind, .int .i64 q12.i, .bool q12.b, .str q12.s, .sl .ro 5 (encs q12.t)]) rfl rfl rfl rfl rfl rfl rfl (w_f22 _ _ _ h13) ⟨(Wv.refl _), trivial⟩ (by simp) ?_
    refine AL.alc good (d := 6) rfl rfl rfl rfl rfl 3 rfl ?_
    refine AL.st2 good (c2 := [.int .i64 q12.kind, .int .i64 q12.i, .bool q12.b, .str q12.s, .sl .ro 5 (encs q12.t)]) rfl rfl rfl rfl rfl rfl rfl rfl rfl rfl rfl rfl ?_
    refine AW.seq ?_
    refine AW.seq (Rg ?_)
    refine Av (.ptr 2 0) rfl ?_
    refine Av (.int .i64 q10.f0) rfl ?_
    refine Av (.bool (decide (q10.f0 < 2))) rfl ?_
    refine AL.vb good (d := 34) (b := (decide (q10.f0 < 2))) rfl rfl rfl rfl (fun g14 h15 => ?_)
    refine Gv ((!g14)) (.ptr 2 0) rfl (by cases g14 <;> exact ⟨rfl, fun h => by first | rfl | cases h⟩) ?_
    refine Gv ((!g14)) (.int .i64 q10.f0) rfl (by cases g14 <;> exact ⟨rfl, fun h => by first | rfl | cases h⟩) ?_
    refine Gv ((!g14)) (.bool (decide (q10.f0 > 7))) rfl (by cases g14 <;> exact ⟨rfl, fun h => by first | rfl | cases h⟩) ?_
    refine AL.v good (d := 38) (v := .bool (g14 || (decide (q10.f0 > 7)))) (rd := []) rfl rfl rfl (by cases g14 <;> rfl) ?_
    subst h15
    refine AW.if rfl (fun h16 => ?_) (fun h16 => ?_)
    ·replace hr := cnd_t h16 hr
     refine AW.seq (Rg ?_)
     refine Av (.bool true) rfl ?_
     refine AW.ret ?_
     obtain rfl := Option.some.inj hr
     exact RetQ.w good (.inr rfl) rfl rfl (Wv.refl _) (by simp)
    ·replace hr := cnd_f h16 hr
     refine AW.skip ?_
     refine AW.seq ?_
     refine AW.drawc (M := fun i => ⟨Nat.beq i 9, bif Nat.beq i 0 then some { ids := [2] } else bif Nat.beq i 1 then some { ids := [3] } else bif Nat.beq i 3 then some { ids := [4] } else bif Nat.beq i 8 then some { ids := [5] } else bif Nat.beq i 9 then some { ids := [5] } else none⟩) good.wide (by kernel_rfl) ?_
     refine AL.vc good (d := 40) (v := .agg [.int .i64 q10.f0, .str q10.f1, .int .i64 q10.f2.kind, .sl .ro 2 (enys q10.f2.of), .sl .ro 8 (enxs q10.f3), .str q10.f4.op, .int .i64 q10.f4.v.kind, .int .i64 q10.f4.v.i, .bool q10.f4.v.b, .str q10.f4.v.s, .sl .ro 5 (encs q10.f4.v.t), .int .i64 q10.f4.n, .sl .ro 8 (enxs q10.f4.a), .int .i64 q10.f5, .int .i64 q10.f6]) rfl rfl rfl rfl rfl rfl (fmc ⟨.head _, (fun _ h => by cases h)⟩) ?_
     refine AL.vc good (d := 41) (v := .agg [.int .i64 q12.kind, .int .i64 q12.i, .bool q12.b, .str q12.s, .sl .ro 5 (encs q12.t)]) rfl rfl rfl rfl rfl rfl (fmc ⟨.head _, (fun _ h => by cases h)⟩) ?_
     obtain ⟨q17, h18, hr⟩ := bnd1 hr
     refine AL.cw (nc := ⟨rfl⟩) good (d := 42) (xs := [.agg (valC q12)]) (res := .agg [.int .i64 q17.kind, .sl .ro 2 (enys q17.of)]) rfl rfl rfl rfl rfl rfl rfl (w_f21 _ _ _ h18) ⟨(Wv.refl _), trivial⟩ (by simp) ?_
     refine AL.litC good (d := 43) (rows := [[.int .i64 q17.kind, .sl .ro 2 (enys q17.of)]]) rfl rfl rfl rfl rfl rfl rfl rfl rfl 4 rfl (ColN.mk rfl rfl (fun _ h => by cases h) (fmc ⟨.head _, (fun _ h => by cases h)⟩) (fun _ h => by cases h)) ?_
     obtain ⟨q19, h20, hr⟩ := bnd1 hr
     refine AL.cw (nc := ⟨rfl⟩) good (d := 44) (xs := [.agg [.int .i64 q10.f0, .str q10.f1, .int .i64 q10.f2.kind, .sl .ro 2 (enys q10.f2.of), .sl .ro 8 (enxs q10.f3), .str q10.f4.op, .int .i64 q10.f4.v.kind, .int .i64 q10.f4.v.i, .bool q10.f4.v.b, .str q10.f4.v.s, .sl .ro 5 (encs q10.f4.v.t), .int .i64 q10.f4.n, .sl .ro 8 (enxs q10.f4.a), .int .i64 q10.f5, .int .i64 q10.f6], .sl .ro 2 (enys [q17])]) (res := .tup [.agg [.int .i64 q19.1.kind, .sl .ro 2 (enys q19.1.of)], .int .i64 q19.2]) rfl rfl rfl rfl rfl rfl rfl (w_f1002 _ _ _ _ h20) ⟨(Wv.refl _), ⟨.inr rfl, (WvR_enys ⟨⟨Wv.refl _, Wv.refl _, trivial⟩, trivial⟩), .inl rfl⟩, trivial⟩ (by simp) ?_
     refine Av (nc := ⟨rfl⟩) (.tup [.agg [.int .i64 q19.1.kind, .sl .ro 2 (enys q19.1.of)], .int .i64 q19.2]) rfl ?_
     refine Av (nc := ⟨rfl⟩) (.agg [.int .i64 q19.1.kind, .sl .ro 2 (enys q19.1.of)]) rfl ?_
     refine Av (nc := ⟨rfl⟩) (.int .i64 q19.2) rfl ?_
     refine AL.alcC good (d := 7) rfl rfl rfl rfl rfl 5 rfl (ColN.mk rfl rfl (fun _ h => by cases h) (fmc ⟨.head _, (fun _ h => by cases h)⟩) (fun _ h => by cases h)) ?_
     refine AL.st2c good (c2 := [.int .i64 q19.1.kind, .sl .ro 2 (enys q19.1.of)]) rfl rfl rfl rfl rfl rfl rfl rfl rfl rfl rfl rfl rfl ?_
     refine Av (nc := ⟨rfl⟩) (.int .i64 q19.2) rfl ?_
     refine AW.seq ?_
     refine AW.seq (Rg ?_)
     refine Av (.int .i64 q19.2) rfl ?_
     refine Av (.bool (q19.2 != 0)) rfl ?_
     refine AW.if rfl (fun h21 => ?_) (fun h21 => ?_)
     ·replace hr := cnd_t h21 hr
      refine AW.seq (Rg ?_)
      refine Av (.bool true) rfl ?_
      refine AW.ret ?_
      obtain rfl := Option.some.inj hr
      exact RetQ.w good (.inr rfl) rfl rfl (Wv.refl _) (by simp)
     ·replace hr := cnd_f h21 hr
      refine AW.skip ?_
      refine AW.seq ?_
      refine AW.seq (Rg ?_)
      refine Av (.agg [.int .i64 q10.f0, .str q10.f1, .int .i64 q10.f2.kind, .sl .ro 2 (enys q10.f2.of), .sl .ro 8 (enxs q10.f3), .str q10.f4.op, .int .i64 q10.f4.v.kind, .int .i64 q10.f4.v.i, .bool q10.f4.v.b, .str q10.f4.v.s, .sl .ro 5 (encs q10.f4.v.t), .int .i64 q10.f4.n, .sl .ro 8 (enxs q10.f4.a), .int .i64 q10.f5, .int .i64 q10.f6]) rfl ?_
      refine AL.cw good (d := 50) (xs := [.agg [.int .i64 q10.f0, .str q10.f1, .int .i64 q10.f2.kind, .sl .ro 2 (enys q10.f2.of), .sl .ro 8 (enxs q10.f3), .str q10.f4.op, .int .i64 q10.f4.v.kind, .int .i64 q10.f4.v.i, .bool q10.f4.v.b, .str q10.f4.v.s, .sl .ro 5 (encs q10.f4.v.t), .int .i64 q10.f4.n, .sl .ro 8 (enxs q10.f4.a), .int .i64 q10.f5, .int .i64 q10.f6]]) (res := .bool (((q10.f0 == 5) || (q10.f0 == 6)) || (q10.f0 == 7))) rfl rfl rfl rfl rfl rfl rfl (w_f1003 q10) ⟨(Wv.refl _), trivial⟩ (by simp) ?_
      refine AW.if rfl (fun h22 => ?_) (fun h22 => ?_)
      ·replace hr := cnd_t h22 hr
       refine AW.seq ?_
       refine AW.drawc (M := fun i => ⟨Nat.beq i 1 || Nat.beq i 2, bif Nat.beq i 0 then some { ids := [2] } else bif Nat.beq i 1 then some { ids := [6] } else bif Nat.beq i 2 then some { ids := [7] } else bif Nat.beq i 3 then some { ids := [1] } else none⟩) good.wide (by kernel_rfl) ?_
       refine AL.vc good (d := 52) (v := .agg [.int .i64 q10.f0, .str q10.f1, .int .i64 q10.f2.kind, .sl .ro 2 (enys q10.f2.of), .sl .ro 8 (enxs q10.f3), .str q10.f4.op, .int .i64 q10.f4.v.kind, .int .i64 q10.f4.v.i, .bool q10.f4.v.b, .str q10.f4.v.s, .sl .ro 5 (encs q10.f4.v.t), .int .i64 q10.f4.n, .sl .ro 8 (enxs q10.f4.a), .int .i64 q10.f5, .int .i64 q10.f6]) rfl rfl rfl rfl rfl rfl (fmc ⟨.head _, (fun _ h => by cases h)⟩) ?_
       obtain ⟨q23, h24, hr⟩ := bnd1 hr
       refine AL.clF good (d := 53) (xs := [.agg [.int .i64 q10.f0, .str q10.f1, .int .i64 q10.f2.kind, .sl .ro 2 (enys q10.f2.of), .sl .ro 8 (enxs q10.f3), .str q10.f4.op, .int .i64 q10.f4.v.kind, .int .i64 q10.f4.v.i, .bool q10.f4.v.b, .str q10.f4.v.s, .sl .ro 5 (encs q10.f4.v.t), .int .i64 q10.f4.n, .sl .ro 8 (enxs q10.f4.a), .int .i64 q10.f5, .int .i64 q10.f6]]) (ob := .row 94 7 (r_st_GInst q23).length) (res := .sl (.own 6) 7 (r_st_GInst q23)) rfl rfl rfl rfl rfl rfl rfl 6 rfl (w_f1004 _ _ _ h24 6) ⟨(Wv.refl _), trivial⟩ rfl (ColN.mk rfl rfl (fun _ h => by cases h) (fmc ⟨.head _, (fun _ h => by cases h)⟩) (fun _ h => by cases h)) ?_
       obtain ⟨q25, h26, hr⟩ := bnd1 hr
       refine AL.clF good (d := 54) (xs := [.sl .ro 7 (r_st_GInst q23)]) (ob := .row 69 7 (r_st_GInst q25).length) (res := .sl (.own 7) 7 (r_st_GInst q25)) rfl rfl rfl rfl rfl rfl rfl 7 rfl (w_f51 _ _ _ h26 7) ⟨⟨.inr rfl, WvR.refl _, .inl rfl⟩, trivial⟩ rfl (ColN.mk rfl rfl (fun _ h => by cases h) (fmc ⟨.head _, (fun _ h => by cases h)⟩) (fun _ h => by cases h)) ?_
       refine AL.vc good (d := 55) (v := .agg [.int .i64 a1.kind, .int .i64 a1.i, .bool a1.b, .str a1.s, .sl .ro 5 (encs a1.t)]) rfl rfl rfl rfl rfl rfl (fmc ⟨.head _, (fun _ h => by cases h)⟩) ?_
       obtain ⟨q27, h28, hr⟩ := bnd1 hr
       refine AL.cw (nc := ⟨rfl⟩) good (d := 56) (xs := [.sl .ro 7 (r_st_GInst q25), .agg (valC a1)]) (res := .tup [.sl .ro 5 (encs q27.1), .int .i64 q27.2]) rfl rfl rfl rfl rfl rfl rfl (w_f40 _ _ _ _ h28) ⟨⟨.inr rfl, WvR.refl _, .inl rfl⟩, (Wv.refl _), trivial⟩ (by simp) ?_
       refine Av (nc := ⟨rfl⟩) (.tup [.sl .ro 5 (encs q27.1), .int .i64 q27.2]) rfl ?_
       refine Av (nc := ⟨rfl⟩) (.sl .ro 5 (encs q27.1)) rfl ?_
       refine Av (nc := ⟨rfl⟩) (.int .i64 q27.2) rfl ?_
       refine Av (nc := ⟨rfl⟩) (.sl .ro 5 (encs q27.1)) rfl ?_
       refine Av (nc := ⟨rfl⟩) (.int .i64 q27.2) rfl ?_
       refine AW.seq (Rg ?_)
       refine Av (.ptr 2 5) rfl ?_
       refine Av (.agg [.str q10.f4.op, .int .i64 q10.f4.v.kind, .int .i64 q10.f4.v.i, .bool q10.f4.v.b, .str q10.f4.v.s, .sl .ro 5 (encs q10.f4.v.t), .int .i64 q10.f4.n, .sl .ro 8 (enxs q10.f4.a)]) rfl ?_
       refine Av (.agg [.int .i64 q12.kind, .int .i64 q12.i, .bool q12.b, .str q12.s, .sl .ro 5 (encs q12.t)]) rfl ?_
       obtain ⟨q29, h30, hr⟩ := bnd1 hr
       refine AL.cw good (d := 63) (xs := [.agg (exC q10.f4), .agg (valC q12)]) (res := .tup [.agg [.int .i64 q29.1.kind, .int .i64 q29.1.i, .bool q29.1.b, .str q29.1.s, .sl .ro 5 (encs q29.1.t)], .int .i64 q29.2]) rfl rfl rfl rfl rfl rfl rfl (w_f24 _ _ _ _ h30) ⟨(Wv.refl _), (Wv.refl _), trivial⟩ (by simp) ?_
       refine Av (.tup [.agg [.int .i64 q29.1.kind, .int .i64 q29.1.i, .bool q29.1.b, .str q29.1.s, .sl .ro 5 (encs q29.1.t)], .int .i64 q29.2]) rfl ?_
       refine Av (.agg [.int .i64 q29.1.kind, .int .i64 q29.1.i, .bool q29.1.b, .str q29.1.s, .sl .ro 5 (encs q29.1.t)]) rfl ?_
       refine Av (.int .i64 q29.2) rfl ?_
       refine AL.alc good (d := 11) rfl rfl rfl rfl rfl 8 rfl ?_
       refine AL.st2 good (c2 := [.int .i64 q29.1.kind, .int .i64 q29.1.i, .bool q29.1.b, .str q29.1.s, .sl .ro 5 (encs q29.1.t)]) rfl rfl rfl rfl rfl rfl rfl rfl rfl rfl rfl rfl ?_
       refine Av (.int .i64 q29.2) rfl ?_
       refine AW.seq ?_
       refine AW.draw (M := fun i => false) good.wide (by kernel_rfl) ?_
       refine Av (.int .i64 q27.2) rfl ?_
       refine Av (.int .i64 q29.2) rfl ?_
       refine Av (.bool (q27.2 == q29.2)) rfl ?_
       refine Av (.bool (q27.2 == q29.2)) rfl ?_
       refine AL.cs 69 rfl (fun h31 => ?_) (fun h31 => ?_)
       ·replace hr := cnd_t h31 hr
        refine Av (.int .i64 q29.2) rfl ?_
        refine Av (.bool (q29.2 != 0)) rfl ?_
        refine Av (.bool (q29.2 != 0)) rfl ?_
        refine AL.cs 72 rfl (fun h32 => ?_) (fun h32 => ?_)
        ·replace hr := cnd_t h32 hr
         refine Av (.sl .ro 5 (encs q27.1)) rfl ?_
         refine AL.ln good (d := 74) (m := q27.1.length) rfl rfl rfl rfl rfl rfl (encs_length _) ?_
         refine Av (.bool ((q27.1.length : Int) == 0)) rfl ?_
         refine Av (.bool ((q27.1.length : Int) == 0)) rfl ?_
         refine Av (.bool ((q27.1.length : Int) == 0)) rfl ?_
         refine AL.cs 77 rfl (fun h33 => ?_) (fun h33 => ?_)
         ·replace hr := cnd_t h33 hr
          refine AL.sk good (d := 78) rfl rfl rfl ?_
          refine AL.sk good (d := 79) rfl rfl rfl ?_
          refine AL.sk good (d := 80) rfl rfl rfl ?_
          refine AL.sk good (d := 81) rfl rfl rfl ?_
          refine AL.sk good (d := 82) rfl rfl rfl ?_
          refine AL.sk good (d := 83) rfl rfl rfl ?_
          refine AL.sk good (d := 84) rfl rfl rfl ?_
          refine AL.sk good (d := 85) rfl rfl rfl ?_
          refine AL.sk good (d := 86) rfl rfl rfl ?_
          refine AL.sk good (d := 87) rfl rfl rfl ?_
          refine AL.sk good (d := 88) rfl rfl rfl ?_
          refine AL.sk good (d := 89) rfl rfl rfl ?_
          refine AL.sk good (d := 90) rfl rfl rfl ?_
          refine AL.sk good (d := 91) rfl rfl rfl ?_
          refine AL.sk good (d := 92) rfl rfl rfl ?_
          refine Av (.bool true) rfl ?_
          refine Av (.bool true) rfl ?_
          refine Av (.bool true) rfl ?_
          refine AW.ret ?_
          obtain rfl := Option.some.inj hr
          exact RetQ.w good (.inr rfl) rfl rfl (Wv.refl _) (by simp)
         ·replace hr := cnd_f h33 hr
          refine Av (.int .i64 q29.2) rfl ?_
          refine Av (.bool (q29.2 == 0)) rfl ?_
          refine Av (.bool (q29.2 == 0)) rfl ?_
          refine AL.cs 80 rfl (fun h => by cases (bneT h32).symm.trans h) (fun h => ?_)
          refine AL.sk good (d := 81) rfl rfl rfl ?_
          refine AL.sk good (d := 82) rfl rfl rfl ?_
          refine AL.sk good (d := 83) rfl rfl rfl ?_
          refine Av (.bool false) rfl ?_
          refine Av (.bool false) rfl ?_
          refine AL.sk good (d := 86) rfl rfl rfl ?_
          refine AL.sk good (d := 87) rfl rfl rfl ?_
          refine AL.sk good (d := 88) rfl rfl rfl ?_
          refine AL.sk good (d := 89) rfl rfl rfl ?_
          refine AL.sk good (d := 90) rfl rfl rfl ?_
          refine AL.sk good (d := 91) rfl rfl rfl ?_
          refine Av (.bool false) rfl ?_
          refine Av (.bool false) rfl ?_
          refine Av (.bool false) rfl ?_
          refine Av (.bool false) rfl ?_
          refine AW.ret ?_
          obtain rfl := Option.some.inj hr
          exact RetQ.w good (.inr rfl) rfl rfl (Wv.refl _) (by simp)
        ·replace hr := cnd_f h32 hr
         refine AL.sk good (d := 73) rfl rfl rfl ?_
         refine AL.sk good (d := 74) rfl rfl rfl ?_
         refine AL.sk good (d := 75) rfl rfl rfl ?_
         refine Av (.bool false) rfl ?_
         refine Av (.bool false) rfl ?_
         refine Av (.int .i64 q29.2) rfl ?_
         refine Av (.bool (q29.2 == 0)) rfl ?_
         refine Av (.bool (q29.2 == 0)) rfl ?_
         refine AL.cs 80 rfl (fun h => ?_) (fun h => by cases (bneF h32).symm.trans h)
         refine Av (.sl .ro 5 (encs q27.1)) rfl ?_
         refine AL.ln good (d := 82) (m := q27.1.length) rfl rfl rfl rfl rfl rfl (encs_length _) ?_
         refine Av (.bool ((q27.1.length : Int) == 1)) rfl ?_
         refine Av (.bool ((q27.1.length : Int) == 1)) rfl ?_
         refine Av (.bool ((q27.1.length : Int) == 1)) rfl ?_
         refine AL.cs 85 rfl (fun h34 => ?_) (fun h34 => ?_)
         ·replace hr := cnd_t h34 hr
          refine Av (.sl .ro 5 (encs q27.1)) rfl ?_
          obtain ⟨x35, h36, hr⟩ := bnd1 hr
          refine AL.ix good (d := 87) (r := [.int .i64 x35.kind, .int .i64 x35.i, .bool x35.b, .str x35.s, .sl .ro 5 (encs x35.t)]) rfl rfl rfl rfl rfl rfl rfl (by decide) (encs_get h36) ?_
          refine Av (.agg [.int .i64 x35.kind, .int .i64 x35.i, .bool x35.b, .str x35.s, .sl .ro 5 (encs x35.t)]) rfl ?_
          obtain ⟨q37, h38, hr⟩ := bnd1 hr
          refine AL.cw good (d := 89) (xs := [.agg (valC x35)]) (res := .agg [.int .i64 q37.kind, .int .i64 q37.i, .bool q37.b, .str q37.s, .sl .ro 5 (encs q37.t)]) rfl rfl rfl rfl rfl rfl rfl (w_f22 _ _ _ h38) ⟨(Wv.refl _), trivial⟩ (by simp) ?_
          refine Av (.agg [.int .i64 q29.1.kind, .int .i64 q29.1.i, .bool q29.1.b, .str q29.1.s, .sl .ro 5 (encs q29.1.t)]) rfl ?_
          obtain ⟨q39, h40, hr⟩ := bnd1 hr
          refine AL.cw good (d := 91) (xs := [.agg (valC q37), .agg (valC q29.1)]) (res := .bool q39) rfl rfl rfl rfl rfl rfl rfl (w_f25 _ _ _ _ h40) ⟨(Wv.refl _), (Wv.refl _), trivial⟩ (by simp) ?_
          refine Av (.bool q39) rfl ?_
          refine Av (.bool q39) rfl ?_
          refine Av (.bool q39) rfl ?_
          refine Av (.bool q39) rfl ?_
          refine AW.ret ?_
          obtain rfl := Option.some.inj hr
          exact RetQ.w good (.inr rfl) rfl rfl (Wv.refl _) (by simp)
         ·replace hr := cnd_f h34 hr
          refine AL.sk good (d := 86) rfl rfl rfl ?_
          refine AL.sk good (d := 87) rfl rfl rfl ?_
          refine AL.sk good (d := 88) rfl rfl rfl ?_
          refine AL.sk good (d := 89) rfl rfl rfl ?_
          refine AL.sk good (d := 90) rfl rfl rfl ?_
          refine AL.sk good (d := 91) rfl rfl rfl ?_
          refine Av (.bool false) rfl ?_
          refine Av (.bool false) rfl ?_
          refine Av (.bool false) rfl ?_
          refine Av (.bool false) rfl ?_
          refine AW.ret ?_
          obtain rfl := Option.some.inj hr
          exact RetQ.w good (.inr rfl) rfl rfl (Wv.refl _) (by simp)
       ·replace hr := cnd_f h31 hr
        refine AL.sk good (d := 70) rfl rfl rfl ?_
        refine AL.sk good (d := 71) rfl rfl rfl ?_
        refine AL.sk good (d := 72) rfl rfl rfl ?_
        refine AL.sk good (d := 73) rfl rfl rfl ?_
        refine AL.sk good (d := 74) rfl rfl rfl ?_
        refine AL.sk good (d := 75) rfl rfl rfl ?_
        refine AL.sk good (d := 76) rfl rfl rfl ?_
        refine AL.sk good (d := 77) rfl rfl rfl ?_
        refine AL.sk good (d := 78) rfl rfl rfl ?_
        refine AL.sk good (d := 79) rfl rfl rfl ?_
        refine AL.sk good (d := 80) rfl rfl rfl ?_
        refine AL.sk good (d := 81) rfl rfl rfl ?_
        refine AL.sk good (d := 82) rfl rfl rfl ?_
        refine AL.sk good (d := 83) rfl rfl rfl ?_
        refine AL.sk good (d := 84) rfl rfl rfl ?_
        refine AL.sk good (d := 85) rfl rfl rfl ?_
        refine AL.sk good (d := 86) rfl rfl rfl ?_
        refine AL.sk good (d := 87) rfl rfl rfl ?_
        refine AL.sk good (d := 88) rfl rfl rfl ?_
        refine AL.sk good (d := 89) rfl rfl rfl ?_
        refine AL.sk good (d := 90) rfl rfl rfl ?_
        refine AL.sk good (d := 91) rfl rfl rfl ?_
        refine AL.sk good (d := 92) rfl rfl rfl ?_
        refine AL.sk good (d := 93) rfl rfl rfl ?_
        refine Av (.bool false) rfl ?_
        refine Av (.bool false) rfl ?_
        refine AW.ret ?_
        obtain rfl := Option.some.inj hr
        exact RetQ.w good (.inr rfl) rfl rfl (Wv.refl _) (by simp)
      ·replace hr := cnd_f h22 hr
       refine AW.skip ?_
       refine AW.seq ?_
       refine AW.drawc (M := fun i => ⟨Nat.beq i 1 || Nat.beq i 2, bif Nat.beq i 0 then some { ids := [2] } else bif Nat.beq i 1 then some { ids := [6] } else bif Nat.beq i 2 then some { ids := [7] } else bif Nat.beq i 3 then some { ids := [1] } else none⟩) good.wide (by kernel_rfl) ?_
       refine AL.vc good (d := 96) (v := .agg [.int .i64 q10.f0, .str q10.f1, .int .i64 q10.f2.kind, .sl .ro 2 (enys q10.f2.of), .sl .ro 8 (enxs q10.f3), .str q10.f4.op, .int .i64 q10.f4.v.kind, .int .i64 q10.f4.v.i, .bool q10.f4.v.b, .str q10.f4.v.s, .sl .ro 5 (encs q10.f4.v.t), .int .i64 q10.f4.n, .sl .ro 8 (enxs q10.f4.a), .int .i64 q10.f5, .int .i64 q10.f6]) rfl rfl rfl rfl rfl rfl (fmc ⟨.head _, (fun _ h => by cases h)⟩) ?_
       obtain ⟨q41, h42, hr⟩ := bnd1 hr
       refine AL.clF good (d := 97) (xs := [.agg [.int .i64 q10.f0, .str q10.f1, .int .i64 q10.f2.kind, .sl .ro 2 (enys q10.f2.of), .sl .ro 8 (enxs q10.f3), .str q10.f4.op, .int .i64 q10.f4.v.kind, .int .i64 q10.f4.v.i, .bool q10.f4.v.b, .str q10.f4.v.s, .sl .ro 5 (encs q10.f4.v.t), .int .i64 q10.f4.n, .sl .ro 8 (enxs q10.f4.a), .int .i64 q10.f5, .int .i64 q10.f6]]) (ob := .row 94 7 (r_st_GInst q41).length) (res := .sl (.own 6) 7 (r_st_GInst q41)) rfl rfl rfl rfl rfl rfl rfl 6 rfl (w_f75 _ _ _ h42 6) ⟨(Wv.refl _), trivial⟩ rfl (ColN.mk rfl rfl (fun _ h => by cases h) (fmc ⟨.head _, (fun _ h => by cases h)⟩) (fun _ h => by cases h)) ?_
       obtain ⟨q43, h44, hr⟩ := bnd1 hr
       refine AL.clF good (d := 98) (xs := [.sl .ro 7 (r_st_GInst q41)]) (ob := .row 69 7 (r_st_GInst q43).length) (res := .sl (.own 7) 7 (r_st_GInst q43)) rfl rfl rfl rfl rfl rfl rfl 7 rfl (w_f51 _ _ _ h44 7) ⟨⟨.inr rfl, WvR.refl _, .inl rfl⟩, trivial⟩ rfl (ColN.mk rfl rfl (fun _ h => by cases h) (fmc ⟨.head _, (fun _ h => by cases h)⟩) (fun _ h => by cases h)) ?_
       refine AL.vc good (d := 99) (v := .agg [.int .i64 a1.kind, .int .i64 a1.i, .bool a1.b, .str a1.s, .sl .ro 5 (encs a1.t)]) rfl rfl rfl rfl rfl rfl (fmc ⟨.head _, (fun _ h => by cases h)⟩) ?_
       obtain ⟨q45, h46, hr⟩ := bnd1 hr
       refine AL.cw (nc := ⟨rfl⟩) good (d := 100) (xs := [.sl .ro 7 (r_st_GInst q43), .agg (valC a1)]) (res := .tup [.sl .ro 5 (encs q45.1), .int .i64 q45.2]) rfl rfl rfl rfl rfl rfl rfl (w_f40 _ _ _ _ h46) ⟨⟨.inr rfl, WvR.refl _, .inl rfl⟩, (Wv.refl _), trivial⟩ (by simp) ?_
       refine Av (nc := ⟨rfl⟩) (.tup [.sl .ro 5 (encs q45.1), .int .i64 q45.2]) rfl ?_
       refine Av (nc := ⟨rfl⟩) (.sl .ro 5 (encs q45.1)) rfl ?_
       refine Av (nc := ⟨rfl⟩) (.int .i64 q45.2) rfl ?_
       refine Av (nc := ⟨rfl⟩) (.sl .ro 5 (encs q45.1)) rfl ?_
       refine Av (nc := ⟨rfl⟩) (.int .i64 q45.2) rfl ?_
       refine AW.seq (Rg ?_)
       refine Av (.agg [.int .i64 q10.f0, .str q10.f1, .int .i64 q10.f2.kind, .sl .ro 2 (enys q10.f2.of), .sl .ro 8 (enxs q10.f3), .str q10.f4.op, .int .i64 q10.f4.v.kind, .int .i64 q10.f4.v.i, .bool q10.f4.v.b, .str q10.f4.v.s, .sl .ro 5 (encs q10.f4.v.t), .int .i64 q10.f4.n, .sl .ro 8 (enxs q10.f4.a), .int .i64 q10.f5, .int .i64 q10.f6]) rfl ?_
       refine Av (.agg [.int .i64 q12.kind, .int .i64 q12.i, .bool q12.b, .str q12.s, .sl .ro 5 (encs q12.t)]) rfl ?_
       obtain ⟨q47, h48, hr⟩ := bnd1 hr
       refine AL.cw good (d := 106) (xs := [.agg [.int .i64 q10.f0, .str q10.f1, .int .i64 q10.f2.kind, .sl .ro 2 (enys q10.f2.of), .sl .ro 8 (enxs q10.f3), .str q10.f4.op, .int .i64 q10.f4.v.kind, .int .i64 q10.f4.v.i, .bool q10.f4.v.b, .str q10.f4.v.s, .sl .ro 5 (encs q10.f4.v.t), .int .i64 q10.f4.n, .sl .ro 8 (enxs q10.f4.a), .int .i64 q10.f5, .int .i64 q10.f6], .agg (valC q12)]) (res := .tup [.sl .ro 5 (encs q47.1), .int .i64 q47.2]) rfl rfl rfl rfl rfl rfl rfl (w_f1005 _ _ _ _ h48) ⟨(Wv.refl _), (Wv.refl _), trivial⟩ (by simp) ?_
       refine Av (.tup [.sl .ro 5 (encs q47.1), .int .i64 q47.2]) rfl ?_
       refine Av (.sl .ro 5 (encs q47.1)) rfl ?_
       refine Av (.int .i64 q47.2) rfl ?_
       refine Av (.sl .ro 5 (encs q47.1)) rfl ?_
       refine Av (.int .i64 q47.2) rfl ?_
       refine AW.seq (Rg ?_)
       refine Av (.int .i64 q45.2) rfl ?_
       refine Av (.int .i64 q47.2) rfl ?_
       refine Av (.bool (q45.2 == q47.2)) rfl ?_
       refine Av (.bool (q45.2 == q47.2)) rfl ?_
       refine AL.cs 112 rfl (fun h49 => ?_) (fun h49 => ?_)
       ·replace hr := cnd_t h49 hr
        refine Av (.sl .ro 5 (encs q45.1)) rfl ?_
        refine Av (.sl .ro 5 (encs q47.1)) rfl ?_
        obtain ⟨q50, h51, hr⟩ := bnd1 hr
        refine AL.cw good (d := 115) (xs := [.sl .ro 5 (encs q45.1), .sl .ro 5 (encs q47.1)]) (res := .bool q50) rfl rfl rfl rfl rfl rfl rfl (w_f42 _ _ _ _ h51) ⟨(Wv.refl _), (Wv.refl _), trivial⟩ (by simp) ?_
        refine Av (.bool q50) rfl ?_
        refine Av (.bool q50) rfl ?_
        refine AW.ret ?_
        obtain rfl := Option.some.inj hr
        exact RetQ.w good (.inr rfl) rfl rfl (Wv.refl _) (by simp)
       ·replace hr := cnd_f h49 hr
        refine AL.sk good (d := 113) rfl rfl rfl ?_
        refine AL.sk good (d := 114) rfl rfl rfl ?_
        refine AL.sk good (d := 115) rfl rfl rfl ?_
        refine Av (.bool false) rfl ?_
        refine Av (.bool false) rfl ?_
        refine AW.ret ?_
        obtain rfl := Option.some.inj hr
        exact RetQ.w good (.inr rfl) rfl rfl (Wv.refl _) (by simp)

end
end Go.Proofs.YtbcjcekoonebiaaGreat.Tl

set_option linter.unusedVariables false
namespace Go.Proofs.YtbcjcekoonebiaaGreat.Tl
open Go Go.RowKit
def Ev {α : Type} (f : Nat → Option α) (a : α) : Prop := ∃ N, ∀ n, N ≤ n → f n = some a
theorem Ev.mk {α : Type} (a : α) : Ev (fun _ => some a) a := ⟨0, fun _ _ => rfl⟩
theorem Ev.succ {α : Type} {f : Nat → Option α} {a : α} (h : Ev (fun n => f (n + 1)) a) : Ev f a :=
  let ⟨N, h⟩ := h
  ⟨N + 1, fun n hn => by
    cases n with
    | zero => omega
    | succ n => exact h n (by omega)⟩
theorem Ev.bind {α β : Type} {f : Nat → Option α} {g : Nat → α → Option β} {a : α} {b : β} (h : Ev f a) (k : Ev (fun n => g n a) b) : Ev (fun n => (f n).bind (g n)) b :=
  let ⟨N, h⟩ := h
  let ⟨M, k⟩ := k
  ⟨max N M, fun n hn => by
    show (f n).bind (g n) = some b
    rw [h n (by omega), Option.bind_some]
    exact k n (by omega)⟩
theorem Ev.bindc {α β : Type} {x : Option α} {g : Nat → α → Option β} {a : α} {b : β} (h : x = some a) (k : Ev (fun n => g n a) b) : Ev (fun n => x.bind (g n)) b := by
  subst h
  exact k
theorem Ev.t {α : Type} {c : Bool} {f g : Nat → Option α} {a : α} (h : c = true) (k : Ev f a) : Ev (fun n => bif c then f n else g n) a := by subst h; exact k
theorem Ev.f {α : Type} {c : Bool} {f g : Nat → Option α} {a : α} (h : c = false) (k : Ev g a) : Ev (fun n => bif c then f n else g n) a := by subst h; exact k
theorem Ev.g {α : Type} {p : Prop} [Decidable p] {f : Nat → Option α} {a : α} (h : p) (k : Ev f a) : Ev (fun n => if p then f n else none) a := by simp only [h, if_true]; exact k
theorem Ev.get {α : Type} {f : Nat → Option α} {a : α} (h : Ev f a) : ∃ n, f n = some a := let ⟨N, h⟩ := h; ⟨N, h N (Nat.le_refl N)⟩
theorem Ev.if {α : Type} {c : Bool} {f g : Nat → Option α} {a b : α} (h : c = true → Ev f a) (k : c = false → Ev g b) : Ev (fun n => bif c then f n else g n) (bif c then a else b) := by
  cases c
  · exact k rfl
  · exact h rfl
theorem Ev.ifa {α : Type} {p c : Bool} {f g : Nat → Option α} {a b : α} (hp : p = true) (h : c = true → Ev f a) (k : c = false → Ev g b) : Ev (fun n => bif p && c then f n else g n) (bif c then a else b) := by
  subst hp
  exact Ev.if h k
theorem and_f {a b : Bool} (h : a = false) : (a && b) = false := by subst h; rfl
theorem or_f {a b : Bool} (h : (a || b) = false) : a = false ∧ b = false := by cases a <;> cases b <;> simp_all
theorem Ev.congr {α : Type} {f : Nat → Option α} {a b : α} (h : Ev f a) (e : a = b) : Ev f b := e ▸ h
theorem Ev.ret {α β : Type} {f : Nat → Option α} {g : α → β} {a : α} (h : Ev f a) : Ev (fun n => (f n).bind fun q => some (g q)) (g a) := Ev.bind h (Ev.mk _)
end Go.Proofs.YtbcjcekoonebiaaGreat.Tl
