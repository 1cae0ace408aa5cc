/- Definitions and walks: the types of expressions. Conditions: none. -/
import Derived.Test.YtbcjcekoonebiaaTlXy
set_option linter.unusedVariables false
set_option linter.unusedSimpArgs false
namespace Go.Proofs.Ytbcjcekoonebiaa.Tl
open Go Go.RowKit



mutual
def s_f58 : Nat → Ex → Ty → Int → Option (Ty × Int)
  | 0, _, _, _ => none
  | n + 1, a0, a1, a2 => ((s_f92 n a0.op).bind fun q1 => (bif (q1 == (-2)) then some ((Ty.mk 0 []), 6) else (bif (decide (a2 > 12)) then some ((Ty.mk 0 []), 9) else (bif (((decide (q1 ≥ 0)) && ((a0.a.length : Int) != q1)) || ((decide (q1 < 0)) && ((decide ((a0.a.length : Int) < 1)) || (decide ((a0.a.length : Int) > 8))))) then some ((Ty.mk 0 []), 1) else (bif (((a0.op.data.toList != [97, 116]) && (a0.n != 0)) || ((a0.op.data.toList != [108, 105, 116]) && (!(((((a0.v.kind == 0) && (a0.v.i == 0)) && (!a0.v.b)) && (a0.v.s.data.toList == [])) && ((a0.v.t.length : Int) == 0))))) then some ((Ty.mk 0 []), 1) else (bif (a0.op.data.toList == [108, 105, 116]) then ((s_f34 n a0.v).bind fun q22 => (bif (q22 != 0) then some ((Ty.mk 0 []), q22) else ((s_f21 n a0.v).bind fun q25 => some (q25, 0)))) else (bif (a0.op.data.toList == [120]) then some (a1, 0) else (s_f58_l1 n a0 a1 a2 [] 0))))))))
def s_f58_l1 : Nat → Ex → Ty → Int → (List Ty) → Nat → Option (Ty × Int)
  | 0, _, _, _, _, _ => none
  | n + 1, a0, a1, a2, v1_1, v1_2 => (bif (decide ((v1_2 : Int) < (a0.a.length : Int))) then ((a0.a[v1_2]?).bind fun x38 => ((s_f58 n x38 a1 (IntKind.i64.wrap (a2 + 1))).bind fun q40 => (bif (q40.2 != 0) then some ((Ty.mk 0 []), q40.2) else (if v1_1.length + 1 ≤ 1000000 then (s_f58_l1 n a0 a1 a2 (v1_1 ++ [q40.1]) (v1_2 + 1)) else none)))) else ((s_f94 n a0.op a0.n v1_1).bind fun q44 => some (q44.1, q44.2)))
end

theorem w_f58_a (n : Nat) (ih : ∀ (m : Nat) (a0 : Ex) (a1 : Ty) (a2 : Int) (r : Ty × Int), s_f58 m a0 a1 a2 = some r → m < n → ACall Try.prog 58 [.agg (exC a0), .agg (tyC a1), .int .i64 a2] (.tup [.agg (tyC r.1), .int .i64 r.2])) (a0 : Ex) (a1 : Ty) (a2 : Int) (r : Ty × Int) (hr : s_f58 n a0 a1 a2 = some r) : ACall Try.prog 58 [.agg (exC a0), .agg (tyC a1), .int .i64 a2] (.tup [.agg (tyC r.1), .int .i64 r.2]) := by
  refine ACall.go [(0, .agg (exC a0)), (1, .agg (tyC a1)), (2, .int .i64 a2)] Try.func58 rfl Try.ntmps58 rfl rfl (by simp [pureA, pureL, pureR, inA, inL, inR, inO, idsIn, encs_pure, enxs_pure, enys_pure, valC_pure, exC_pure, tyC_pure]) ?_
  cases n with
  | zero => rw [s_f58] at hr; cases hr
  | succ n =>
    rw [s_f58] at hr
    refine AW.seq ?_
    refine AW.region (M := fun _ => true) ?_
    refine AL.bx good (d := 3) (l := [.str a0.op, .int .i64 a0.v.kind, .int .i64 a0.v.i, .bool a0.v.b, .str a0.v.s, .sl .ro 5 (encs a0.v.t), .int .i64 a0.n, .sl .ro 8 (enxs a0.a)]) rfl rfl rfl rfl rfl rfl 0 rfl ?_
    refine AL.bx good (d := 4) (l := [.int .i64 a1.kind, .sl .ro 2 (enys a1.of)]) rfl rfl rfl rfl rfl rfl 1 rfl ?_
    refine AL.alc good (d := 6) rfl rfl rfl rfl rfl 2 rfl ?_
    refine AL.v good (d := 7) (v := .int .i64 0) rfl rfl rfl rfl ?_
    refine AW.seq ?_
    refine AW.region (M := fun _ => true) ?_
    refine AL.v good (d := 14) (v := .ptr 0 0) rfl rfl rfl rfl ?_
    refine AL.v good (d := 15) (v := .str a0.op) rfl rfl rfl rfl ?_
    obtain ⟨q1, h2, hr⟩ := bnd1 hr
    refine AL.cw good (d := 16) (xs := [.str a0.op]) (res := .int .i64 q1) rfl rfl rfl rfl rfl rfl rfl (w_f92 _ _ _ h2) ⟨(Wv.refl _), trivial⟩ (by simp [pureA, pureL, pureR, inA, inL, inR, inO, idsIn, encs_pure, enxs_pure, enys_pure, valC_pure, exC_pure, tyC_pure]) ?_
    refine AL.v good (d := 8) (v := .int .i64 q1) rfl rfl rfl rfl ?_
    refine AW.seq ?_
    refine AW.block ?_
    refine AW.seq ?_
    refine AW.region (M := fun _ => true) ?_
    refine AL.v good (d := 18) (v := .int .i64 q1) rfl rfl rfl rfl ?_
    refine AL.v good (d := 19) (v := .bool (q1 == (-2))) rfl rfl rfl rfl ?_
    refine AL.v good (d := 17) (v := .bool (q1 == (-2))) rfl rfl rfl rfl ?_
    refine AW.if rfl (fun h3 => ?_) (fun h3 => ?_)
    · replace hr := cnd_t h3 hr
      refine AW.seq ?_
      refine AW.region (M := fun _ => true) ?_
      refine AL.bld good (d := 20) (l := [.int .i64 0, .sl .nil 0 []]) rfl rfl rfl rfl rfl rfl rfl ?_
      refine AL.st2 good (c2 := [.int .i64 0, .sl .nil 0 []]) rfl rfl rfl rfl rfl rfl rfl rfl rfl rfl rfl rfl ?_
      refine AL.v good (d := 7) (v := .int .i64 6) rfl rfl rfl rfl ?_
      refine AW.ret ?_
      obtain rfl := Option.some.inj hr
      exact RetQ.w good (.inr rfl) rfl rfl ⟨⟨Wv.refl _, ⟨.inr rfl, trivial, .inr rfl⟩, trivial⟩, Wv.refl _, trivial⟩ (by simp [pureA, pureL, pureR, inA, inL, inR, inO, idsIn, encs_pure, enxs_pure, enys_pure, valC_pure, exC_pure, tyC_pure])
    · replace hr := cnd_f h3 hr
      refine AW.seq ?_
      refine AW.region (M := fun _ => true) ?_
      refine AL.v good (d := 22) (v := .int .i64 a2) rfl rfl rfl rfl ?_
      refine AL.v good (d := 23) (v := .bool (decide (a2 > 12))) rfl rfl rfl rfl ?_
      refine AL.v good (d := 21) (v := .bool (decide (a2 > 12))) rfl rfl rfl rfl ?_
      refine AW.if rfl (fun h4 => ?_) (fun h4 => ?_)
      · replace hr := cnd_t h4 hr
        refine AW.seq ?_
        refine AW.region (M := fun _ => true) ?_
        refine AL.bld good (d := 24) (l := [.int .i64 0, .sl .nil 0 []]) rfl rfl rfl rfl rfl rfl rfl ?_
        refine AL.st2 good (c2 := [.int .i64 0, .sl .nil 0 []]) rfl rfl rfl rfl rfl rfl rfl rfl rfl rfl rfl rfl ?_
        refine AL.v good (d := 7) (v := .int .i64 9) rfl rfl rfl rfl ?_
        refine AW.ret ?_
        obtain rfl := Option.some.inj hr
        exact RetQ.w good (.inr rfl) rfl rfl ⟨⟨Wv.refl _, ⟨.inr rfl, trivial, .inr rfl⟩, trivial⟩, Wv.refl _, trivial⟩ (by simp [pureA, pureL, pureR, inA, inL, inR, inO, idsIn, encs_pure, enxs_pure, enys_pure, valC_pure, exC_pure, tyC_pure])
      · replace hr := cnd_f h4 hr
        refine AW.seq ?_
        refine AW.region (M := fun _ => true) ?_
        refine AL.v good (d := 26) (v := .int .i64 q1) rfl rfl rfl rfl ?_
        refine AL.v good (d := 27) (v := .bool (decide (q1 ≥ 0))) rfl rfl rfl rfl ?_
        refine AL.vb good (d := 28) (b := (decide (q1 ≥ 0))) rfl rfl rfl rfl (fun g5 h6 => ?_)
        refine AL.gv good (d := 29) (c := g5) (v := .ptr 0 7) (rd := []) rfl rfl (by cases g5 <;> rfl) (fun h => by cases g5 <;> first | rfl | exact absurd h (by decide)) ?_
        refine AL.gv good (d := 30) (c := g5) (v := .sl .ro 8 (enxs a0.a)) (rd := [(0, .box 36 [.str a0.op, .int .i64 a0.v.kind, .int .i64 a0.v.i, .bool a0.v.b, .str a0.v.s, .sl .ro 5 (encs a0.v.t), .int .i64 a0.n, .sl .ro 8 (enxs a0.a)])]) rfl rfl (by cases g5 <;> rfl) (fun h => by cases g5 <;> first | rfl | exact absurd h (by decide)) ?_
        refine AL.gln good (d := 31) (c := g5) (m := a0.a.length) rfl rfl (by cases g5 <;> rfl) rfl rfl (fun h => by cases g5 <;> first | rfl | exact absurd h (by decide)) (enxs_length _) ?_
        refine AL.gv good (d := 32) (c := g5) (v := .int .i64 q1) (rd := []) rfl rfl (by cases g5 <;> rfl) (fun h => by cases g5 <;> first | rfl | exact absurd h (by decide)) ?_
        refine AL.gv good (d := 33) (c := g5) (v := .bool ((a0.a.length : Int) != q1)) (rd := []) rfl rfl (by cases g5 <;> rfl) (fun h => by cases g5 <;> first | rfl | exact absurd h (by decide)) ?_
        refine AL.v good (d := 34) (v := .bool (g5 && ((a0.a.length : Int) != q1))) (rd := []) rfl rfl rfl (by cases g5 <;> rfl) ?_
        refine AL.vb good (d := 35) (b := (g5 && ((a0.a.length : Int) != q1))) rfl rfl rfl rfl (fun g7 h8 => ?_)
        refine AL.gv good (d := 36) (c := (!g7)) (v := .int .i64 q1) (rd := []) rfl rfl (by cases g7 <;> rfl) (fun h => by cases g7 <;> first | rfl | exact absurd h (by decide)) ?_
        refine AL.gv good (d := 37) (c := (!g7)) (v := .bool (decide (q1 < 0))) (rd := []) rfl rfl (by cases g7 <;> rfl) (fun h => by cases g7 <;> first | rfl | exact absurd h (by decide)) ?_
        refine AL.gvb good (d := 38) (c := (!g7)) (r := (decide (q1 < 0))) (rd := []) rfl rfl (by cases g7 <;> rfl) (fun h => by cases g7 <;> first | rfl | exact absurd h (by decide)) (fun g9 h10 => ?_)
        refine AL.gv good (d := 39) (c := ((!g7) && g9)) (v := .ptr 0 7) (rd := []) rfl rfl (by cases g7 <;> cases g9 <;> rfl) (fun h => by cases g7 <;> cases g9 <;> first | rfl | exact absurd h (by decide)) ?_
        refine AL.gv good (d := 40) (c := ((!g7) && g9)) (v := .sl .ro 8 (enxs a0.a)) (rd := [(0, .box 36 [.str a0.op, .int .i64 a0.v.kind, .int .i64 a0.v.i, .bool a0.v.b, .str a0.v.s, .sl .ro 5 (encs a0.v.t), .int .i64 a0.n, .sl .ro 8 (enxs a0.a)])]) rfl rfl (by cases g7 <;> cases g9 <;> rfl) (fun h => by cases g7 <;> cases g9 <;> first | rfl | exact absurd h (by decide)) ?_
        refine AL.gln good (d := 41) (c := ((!g7) && g9)) (m := a0.a.length) rfl rfl (by cases g7 <;> cases g9 <;> rfl) rfl rfl (fun h => by cases g7 <;> cases g9 <;> first | rfl | exact absurd h (by decide)) (enxs_length _) ?_
        refine AL.gv good (d := 42) (c := ((!g7) && g9)) (v := .bool (decide ((a0.a.length : Int) < 1))) (rd := []) rfl rfl (by cases g7 <;> cases g9 <;> rfl) (fun h => by cases g7 <;> cases g9 <;> first | rfl | exact absurd h (by decide)) ?_
        refine AL.gvb good (d := 43) (c := ((!g7) && g9)) (r := (decide ((a0.a.length : Int) < 1))) (rd := []) rfl rfl (by cases g7 <;> cases g9 <;> rfl) (fun h => by cases g7 <;> cases g9 <;> first | rfl | exact absurd h (by decide)) (fun g11 h12 => ?_)
        refine AL.gv good (d := 44) (c := (((!g7) && g9) && (!g11))) (v := .ptr 0 7) (rd := []) rfl rfl (by cases g7 <;> cases g9 <;> cases g11 <;> rfl) (fun h => by cases g7 <;> cases g9 <;> cases g11 <;> first | rfl | exact absurd h (by decide)) ?_
        refine AL.gv good (d := 45) (c := (((!g7) && g9) && (!g11))) (v := .sl .ro 8 (enxs a0.a)) (rd := [(0, .box 36 [.str a0.op, .int .i64 a0.v.kind, .int .i64 a0.v.i, .bool a0.v.b, .str a0.v.s, .sl .ro 5 (encs a0.v.t), .int .i64 a0.n, .sl .ro 8 (enxs a0.a)])]) rfl rfl (by cases g7 <;> cases g9 <;> cases g11 <;> rfl) (fun h => by cases g7 <;> cases g9 <;> cases g11 <;> first | rfl | exact absurd h (by decide)) ?_
        refine AL.gln good (d := 46) (c := (((!g7) && g9) && (!g11))) (m := a0.a.length) rfl rfl (by cases g7 <;> cases g9 <;> cases g11 <;> rfl) rfl rfl (fun h => by cases g7 <;> cases g9 <;> cases g11 <;> first | rfl | exact absurd h (by decide)) (enxs_length _) ?_
        refine AL.gv good (d := 47) (c := (((!g7) && g9) && (!g11))) (v := .bool (decide ((a0.a.length : Int) > 8))) (rd := []) rfl rfl (by cases g7 <;> cases g9 <;> cases g11 <;> rfl) (fun h => by cases g7 <;> cases g9 <;> cases g11 <;> first | rfl | exact absurd h (by decide)) ?_
        refine AL.gv good (d := 48) (c := ((!g7) && g9)) (v := .bool (g11 || (decide ((a0.a.length : Int) > 8)))) (rd := []) rfl rfl (by cases g7 <;> cases g9 <;> cases g11 <;> rfl) (fun h => by cases g7 <;> cases g9 <;> cases g11 <;> first | rfl | exact absurd h (by decide)) ?_
        refine AL.gv good (d := 49) (c := (!g7)) (v := .bool (g9 && (g11 || (decide ((a0.a.length : Int) > 8))))) (rd := []) rfl rfl (by cases g7 <;> cases g9 <;> rfl) (fun h => by cases g7 <;> cases g9 <;> first | rfl | exact absurd h (by decide)) ?_
        refine AL.v good (d := 50) (v := .bool (g7 || (g9 && (g11 || (decide ((a0.a.length : Int) > 8)))))) (rd := []) rfl rfl rfl (by cases g7 <;> rfl) ?_
        refine AL.v good (d := 25) (v := .bool (g7 || (g9 && (g11 || (decide ((a0.a.length : Int) > 8)))))) rfl rfl rfl rfl ?_
        subst h6 h8 h10 h12
        refine AW.if rfl (fun h13 => ?_) (fun h13 => ?_)
        · replace hr := cnd_t h13 hr
          refine AW.seq ?_
          refine AW.region (M := fun _ => true) ?_
          refine AL.bld good (d := 51) (l := [.int .i64 0, .sl .nil 0 []]) rfl rfl rfl rfl rfl rfl rfl ?_
          refine AL.st2 good (c2 := [.int .i64 0, .sl .nil 0 []]) rfl rfl rfl rfl rfl rfl rfl rfl rfl rfl rfl rfl ?_
          refine AL.v good (d := 7) (v := .int .i64 1) rfl rfl rfl rfl ?_
          refine AW.ret ?_
          obtain rfl := Option.some.inj hr
          exact RetQ.w good (.inr rfl) rfl rfl ⟨⟨Wv.refl _, ⟨.inr rfl, trivial, .inr rfl⟩, trivial⟩, Wv.refl _, trivial⟩ (by simp [pureA, pureL, pureR, inA, inL, inR, inO, idsIn, encs_pure, enxs_pure, enys_pure, valC_pure, exC_pure, tyC_pure])
        · replace hr := cnd_f h13 hr
          refine AW.seq ?_
          refine AW.region (M := fun _ => true) ?_
          refine AL.v good (d := 53) (v := .ptr 0 0) rfl rfl rfl rfl ?_
          refine AL.v good (d := 54) (v := .str a0.op) rfl rfl rfl rfl ?_
          refine AL.sb good (d := 55) (b := (a0.op.data.toList != [97, 116])) rfl rfl rfl rfl rfl rfl rfl ?_
          refine AL.vb good (d := 56) (b := (a0.op.data.toList != [97, 116])) rfl rfl rfl rfl (fun g14 h15 => ?_)
          refine AL.gv good (d := 57) (c := g14) (v := .ptr 0 6) (rd := []) rfl rfl (by cases g14 <;> rfl) (fun h => by cases g14 <;> first | rfl | exact absurd h (by decide)) ?_
          refine AL.gv good (d := 58) (c := g14) (v := .int .i64 a0.n) (rd := [(0, .box 36 [.str a0.op, .int .i64 a0.v.kind, .int .i64 a0.v.i, .bool a0.v.b, .str a0.v.s, .sl .ro 5 (encs a0.v.t), .int .i64 a0.n, .sl .ro 8 (enxs a0.a)])]) rfl rfl (by cases g14 <;> rfl) (fun h => by cases g14 <;> first | rfl | exact absurd h (by decide)) ?_
          refine AL.gv good (d := 59) (c := g14) (v := .bool (a0.n != 0)) (rd := []) rfl rfl (by cases g14 <;> rfl) (fun h => by cases g14 <;> first | rfl | exact absurd h (by decide)) ?_
          refine AL.v good (d := 60) (v := .bool (g14 && (a0.n != 0))) (rd := []) rfl rfl rfl (by cases g14 <;> rfl) ?_
          refine AL.vb good (d := 61) (b := (g14 && (a0.n != 0))) rfl rfl rfl rfl (fun g16 h17 => ?_)
          refine AL.gv good (d := 62) (c := (!g16)) (v := .ptr 0 0) (rd := []) rfl rfl (by cases g16 <;> rfl) (fun h => by cases g16 <;> first | rfl | exact absurd h (by decide)) ?_
          refine AL.gv good (d := 63) (c := (!g16)) (v := .str a0.op) (rd := [(0, .box 36 [.str a0.op, .int .i64 a0.v.kind, .int .i64 a0.v.i, .bool a0.v.b, .str a0.v.s, .sl .ro 5 (encs a0.v.t), .int .i64 a0.n, .sl .ro 8 (enxs a0.a)])]) rfl rfl (by cases g16 <;> rfl) (fun h => by cases g16 <;> first | rfl | exact absurd h (by decide)) ?_
          refine AL.gsb good (d := 64) (c := (!g16)) (b := (a0.op.data.toList != [108, 105, 116])) rfl rfl (by cases g16 <;> rfl) rfl (fun h => by cases g16 <;> first | rfl | exact absurd h (by decide)) (fun h => by cases g16 <;> first | rfl | exact absurd h (by decide)) rfl ?_
          refine AL.gvb good (d := 65) (c := (!g16)) (r := (a0.op.data.toList != [108, 105, 116])) (rd := []) rfl rfl (by cases g16 <;> rfl) (fun h => by cases g16 <;> first | rfl | exact absurd h (by decide)) (fun g18 h19 => ?_)
          refine AL.gv good (d := 66) (c := ((!g16) && g18)) (v := .ptr 0 1) (rd := []) rfl rfl (by cases g16 <;> cases g18 <;> rfl) (fun h => by cases g16 <;> cases g18 <;> first | rfl | exact absurd h (by decide)) ?_
          refine AL.gv good (d := 67) (c := ((!g16) && g18)) (v := .agg [.int .i64 a0.v.kind, .int .i64 a0.v.i, .bool a0.v.b, .str a0.v.s, .sl .ro 5 (encs a0.v.t)]) (rd := [(0, .box 36 [.str a0.op, .int .i64 a0.v.kind, .int .i64 a0.v.i, .bool a0.v.b, .str a0.v.s, .sl .ro 5 (encs a0.v.t), .int .i64 a0.n, .sl .ro 8 (enxs a0.a)])]) rfl rfl (by cases g16 <;> cases g18 <;> rfl) (fun h => by cases g16 <;> cases g18 <;> first | rfl | exact absurd h (by decide)) ?_
          refine AL.gcw good (d := 68) (c := ((!g16) && g18)) (aw := [.agg [.int .i64 a0.v.kind, .int .i64 a0.v.i, .bool a0.v.b, .str a0.v.s, .sl .ro 5 (encs a0.v.t)]]) (xs := [.agg (valC a0.v)]) (res := .bool (((((a0.v.kind == 0) && (a0.v.i == 0)) && (!a0.v.b)) && (a0.v.s.data.toList == [])) && ((a0.v.t.length : Int) == 0))) rfl rfl (by cases g16 <;> cases g18 <;> rfl) rfl rfl rfl (fun h => by cases g16 <;> cases g18 <;> first | rfl | exact absurd h (by decide)) (w_f93 a0.v) ⟨(Wv.refl _), trivial⟩ (by simp [pureA, pureL, pureR, inA, inL, inR, inO, idsIn, encs_pure, enxs_pure, enys_pure, valC_pure, exC_pure, tyC_pure]) ?_
          refine AL.gv good (d := 69) (c := ((!g16) && g18)) (v := .bool (!(((((a0.v.kind == 0) && (a0.v.i == 0)) && (!a0.v.b)) && (a0.v.s.data.toList == [])) && ((a0.v.t.length : Int) == 0)))) (rd := []) rfl rfl (by cases g16 <;> cases g18 <;> rfl) (fun h => by cases g16 <;> cases g18 <;> first | rfl | exact absurd h (by decide)) ?_
          refine AL.gv good (d := 70) (c := (!g16)) (v := .bool (g18 && (!(((((a0.v.kind == 0) && (a0.v.i == 0)) && (!a0.v.b)) && (a0.v.s.data.toList == [])) && ((a0.v.t.length : Int) == 0))))) (rd := []) rfl rfl (by cases g16 <;> cases g18 <;> rfl) (fun h => by cases g16 <;> cases g18 <;> first | rfl | exact absurd h (by decide)) ?_
          refine AL.v good (d := 71) (v := .bool (g16 || (g18 && (!(((((a0.v.kind == 0) && (a0.v.i == 0)) && (!a0.v.b)) && (a0.v.s.data.toList == [])) && ((a0.v.t.length : Int) == 0)))))) (rd := []) rfl rfl rfl (by cases g16 <;> rfl) ?_
          refine AL.v good (d := 52) (v := .bool (g16 || (g18 && (!(((((a0.v.kind == 0) && (a0.v.i == 0)) && (!a0.v.b)) && (a0.v.s.data.toList == [])) && ((a0.v.t.length : Int) == 0)))))) rfl rfl rfl rfl ?_
          subst h15 h17 h19
          refine AW.if rfl (fun h20 => ?_) (fun h20 => ?_)
          · replace hr := cnd_t h20 hr
            refine AW.seq ?_
            refine AW.region (M := fun _ => true) ?_
            refine AL.bld good (d := 72) (l := [.int .i64 0, .sl .nil 0 []]) rfl rfl rfl rfl rfl rfl rfl ?_
            refine AL.st2 good (c2 := [.int .i64 0, .sl .nil 0 []]) rfl rfl rfl rfl rfl rfl rfl rfl rfl rfl rfl rfl ?_
            refine AL.v good (d := 7) (v := .int .i64 1) rfl rfl rfl rfl ?_
            refine AW.ret ?_
            obtain rfl := Option.some.inj hr
            exact RetQ.w good (.inr rfl) rfl rfl ⟨⟨Wv.refl _, ⟨.inr rfl, trivial, .inr rfl⟩, trivial⟩, Wv.refl _, trivial⟩ (by simp [pureA, pureL, pureR, inA, inL, inR, inO, idsIn, encs_pure, enxs_pure, enys_pure, valC_pure, exC_pure, tyC_pure])
          · replace hr := cnd_f h20 hr
            refine AW.skip ?_
            refine AW.seq ?_
            refine AW.seq ?_
            refine AW.region (M := fun _ => true) ?_
            refine AL.v good (d := 73) (v := .ptr 0 0) rfl rfl rfl rfl ?_
            refine AL.v good (d := 74) (v := .str a0.op) rfl rfl rfl rfl ?_
            refine AL.sb good (d := 75) (b := (a0.op.data.toList == [108, 105, 116])) rfl rfl rfl rfl rfl rfl rfl ?_
            refine AW.if rfl (fun h21 => ?_) (fun h21 => ?_)
            · replace hr := cnd_t h21 hr
              refine AW.seq ?_
              refine AW.region (M := fun _ => true) ?_
              refine AL.v good (d := 76) (v := .ptr 0 1) rfl rfl rfl rfl ?_
              refine AL.v good (d := 77) (v := .agg [.int .i64 a0.v.kind, .int .i64 a0.v.i, .bool a0.v.b, .str a0.v.s, .sl .ro 5 (encs a0.v.t)]) rfl rfl rfl rfl ?_
              obtain ⟨q22, h23, hr⟩ := bnd1 hr
              refine AL.cw good (d := 78) (xs := [.agg (valC a0.v)]) (res := .int .i64 q22) rfl rfl rfl rfl rfl rfl rfl (w_f34 _ _ _ h23) ⟨(Wv.refl _), trivial⟩ (by simp [pureA, pureL, pureR, inA, inL, inR, inO, idsIn, encs_pure, enxs_pure, enys_pure, valC_pure, exC_pure, tyC_pure]) ?_
              refine AL.v good (d := 9) (v := .int .i64 q22) rfl rfl rfl rfl ?_
              refine AW.seq ?_
              refine AW.seq ?_
              refine AW.region (M := fun _ => true) ?_
              refine AL.v good (d := 79) (v := .int .i64 q22) rfl rfl rfl rfl ?_
              refine AL.v good (d := 80) (v := .bool (q22 != 0)) rfl rfl rfl rfl ?_
              refine AW.if rfl (fun h24 => ?_) (fun h24 => ?_)
              · replace hr := cnd_t h24 hr
                refine AW.seq ?_
                refine AW.region (M := fun _ => true) ?_
                refine AL.bld good (d := 81) (l := [.int .i64 0, .sl .nil 0 []]) rfl rfl rfl rfl rfl rfl rfl ?_
                refine AL.v good (d := 82) (v := .int .i64 q22) rfl rfl rfl rfl ?_
                refine AL.st2 good (c2 := [.int .i64 0, .sl .nil 0 []]) rfl rfl rfl rfl rfl rfl rfl rfl rfl rfl rfl rfl ?_
                refine AL.v good (d := 7) (v := .int .i64 q22) rfl rfl rfl rfl ?_
                refine AW.ret ?_
                obtain rfl := Option.some.inj hr
                exact RetQ.w good (.inr rfl) rfl rfl ⟨⟨Wv.refl _, ⟨.inr rfl, trivial, .inr rfl⟩, trivial⟩, Wv.refl _, trivial⟩ (by simp [pureA, pureL, pureR, inA, inL, inR, inO, idsIn, encs_pure, enxs_pure, enys_pure, valC_pure, exC_pure, tyC_pure])
              · replace hr := cnd_f h24 hr
                refine AW.skip ?_
                refine AW.seq ?_
                refine AW.region (M := fun _ => true) ?_
                refine AL.v good (d := 83) (v := .ptr 0 1) rfl rfl rfl rfl ?_
                refine AL.v good (d := 84) (v := .agg [.int .i64 a0.v.kind, .int .i64 a0.v.i, .bool a0.v.b, .str a0.v.s, .sl .ro 5 (encs a0.v.t)]) rfl rfl rfl rfl ?_
                obtain ⟨q25, h26, hr⟩ := bnd1 hr
                refine AL.cw good (d := 85) (xs := [.agg (valC a0.v)]) (res := .agg [.int .i64 q25.kind, .sl .ro 2 (enys q25.of)]) rfl rfl rfl rfl rfl rfl rfl (w_f21 _ _ _ h26) ⟨(Wv.refl _), trivial⟩ (by simp [pureA, pureL, pureR, inA, inL, inR, inO, idsIn, encs_pure, enxs_pure, enys_pure, valC_pure, exC_pure, tyC_pure]) ?_
                refine AL.st2 good (c2 := [.int .i64 q25.kind, .sl .ro 2 (enys q25.of)]) rfl rfl rfl rfl rfl rfl rfl rfl rfl rfl rfl rfl ?_
                refine AL.v good (d := 7) (v := .int .i64 0) rfl rfl rfl rfl ?_
                refine AW.ret ?_
                obtain rfl := Option.some.inj hr
                exact RetQ.w good (.inr rfl) rfl rfl (Wv.refl _) (by simp [pureA, pureL, pureR, inA, inL, inR, inO, idsIn, encs_pure, enxs_pure, enys_pure, valC_pure, exC_pure, tyC_pure])
            · replace hr := cnd_f h21 hr
              refine AW.skip ?_
              refine AW.seq ?_
              refine AW.seq ?_
              refine AW.region (M := fun _ => true) ?_
              refine AL.v good (d := 86) (v := .ptr 0 0) rfl rfl rfl rfl ?_
              refine AL.v good (d := 87) (v := .str a0.op) rfl rfl rfl rfl ?_
              refine AL.sb good (d := 88) (b := (a0.op.data.toList == [120])) rfl rfl rfl rfl rfl rfl rfl ?_
              refine AW.if rfl (fun h27 => ?_) (fun h27 => ?_)
              · replace hr := cnd_t h27 hr
                refine AW.seq ?_
                refine AW.region (M := fun _ => true) ?_
                refine AL.v good (d := 89) (v := .agg [.int .i64 a1.kind, .sl .ro 2 (enys a1.of)]) rfl rfl rfl rfl ?_
                refine AL.st2 good (c2 := [.int .i64 a1.kind, .sl .ro 2 (enys a1.of)]) rfl rfl rfl rfl rfl rfl rfl rfl rfl rfl rfl rfl ?_
                refine AL.v good (d := 7) (v := .int .i64 0) rfl rfl rfl rfl ?_
                refine AW.ret ?_
                obtain rfl := Option.some.inj hr
                exact RetQ.w good (.inr rfl) rfl rfl (Wv.refl _) (by simp [pureA, pureL, pureR, inA, inL, inR, inO, idsIn, encs_pure, enxs_pure, enys_pure, valC_pure, exC_pure, tyC_pure])
              · replace hr := cnd_f h27 hr
                refine AW.skip ?_
                refine AW.seq ?_
                refine AW.region (M := fun _ => true) ?_
                refine AL.v good (d := 10) (v := .sl .nil 0 []) rfl rfl rfl rfl ?_
                refine AW.seq ?_
                refine AW.seq ?_
                refine AW.region (M := fun _ => true) ?_
                refine AL.v good (d := 11) (v := .int .i64 0) rfl rfl rfl rfl ?_
                refine AW.block ?_
                refine AW.adopt 10 rfl 3 2 40 rfl rfl ?_
                refine AW.lensB 0 rfl (fun hl36 => ?_)
                replace hl36 : a0.a.length ≤ 9223372036854775807 := by rw [← enxs_length a0.a]; exact hl36.2.2.2.2.2.2.2.1
                refine AW.lpw (fun x : Nat × (List Ty) × Nat => [(2, .int .i64 a2), (3, .ptr 0 0), (4, .ptr 1 0), (6, .ptr 2 0), (10, .sl (.own 3) 2 (enys x.2.1)), (11, .int .i64 (x.2.2 : Int))]) (fun x => [(0, .box 36 [.str a0.op, .int .i64 a0.v.kind, .int .i64 a0.v.i, .bool a0.v.b, .str a0.v.s, .sl .ro 5 (encs a0.v.t), .int .i64 a0.n, .sl .ro 8 (enxs a0.a)]), (1, .box 40 [.int .i64 a1.kind, .sl .ro 2 (enys a1.of)]), (2, .box 40 [.int .i64 0, .sl .nil 0 []]), (3, .row 40 2 (enys x.2.1).length)]) (fun x => s_f58_l1 x.1 a0 a1 a2 x.2.1 x.2.2 = some r ∧ x.1 ≤ n) (fun x => x.1) (n, [], 0) ⟨(fun _ h => by cases h), List.forall_mem_cons.2 ⟨⟨⟨_, rfl, Wv.refl _⟩, (by simp [pureA, pureL, pureR, inA, inL, inR, inO, idsIn, encs_pure, enxs_pure, enys_pure, valC_pure, exC_pure, tyC_pure])⟩, List.forall_mem_cons.2 ⟨⟨⟨_, rfl, Wv.refl _⟩, (by simp [pureA, pureL, pureR, inA, inL, inR, inO, idsIn, encs_pure, enxs_pure, enys_pure, valC_pure, exC_pure, tyC_pure])⟩, List.forall_mem_cons.2 ⟨⟨⟨_, rfl, Wv.refl _⟩, (by simp [pureA, pureL, pureR, inA, inL, inR, inO, idsIn, encs_pure, enxs_pure, enys_pure, valC_pure, exC_pure, tyC_pure])⟩, List.forall_mem_cons.2 ⟨⟨⟨_, rfl, Wv.refl _⟩, (by simp [pureA, pureL, pureR, inA, inL, inR, inO, idsIn, encs_pure, enxs_pure, enys_pure, valC_pure, exC_pure, tyC_pure])⟩, List.forall_mem_cons.2 ⟨⟨⟨_, rfl, Wv.refl _⟩, (by simp [pureA, pureL, pureR, inA, inL, inR, inO, idsIn, encs_pure, enxs_pure, enys_pure, valC_pure, exC_pure, tyC_pure])⟩, List.forall_mem_cons.2 ⟨⟨⟨_, rfl, Wv.refl _⟩, (by simp [pureA, pureL, pureR, inA, inL, inR, inO, idsIn, encs_pure, enxs_pure, enys_pure, valC_pure, exC_pure, tyC_pure])⟩, (fun _ h => by cases h)⟩⟩⟩⟩⟩⟩, List.forall_mem_cons.2 ⟨⟨⟨_, rfl, ⟨rfl, ⟨Wv.refl _, Wv.refl _, Wv.refl _, Wv.refl _, Wv.refl _, Wv.refl _, Wv.refl _, Wv.refl _, trivial⟩⟩⟩, (by simp [pureA, pureL, pureR, inA, inL, inR, inO, idsIn, encs_pure, enxs_pure, enys_pure, valC_pure, exC_pure, tyC_pure])⟩, List.forall_mem_cons.2 ⟨⟨⟨_, rfl, ⟨rfl, ⟨Wv.refl _, Wv.refl _, trivial⟩⟩⟩, (by simp [pureA, pureL, pureR, inA, inL, inR, inO, idsIn, encs_pure, enxs_pure, enys_pure, valC_pure, exC_pure, tyC_pure])⟩, List.forall_mem_cons.2 ⟨⟨⟨_, rfl, ⟨rfl, ⟨Wv.refl _, Wv.refl _, trivial⟩⟩⟩, (by simp [pureA, pureL, pureR, inA, inL, inR, inO, idsIn, encs_pure, enxs_pure, enys_pure, valC_pure, exC_pure, tyC_pure])⟩, List.forall_mem_cons.2 ⟨⟨⟨_, rfl, ⟨rfl, rfl, rfl⟩⟩, (by simp [pureA, pureL, pureR, inA, inL, inR, inO, idsIn, encs_pure, enxs_pure, enys_pure, valC_pure, exC_pure, tyC_pure])⟩, (fun _ h => by cases h)⟩⟩⟩⟩⟩ ⟨hr, Nat.le_refl _⟩ (fun ⟨m, v1_1, v1_2⟩ hx => ?_)
                obtain ⟨hr, hm⟩ := hx
                dsimp only at hr hm
                cases m with
                | zero => rw [s_f58_l1] at hr; cases hr
                | succ m =>
                  rw [s_f58_l1] at hr
                  show AW Try.prog _ _ _ (mkS 125 [(2, .int .i64 a2), (3, .ptr 0 0), (4, .ptr 1 0), (6, .ptr 2 0), (10, .sl (.own 3) 2 (enys v1_1)), (11, .int .i64 (v1_2 : Int))] [(0, .box 36 [.str a0.op, .int .i64 a0.v.kind, .int .i64 a0.v.i, .bool a0.v.b, .str a0.v.s, .sl .ro 5 (encs a0.v.t), .int .i64 a0.n, .sl .ro 8 (enxs a0.a)]), (1, .box 40 [.int .i64 a1.kind, .sl .ro 2 (enys a1.of)]), (2, .box 40 [.int .i64 0, .sl .nil 0 []]), (3, .row 40 2 (enys v1_1).length)])
                  refine AW.seq ?_
                  refine AW.seq ?_
                  refine AW.region (M := fun _ => true) ?_
                  refine AL.v good (d := 90) (v := .int .i64 (v1_2 : Int)) rfl rfl rfl rfl ?_
                  refine AL.v good (d := 91) (v := .ptr 0 7) rfl rfl rfl rfl ?_
                  refine AL.v good (d := 92) (v := .sl .ro 8 (enxs a0.a)) rfl rfl rfl rfl ?_
                  refine AL.ln good (d := 93) (m := a0.a.length) rfl rfl rfl rfl rfl rfl (enxs_length _) ?_
                  refine AL.v good (d := 94) (v := .bool (decide ((v1_2 : Int) < (a0.a.length : Int)))) rfl rfl rfl rfl ?_
                  refine AW.if rfl (fun h37 => ?_) (fun h37 => ?_)
                  · replace hr := cnd_t h37 hr
                    refine AW.skip ?_
                    refine AW.seq ?_
                    refine AW.block ?_
                    refine AW.seq ?_
                    refine AW.draw (M := fun i => Nat.beq i 13) good.wide (by kernel_rfl) ?_
                    refine AL.v good (d := 98) (v := .ptr 0 7) rfl rfl rfl rfl ?_
                    refine AL.v good (d := 99) (v := .sl .ro 8 (enxs a0.a)) rfl rfl rfl rfl ?_
                    refine AL.v good (d := 100) (v := .int .i64 (v1_2 : Int)) rfl rfl rfl rfl ?_
                    obtain ⟨x38, h39, hr⟩ := bnd1 hr
                    refine AL.ix good (d := 101) (r := [.str x38.op, .int .i64 x38.v.kind, .int .i64 x38.v.i, .bool x38.v.b, .str x38.v.s, .sl .ro 5 (encs x38.v.t), .int .i64 x38.n, .sl .ro 8 (enxs x38.a)]) rfl rfl rfl rfl rfl rfl rfl (Int.natCast_nonneg _) (enxs_get h39) ?_
                    refine AL.v good (d := 102) (v := .agg [.str x38.op, .int .i64 x38.v.kind, .int .i64 x38.v.i, .bool x38.v.b, .str x38.v.s, .sl .ro 5 (encs x38.v.t), .int .i64 x38.n, .sl .ro 8 (enxs x38.a)]) rfl rfl rfl rfl ?_
                    refine AL.v good (d := 103) (v := .agg [.int .i64 a1.kind, .sl .ro 2 (enys a1.of)]) rfl rfl rfl rfl ?_
                    refine AL.v good (d := 104) (v := .int .i64 a2) rfl rfl rfl rfl ?_
                    refine AL.v good (d := 105) (v := .int .i64 (IntKind.i64.wrap (a2 + 1))) rfl rfl rfl rfl ?_
                    obtain ⟨q40, h41, hr⟩ := bnd1 hr
                    refine AL.cw good (d := 106) (xs := [.agg (exC x38), .agg (tyC a1), .int .i64 (IntKind.i64.wrap (a2 + 1))]) (res := .tup [.agg [.int .i64 q40.1.kind, .sl .ro 2 (enys q40.1.of)], .int .i64 q40.2]) rfl rfl rfl rfl rfl rfl rfl (ih _ _ _ _ _ h41 (by omega)) ⟨(Wv.refl _), (Wv.refl _), (Wv.refl _), trivial⟩ (by simp [pureA, pureL, pureR, inA, inL, inR, inO, idsIn, encs_pure, enxs_pure, enys_pure, valC_pure, exC_pure, tyC_pure]) ?_
                    refine AL.v good (d := 97) (v := .tup [.agg [.int .i64 q40.1.kind, .sl .ro 2 (enys q40.1.of)], .int .i64 q40.2]) rfl rfl rfl rfl ?_
                    refine AL.v good (d := 107) (v := .agg [.int .i64 q40.1.kind, .sl .ro 2 (enys q40.1.of)]) rfl rfl rfl rfl ?_
                    refine AL.v good (d := 108) (v := .int .i64 q40.2) rfl rfl rfl rfl ?_
                    refine AL.alc good (d := 12) rfl rfl rfl rfl rfl 4 rfl ?_
                    refine AL.st2 good (c2 := [.int .i64 q40.1.kind, .sl .ro 2 (enys q40.1.of)]) rfl rfl rfl rfl rfl rfl rfl rfl rfl rfl rfl rfl ?_
                    refine AL.v good (d := 13) (v := .int .i64 q40.2) rfl rfl rfl rfl ?_
                    refine AW.seq ?_
                    refine AW.seq ?_
                    refine AW.region (M := fun _ => true) ?_
                    refine AL.v good (d := 109) (v := .int .i64 q40.2) rfl rfl rfl rfl ?_
                    refine AL.v good (d := 110) (v := .bool (q40.2 != 0)) rfl rfl rfl rfl ?_
                    refine AW.if rfl (fun h42 => ?_) (fun h42 => ?_)
                    · replace hr := cnd_t h42 hr
                      refine AW.seq ?_
                      refine AW.region (M := fun _ => true) ?_
                      refine AL.bld good (d := 111) (l := [.int .i64 0, .sl .nil 0 []]) rfl rfl rfl rfl rfl rfl rfl ?_
                      refine AL.v good (d := 112) (v := .int .i64 q40.2) rfl rfl rfl rfl ?_
                      refine AL.st2 good (c2 := [.int .i64 0, .sl .nil 0 []]) rfl rfl rfl rfl rfl rfl rfl rfl rfl rfl rfl rfl ?_
                      refine AL.v good (d := 7) (v := .int .i64 q40.2) rfl rfl rfl rfl ?_
                      refine AW.ret ?_
                      obtain rfl := Option.some.inj hr
                      exact RetQ.w good (.inr rfl) rfl rfl ⟨⟨Wv.refl _, ⟨.inr rfl, trivial, .inr rfl⟩, trivial⟩, Wv.refl _, trivial⟩ (by simp [pureA, pureL, pureR, inA, inL, inR, inO, idsIn, encs_pure, enxs_pure, enys_pure, valC_pure, exC_pure, tyC_pure])
                    · replace hr := cnd_f h42 hr
                      refine AW.skip ?_
                      refine AW.region (M := fun _ => true) ?_
                      refine AL.v good (d := 113) (v := .sl (.own 3) 2 (enys v1_1)) rfl rfl rfl rfl ?_
                      refine AL.v good (d := 114) (v := .agg [.int .i64 q40.1.kind, .sl .ro 2 (enys q40.1.of)]) rfl rfl rfl rfl ?_
                      refine AL.lit good (d := 115) (rows := [[.int .i64 q40.1.kind, .sl .ro 2 (enys q40.1.of)]]) rfl rfl rfl rfl rfl rfl rfl rfl rfl 5 rfl ?_
                      obtain ⟨h43, hr⟩ := grd hr
                      refine AL.aw2 good (d := 116) (rows := enys v1_1) (news := [(tyC q40.1)]) (rows2 := enys (v1_1 ++ [q40.1])) rfl rfl rfl rfl rfl rfl rfl rfl rfl (by simp) rfl rfl rfl ⟨⟨Wv.refl _, Wv.refl _, trivial⟩, trivial⟩ (by simp [enys_map]) (by rw [enys_length, List.length_append]; exact h43) rfl ?_
                      refine AL.v good (d := 10) (v := .sl (.own 3) 2 (enys (v1_1 ++ [q40.1]))) rfl rfl rfl rfl ?_
                      refine AW.region (M := fun _ => true) ?_
                      refine AL.v good (d := 95) (v := .int .i64 (v1_2 : Int)) rfl rfl rfl rfl ?_
                      refine AL.v good (d := 96) (v := .int .i64 (IntKind.i64.wrap ((v1_2 : Int) + 1))) rfl rfl rfl rfl ?_
                      refine AL.v good (d := 11) (v := .int .i64 (IntKind.i64.wrap ((v1_2 : Int) + 1))) rfl rfl rfl rfl ?_
                      exact ⟨(m, (v1_1 ++ [q40.1]), (v1_2 + 1)), _, _, rfl, ⟨(fun _ h => by cases h), List.forall_mem_cons.2 ⟨⟨⟨_, rfl, Wv.refl _⟩, (by simp [pureA, pureL, pureR, inA, inL, inR, inO, idsIn, encs_pure, enxs_pure, enys_pure, valC_pure, exC_pure, tyC_pure])⟩, List.forall_mem_cons.2 ⟨⟨⟨_, rfl, Wv.refl _⟩, (by simp [pureA, pureL, pureR, inA, inL, inR, inO, idsIn, encs_pure, enxs_pure, enys_pure, valC_pure, exC_pure, tyC_pure])⟩, List.forall_mem_cons.2 ⟨⟨⟨_, rfl, Wv.refl _⟩, (by simp [pureA, pureL, pureR, inA, inL, inR, inO, idsIn, encs_pure, enxs_pure, enys_pure, valC_pure, exC_pure, tyC_pure])⟩, List.forall_mem_cons.2 ⟨⟨⟨_, rfl, Wv.refl _⟩, (by simp [pureA, pureL, pureR, inA, inL, inR, inO, idsIn, encs_pure, enxs_pure, enys_pure, valC_pure, exC_pure, tyC_pure])⟩, List.forall_mem_cons.2 ⟨⟨⟨_, rfl, Wv.refl _⟩, (by simp [pureA, pureL, pureR, inA, inL, inR, inO, idsIn, encs_pure, enxs_pure, enys_pure, valC_pure, exC_pure, tyC_pure])⟩, List.forall_mem_cons.2 ⟨⟨⟨_, rfl, (wnx h37 hl36)⟩, (by simp [pureA, pureL, pureR, inA, inL, inR, inO, idsIn, encs_pure, enxs_pure, enys_pure, valC_pure, exC_pure, tyC_pure])⟩, (fun _ h => by cases h)⟩⟩⟩⟩⟩⟩, List.forall_mem_cons.2 ⟨⟨⟨_, rfl, ⟨rfl, ⟨Wv.refl _, Wv.refl _, Wv.refl _, Wv.refl _, Wv.refl _, Wv.refl _, Wv.refl _, Wv.refl _, trivial⟩⟩⟩, (by simp [pureA, pureL, pureR, inA, inL, inR, inO, idsIn, encs_pure, enxs_pure, enys_pure, valC_pure, exC_pure, tyC_pure])⟩, List.forall_mem_cons.2 ⟨⟨⟨_, rfl, ⟨rfl, ⟨Wv.refl _, Wv.refl _, trivial⟩⟩⟩, (by simp [pureA, pureL, pureR, inA, inL, inR, inO, idsIn, encs_pure, enxs_pure, enys_pure, valC_pure, exC_pure, tyC_pure])⟩, List.forall_mem_cons.2 ⟨⟨⟨_, rfl, ⟨rfl, ⟨Wv.refl _, Wv.refl _, trivial⟩⟩⟩, (by simp [pureA, pureL, pureR, inA, inL, inR, inO, idsIn, encs_pure, enxs_pure, enys_pure, valC_pure, exC_pure, tyC_pure])⟩, List.forall_mem_cons.2 ⟨⟨⟨_, rfl, ⟨rfl, rfl, rfl⟩⟩, (by simp [pureA, pureL, pureR, inA, inL, inR, inO, idsIn, encs_pure, enxs_pure, enys_pure, valC_pure, exC_pure, tyC_pure])⟩, (fun _ h => by cases h)⟩⟩⟩⟩⟩, ⟨hr, Nat.le_of_succ_le hm⟩, Nat.lt_succ_self _⟩
                  · replace hr := cnd_f h37 hr
                    refine AW.exit ?_
                    refine AW.seq ?_
                    refine AW.region (M := fun _ => true) ?_
                    refine AL.v good (d := 117) (v := .ptr 0 0) rfl rfl rfl rfl ?_
                    refine AL.v good (d := 118) (v := .str a0.op) rfl rfl rfl rfl ?_
                    refine AL.v good (d := 119) (v := .ptr 0 6) rfl rfl rfl rfl ?_
                    refine AL.v good (d := 120) (v := .int .i64 a0.n) rfl rfl rfl rfl ?_
                    refine AL.v good (d := 121) (v := .sl (.own 3) 2 (enys v1_1)) rfl rfl rfl rfl ?_
                    obtain ⟨q44, h45, hr⟩ := bnd1 hr
                    refine AL.cw good (d := 122) (xs := [.str a0.op, .int .i64 a0.n, .sl .ro 2 (enys v1_1)]) (res := .tup [.agg [.int .i64 q44.1.kind, .sl .ro 2 (enys q44.1.of)], .int .i64 q44.2]) rfl rfl rfl rfl rfl rfl rfl (w_f94 _ _ _ _ _ h45) ⟨(Wv.refl _), (Wv.refl _), ⟨.inr rfl, WvR.refl _, .inl rfl⟩, trivial⟩ (by simp [pureA, pureL, pureR, inA, inL, inR, inO, idsIn, encs_pure, enxs_pure, enys_pure, valC_pure, exC_pure, tyC_pure]) ?_
                    refine AL.v good (d := 123) (v := .agg [.int .i64 q44.1.kind, .sl .ro 2 (enys q44.1.of)]) rfl rfl rfl rfl ?_
                    refine AL.v good (d := 124) (v := .int .i64 q44.2) rfl rfl rfl rfl ?_
                    refine AL.st2 good (c2 := [.int .i64 q44.1.kind, .sl .ro 2 (enys q44.1.of)]) rfl rfl rfl rfl rfl rfl rfl rfl rfl rfl rfl rfl ?_
                    refine AL.v good (d := 7) (v := .int .i64 q44.2) rfl rfl rfl rfl ?_
                    refine AW.ret ?_
                    obtain rfl := Option.some.inj hr
                    exact RetQ.w good (.inr rfl) rfl rfl (Wv.refl _) (by simp [pureA, pureL, pureR, inA, inL, inR, inO, idsIn, encs_pure, enxs_pure, enys_pure, valC_pure, exC_pure, tyC_pure])
theorem w_f58 (n : Nat) : ∀ (a0 : Ex) (a1 : Ty) (a2 : Int) (r : Ty × Int) (hr : s_f58 n a0 a1 a2 = some r), ACall Try.prog 58 [.agg (exC a0), .agg (tyC a1), .int .i64 a2] (.tup [.agg (tyC r.1), .int .i64 r.2]) := by
  induction n using Nat.strongRecOn with
  | _ n ih =>
    intro a0 a1 a2 r hr
    exact w_f58_a n (fun m a0 a1 a2 r h hm => ih m hm a0 a1 a2 r h) a0 a1 a2 r hr

def s_f20 (n : Nat) (a0 : Ex) (a1 : Ty) : Option (Ty × Int) :=
  ((s_f56 n a1).bind fun q1 => (bif (q1 != 0) then some ((Ty.mk 0 []), 5) else ((s_f57 n a0).bind fun q4 => (bif (decide (q4 > 256)) then some ((Ty.mk 0 []), 10) else ((s_f58 n a0 a1 0).bind fun q7 => some (q7.1, q7.2))))))

theorem w_f20 (n : Nat) (a0 : Ex) (a1 : Ty) (r : Ty × Int) (hr : s_f20 n a0 a1 = some r) : ACall Try.prog 20 [.agg (exC a0), .agg (tyC a1)] (.tup [.agg (tyC r.1), .int .i64 r.2]) := by
  refine ACall.go [(0, .agg (exC a0)), (1, .agg (tyC a1))] Try.func20 rfl Try.ntmps20 rfl rfl (by simp [pureA, pureL, pureR, inA, inL, inR, inO, idsIn, encs_pure, enxs_pure, enys_pure, valC_pure, exC_pure, tyC_pure]) ?_
  rw [s_f20] at hr
  refine AW.seq ?_
  refine AW.region (M := fun _ => true) ?_
  refine AL.bx good (d := 2) (l := [.str a0.op, .int .i64 a0.v.kind, .int .i64 a0.v.i, .bool a0.v.b, .str a0.v.s, .sl .ro 5 (encs a0.v.t), .int .i64 a0.n, .sl .ro 8 (enxs a0.a)]) rfl rfl rfl rfl rfl rfl 0 rfl ?_
  refine AL.bx good (d := 3) (l := [.int .i64 a1.kind, .sl .ro 2 (enys a1.of)]) rfl rfl rfl rfl rfl rfl 1 rfl ?_
  refine AL.alc good (d := 4) rfl rfl rfl rfl rfl 2 rfl ?_
  refine AL.v good (d := 5) (v := .int .i64 0) rfl rfl rfl rfl ?_
  refine AW.seq ?_
  refine AW.seq ?_
  refine AW.region (M := fun _ => true) ?_
  refine AL.v good (d := 6) (v := .agg [.int .i64 a1.kind, .sl .ro 2 (enys a1.of)]) rfl rfl rfl rfl ?_
  obtain ⟨q1, h2, hr⟩ := bnd1 hr
  refine AL.cw good (d := 7) (xs := [.agg (tyC a1)]) (res := .int .i64 q1) rfl rfl rfl rfl rfl rfl rfl (w_f56 _ _ _ h2) ⟨(Wv.refl _), trivial⟩ (by simp [pureA, pureL, pureR, inA, inL, inR, inO, idsIn, encs_pure, enxs_pure, enys_pure, valC_pure, exC_pure, tyC_pure]) ?_
  refine AL.v good (d := 8) (v := .bool (q1 != 0)) rfl rfl rfl rfl ?_
  refine AW.if rfl (fun h3 => ?_) (fun h3 => ?_)
  · replace hr := cnd_t h3 hr
    refine AW.seq ?_
    refine AW.region (M := fun _ => true) ?_
    refine AL.bld good (d := 9) (l := [.int .i64 0, .sl .nil 0 []]) rfl rfl rfl rfl rfl rfl rfl ?_
    refine AL.st2 good (c2 := [.int .i64 0, .sl .nil 0 []]) rfl rfl rfl rfl rfl rfl rfl rfl rfl rfl rfl rfl ?_
    refine AL.v good (d := 5) (v := .int .i64 5) rfl rfl rfl rfl ?_
    refine AW.ret ?_
    obtain rfl := Option.some.inj hr
    exact RetQ.w good (.inr rfl) rfl rfl ⟨⟨Wv.refl _, ⟨.inr rfl, trivial, .inr rfl⟩, trivial⟩, Wv.refl _, trivial⟩ (by simp [pureA, pureL, pureR, inA, inL, inR, inO, idsIn, encs_pure, enxs_pure, enys_pure, valC_pure, exC_pure, tyC_pure])
  · replace hr := cnd_f h3 hr
    refine AW.skip ?_
    refine AW.seq ?_
    refine AW.seq ?_
    refine AW.region (M := fun _ => true) ?_
    refine AL.v good (d := 10) (v := .agg [.str a0.op, .int .i64 a0.v.kind, .int .i64 a0.v.i, .bool a0.v.b, .str a0.v.s, .sl .ro 5 (encs a0.v.t), .int .i64 a0.n, .sl .ro 8 (enxs a0.a)]) rfl rfl rfl rfl ?_
    obtain ⟨q4, h5, hr⟩ := bnd1 hr
    refine AL.cw good (d := 11) (xs := [.agg (exC a0)]) (res := .int .i64 q4) rfl rfl rfl rfl rfl rfl rfl (w_f57 _ _ _ h5) ⟨(Wv.refl _), trivial⟩ (by simp [pureA, pureL, pureR, inA, inL, inR, inO, idsIn, encs_pure, enxs_pure, enys_pure, valC_pure, exC_pure, tyC_pure]) ?_
    refine AL.v good (d := 12) (v := .bool (decide (q4 > 256))) rfl rfl rfl rfl ?_
    refine AW.if rfl (fun h6 => ?_) (fun h6 => ?_)
    · replace hr := cnd_t h6 hr
      refine AW.seq ?_
      refine AW.region (M := fun _ => true) ?_
      refine AL.bld good (d := 13) (l := [.int .i64 0, .sl .nil 0 []]) rfl rfl rfl rfl rfl rfl rfl ?_
      refine AL.st2 good (c2 := [.int .i64 0, .sl .nil 0 []]) rfl rfl rfl rfl rfl rfl rfl rfl rfl rfl rfl rfl ?_
      refine AL.v good (d := 5) (v := .int .i64 10) rfl rfl rfl rfl ?_
      refine AW.ret ?_
      obtain rfl := Option.some.inj hr
      exact RetQ.w good (.inr rfl) rfl rfl ⟨⟨Wv.refl _, ⟨.inr rfl, trivial, .inr rfl⟩, trivial⟩, Wv.refl _, trivial⟩ (by simp [pureA, pureL, pureR, inA, inL, inR, inO, idsIn, encs_pure, enxs_pure, enys_pure, valC_pure, exC_pure, tyC_pure])
    · replace hr := cnd_f h6 hr
      refine AW.skip ?_
      refine AW.seq ?_
      refine AW.region (M := fun _ => true) ?_
      refine AL.v good (d := 14) (v := .agg [.str a0.op, .int .i64 a0.v.kind, .int .i64 a0.v.i, .bool a0.v.b, .str a0.v.s, .sl .ro 5 (encs a0.v.t), .int .i64 a0.n, .sl .ro 8 (enxs a0.a)]) rfl rfl rfl rfl ?_
      refine AL.v good (d := 15) (v := .agg [.int .i64 a1.kind, .sl .ro 2 (enys a1.of)]) rfl rfl rfl rfl ?_
      obtain ⟨q7, h8, hr⟩ := bnd1 hr
      refine AL.cw good (d := 16) (xs := [.agg (exC a0), .agg (tyC a1), .int .i64 0]) (res := .tup [.agg [.int .i64 q7.1.kind, .sl .ro 2 (enys q7.1.of)], .int .i64 q7.2]) rfl rfl rfl rfl rfl rfl rfl (w_f58 _ _ _ _ _ h8) ⟨(Wv.refl _), (Wv.refl _), (Wv.refl _), trivial⟩ (by simp [pureA, pureL, pureR, inA, inL, inR, inO, idsIn, encs_pure, enxs_pure, enys_pure, valC_pure, exC_pure, tyC_pure]) ?_
      refine AL.v good (d := 17) (v := .agg [.int .i64 q7.1.kind, .sl .ro 2 (enys q7.1.of)]) rfl rfl rfl rfl ?_
      refine AL.v good (d := 18) (v := .int .i64 q7.2) rfl rfl rfl rfl ?_
      refine AL.st2 good (c2 := [.int .i64 q7.1.kind, .sl .ro 2 (enys q7.1.of)]) rfl rfl rfl rfl rfl rfl rfl rfl rfl rfl rfl rfl ?_
      refine AL.v good (d := 5) (v := .int .i64 q7.2) rfl rfl rfl rfl ?_
      refine AW.ret ?_
      obtain rfl := Option.some.inj hr
      exact RetQ.w good (.inr rfl) rfl rfl (Wv.refl _) (by simp [pureA, pureL, pureR, inA, inL, inR, inO, idsIn, encs_pure, enxs_pure, enys_pure, valC_pure, exC_pure, tyC_pure])

end Go.Proofs.Ytbcjcekoonebiaa.Tl
