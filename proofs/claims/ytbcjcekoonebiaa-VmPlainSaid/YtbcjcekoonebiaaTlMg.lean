/- Definitions and walks: a program of pushes. Conditions: none. -/
import Derived.Test.YtbcjcekoonebiaaTlMf
import Derived.Test.YtbcjcekoonebiaaTlYb
set_option linter.unusedVariables false
set_option linter.unusedSimpArgs false
namespace Go.Proofs.Ytbcjcekoonebiaa.Tl
open Go Go.RowKit



def s_f119 (n : Nat) (a0 : Val) : Option Bool :=
  some (((((a0.kind != 1) && (a0.i != 0)) || ((a0.kind != 2) && a0.b)) || ((a0.kind != 3) && (a0.s.data.toList != []))) || ((a0.kind != 4) && (decide ((a0.t.length : Int) > 0))))

theorem w_f119 (n : Nat) (a0 : Val) (r : Bool) (hr : s_f119 n a0 = some r) : ACall Try.prog 119 [.agg (valC a0)] (.bool r) := by
  refine ACall.go [(0, .agg (valC a0))] Try.func119 rfl Try.ntmps119 rfl rfl (by simp [pureA, pureL, pureR, inA, inL, inR, inO, idsIn, encs_pure, enxs_pure, enys_pure, valC_pure, exC_pure, tyC_pure, r_int_u8_pure, r_st_GInst_pure, r_sl_st_GInst_pure, r_st_GMiss_pure]) ?_
  rw [s_f119] at hr
  refine AW.seq ?_
  refine AW.region (M := fun _ => true) ?_
  refine AL.bx good (d := 1) (l := [.int .i64 a0.kind, .int .i64 a0.i, .bool a0.b, .str a0.s, .sl .ro 5 (encs a0.t)]) rfl rfl rfl rfl rfl rfl 0 rfl ?_
  refine AL.v good (d := 2) (v := .bool false) rfl rfl rfl rfl ?_
  refine AW.seq ?_
  refine AW.region (M := fun _ => true) ?_
  refine AL.v good (d := 3) (v := .ptr 0 0) rfl rfl rfl rfl ?_
  refine AL.v good (d := 4) (v := .int .i64 a0.kind) rfl rfl rfl rfl ?_
  refine AL.v good (d := 5) (v := .bool (a0.kind != 1)) rfl rfl rfl rfl ?_
  refine AL.vb good (d := 6) (b := (a0.kind != 1)) rfl rfl rfl rfl (fun g1 h2 => ?_)
  refine AL.gv good (d := 7) (c := g1) (v := .ptr 0 1) (rd := []) rfl rfl (by cases g1 <;> rfl) (fun h => by cases g1 <;> first | rfl | exact absurd h (by decide)) ?_
  refine AL.gv good (d := 8) (c := g1) (v := .int .i64 a0.i) (rd := [(0, .box 24 [.int .i64 a0.kind, .int .i64 a0.i, .bool a0.b, .str a0.s, .sl .ro 5 (encs a0.t)])]) rfl rfl (by cases g1 <;> rfl) (fun h => by cases g1 <;> first | rfl | exact absurd h (by decide)) ?_
  refine AL.gv good (d := 9) (c := g1) (v := .bool (a0.i != 0)) (rd := []) rfl rfl (by cases g1 <;> rfl) (fun h => by cases g1 <;> first | rfl | exact absurd h (by decide)) ?_
  refine AL.v good (d := 10) (v := .bool (g1 && (a0.i != 0))) (rd := []) rfl rfl rfl (by cases g1 <;> rfl) ?_
  refine AL.vb good (d := 11) (b := (g1 && (a0.i != 0))) rfl rfl rfl rfl (fun g3 h4 => ?_)
  refine AL.gv good (d := 12) (c := (!g3)) (v := .ptr 0 0) (rd := []) rfl rfl (by cases g3 <;> rfl) (fun h => by cases g3 <;> first | rfl | exact absurd h (by decide)) ?_
  refine AL.gv good (d := 13) (c := (!g3)) (v := .int .i64 a0.kind) (rd := [(0, .box 24 [.int .i64 a0.kind, .int .i64 a0.i, .bool a0.b, .str a0.s, .sl .ro 5 (encs a0.t)])]) rfl rfl (by cases g3 <;> rfl) (fun h => by cases g3 <;> first | rfl | exact absurd h (by decide)) ?_
  refine AL.gv good (d := 14) (c := (!g3)) (v := .bool (a0.kind != 2)) (rd := []) rfl rfl (by cases g3 <;> rfl) (fun h => by cases g3 <;> first | rfl | exact absurd h (by decide)) ?_
  refine AL.gvb good (d := 15) (c := (!g3)) (r := (a0.kind != 2)) (rd := []) rfl rfl (by cases g3 <;> rfl) (fun h => by cases g3 <;> first | rfl | exact absurd h (by decide)) (fun g5 h6 => ?_)
  refine AL.gv good (d := 16) (c := ((!g3) && g5)) (v := .ptr 0 2) (rd := []) rfl rfl (by cases g3 <;> cases g5 <;> rfl) (fun h => by cases g3 <;> cases g5 <;> first | rfl | exact absurd h (by decide)) ?_
  refine AL.gv good (d := 17) (c := ((!g3) && g5)) (v := .bool a0.b) (rd := [(0, .box 24 [.int .i64 a0.kind, .int .i64 a0.i, .bool a0.b, .str a0.s, .sl .ro 5 (encs a0.t)])]) rfl rfl (by cases g3 <;> cases g5 <;> rfl) (fun h => by cases g3 <;> cases g5 <;> first | rfl | exact absurd h (by decide)) ?_
  refine AL.gv good (d := 18) (c := (!g3)) (v := .bool (g5 && a0.b)) (rd := []) rfl rfl (by cases g3 <;> cases g5 <;> rfl) (fun h => by cases g3 <;> cases g5 <;> first | rfl | exact absurd h (by decide)) ?_
  refine AL.v good (d := 19) (v := .bool (g3 || (g5 && a0.b))) (rd := []) rfl rfl rfl (by cases g3 <;> rfl) ?_
  refine AL.vb good (d := 20) (b := (g3 || (g5 && a0.b))) rfl rfl rfl rfl (fun g7 h8 => ?_)
  refine AL.gv good (d := 21) (c := (!g7)) (v := .ptr 0 0) (rd := []) rfl rfl (by cases g7 <;> rfl) (fun h => by cases g7 <;> first | rfl | exact absurd h (by decide)) ?_
  refine AL.gv good (d := 22) (c := (!g7)) (v := .int .i64 a0.kind) (rd := [(0, .box 24 [.int .i64 a0.kind, .int .i64 a0.i, .bool a0.b, .str a0.s, .sl .ro 5 (encs a0.t)])]) rfl rfl (by cases g7 <;> rfl) (fun h => by cases g7 <;> first | rfl | exact absurd h (by decide)) ?_
  refine AL.gv good (d := 23) (c := (!g7)) (v := .bool (a0.kind != 3)) (rd := []) rfl rfl (by cases g7 <;> rfl) (fun h => by cases g7 <;> first | rfl | exact absurd h (by decide)) ?_
  refine AL.gvb good (d := 24) (c := (!g7)) (r := (a0.kind != 3)) (rd := []) rfl rfl (by cases g7 <;> rfl) (fun h => by cases g7 <;> first | rfl | exact absurd h (by decide)) (fun g9 h10 => ?_)
  refine AL.gv good (d := 25) (c := ((!g7) && g9)) (v := .ptr 0 3) (rd := []) rfl rfl (by cases g7 <;> cases g9 <;> rfl) (fun h => by cases g7 <;> cases g9 <;> first | rfl | exact absurd h (by decide)) ?_
  refine AL.gv good (d := 26) (c := ((!g7) && g9)) (v := .str a0.s) (rd := [(0, .box 24 [.int .i64 a0.kind, .int .i64 a0.i, .bool a0.b, .str a0.s, .sl .ro 5 (encs a0.t)])]) rfl rfl (by cases g7 <;> cases g9 <;> rfl) (fun h => by cases g7 <;> cases g9 <;> first | rfl | exact absurd h (by decide)) ?_
  refine AL.gsb good (d := 27) (c := ((!g7) && g9)) (b := (a0.s.data.toList != [])) rfl rfl (by cases g7 <;> cases g9 <;> rfl) rfl (fun h => by cases g7 <;> cases g9 <;> first | rfl | exact absurd h (by decide)) (fun h => by cases g7 <;> cases g9 <;> first | rfl | exact absurd h (by decide)) rfl ?_
  refine AL.gv good (d := 28) (c := (!g7)) (v := .bool (g9 && (a0.s.data.toList != []))) (rd := []) rfl rfl (by cases g7 <;> cases g9 <;> rfl) (fun h => by cases g7 <;> cases g9 <;> first | rfl | exact absurd h (by decide)) ?_
  refine AL.v good (d := 29) (v := .bool (g7 || (g9 && (a0.s.data.toList != [])))) (rd := []) rfl rfl rfl (by cases g7 <;> rfl) ?_
  refine AL.vb good (d := 30) (b := (g7 || (g9 && (a0.s.data.toList != [])))) rfl rfl rfl rfl (fun g11 h12 => ?_)
  refine AL.gv good (d := 31) (c := (!g11)) (v := .ptr 0 0) (rd := []) rfl rfl (by cases g11 <;> rfl) (fun h => by cases g11 <;> first | rfl | exact absurd h (by decide)) ?_
  refine AL.gv good (d := 32) (c := (!g11)) (v := .int .i64 a0.kind) (rd := [(0, .box 24 [.int .i64 a0.kind, .int .i64 a0.i, .bool a0.b, .str a0.s, .sl .ro 5 (encs a0.t)])]) rfl rfl (by cases g11 <;> rfl) (fun h => by cases g11 <;> first | rfl | exact absurd h (by decide)) ?_
  refine AL.gv good (d := 33) (c := (!g11)) (v := .bool (a0.kind != 4)) (rd := []) rfl rfl (by cases g11 <;> rfl) (fun h => by cases g11 <;> first | rfl | exact absurd h (by decide)) ?_
  refine AL.gvb good (d := 34) (c := (!g11)) (r := (a0.kind != 4)) (rd := []) rfl rfl (by cases g11 <;> rfl) (fun h => by cases g11 <;> first | rfl | exact absurd h (by decide)) (fun g13 h14 => ?_)
  refine AL.gv good (d := 35) (c := ((!g11) && g13)) (v := .ptr 0 4) (rd := []) rfl rfl (by cases g11 <;> cases g13 <;> rfl) (fun h => by cases g11 <;> cases g13 <;> first | rfl | exact absurd h (by decide)) ?_
  refine AL.gv good (d := 36) (c := ((!g11) && g13)) (v := .sl .ro 5 (encs a0.t)) (rd := [(0, .box 24 [.int .i64 a0.kind, .int .i64 a0.i, .bool a0.b, .str a0.s, .sl .ro 5 (encs a0.t)])]) rfl rfl (by cases g11 <;> cases g13 <;> rfl) (fun h => by cases g11 <;> cases g13 <;> first | rfl | exact absurd h (by decide)) ?_
  refine AL.gln good (d := 37) (c := ((!g11) && g13)) (m := a0.t.length) rfl rfl (by cases g11 <;> cases g13 <;> rfl) rfl rfl (fun h => by cases g11 <;> cases g13 <;> first | rfl | exact absurd h (by decide)) (encs_length _) ?_
  refine AL.gv good (d := 38) (c := ((!g11) && g13)) (v := .bool (decide ((a0.t.length : Int) > 0))) (rd := []) rfl rfl (by cases g11 <;> cases g13 <;> rfl) (fun h => by cases g11 <;> cases g13 <;> first | rfl | exact absurd h (by decide)) ?_
  refine AL.gv good (d := 39) (c := (!g11)) (v := .bool (g13 && (decide ((a0.t.length : Int) > 0)))) (rd := []) rfl rfl (by cases g11 <;> cases g13 <;> rfl) (fun h => by cases g11 <;> cases g13 <;> first | rfl | exact absurd h (by decide)) ?_
  refine AL.v good (d := 40) (v := .bool (g11 || (g13 && (decide ((a0.t.length : Int) > 0))))) (rd := []) rfl rfl rfl (by cases g11 <;> rfl) ?_
  refine AL.v good (d := 2) (v := .bool (g11 || (g13 && (decide ((a0.t.length : Int) > 0))))) rfl rfl rfl rfl ?_
  subst h2 h4 h6 h8 h10 h12 h14
  refine AW.ret ?_
  obtain rfl := Option.some.inj hr
  exact RetQ.w good (.inr rfl) rfl rfl (Wv.refl _) (by simp [pureA, pureL, pureR, inA, inL, inR, inO, idsIn, encs_pure, enxs_pure, enys_pure, valC_pure, exC_pure, tyC_pure, r_int_u8_pure, r_st_GInst_pure, r_sl_st_GInst_pure, r_st_GMiss_pure])

mutual
def s_f84 : Nat → Val → Int → Option Int
  | 0, _, _ => none
  | n + 1, a0, a1 => (bif ((decide (a0.kind < 1)) || (decide (a0.kind > 4))) then some 5 else ((s_f119 n a0).bind fun q4 => (bif q4 then some 2 else (bif (decide ((a0.s.size : Int) > 255)) then some 4 else (bif (a0.kind != 4) then some 0 else ((s_f118 n (a0.t.length : Int) a1).bind fun q9 => (s_f84_l1 n a0 a1 q9 0)))))))
def s_f84_l1 : Nat → Val → Int → Int → Int → Option Int
  | 0, _, _, _, _ => none
  | n + 1, a0, a1, v1_1, v1_2 => (bif ((decide (v1_2 < (a0.t.length : Int))) && (v1_1 == 0)) then (if 0 ≤ v1_2 then ((a0.t[v1_2.toNat]?).bind fun x22 => ((s_f84 n x22 (IntKind.i64.wrap (a1 + 1))).bind fun q25 => (s_f84_l1 n a0 a1 q25 (IntKind.i64.wrap (v1_2 + 1))))) else none) else some v1_1)
end

theorem w_f84_a (n : Nat) (ih : ∀ (m : Nat) (a0 : Val) (a1 : Int) (r : Int), s_f84 m a0 a1 = some r → m < n → ACall Try.prog 84 [.agg (valC a0), .int .i64 a1] (.int .i64 r)) (a0 : Val) (a1 : Int) (r : Int) (hr : s_f84 n a0 a1 = some r) : ACall Try.prog 84 [.agg (valC a0), .int .i64 a1] (.int .i64 r) := by
  refine ACall.go [(0, .agg (valC a0)), (1, .int .i64 a1)] Try.func84 rfl Try.ntmps84 rfl rfl (by simp [pureA, pureL, pureR, inA, inL, inR, inO, idsIn, encs_pure, enxs_pure, enys_pure, valC_pure, exC_pure, tyC_pure, r_int_u8_pure, r_st_GInst_pure, r_sl_st_GInst_pure, r_st_GMiss_pure]) ?_
  cases n with
  | zero => rw [s_f84] at hr; cases hr
  | succ n =>
    rw [s_f84] at hr
    refine AW.seq ?_
    refine AW.region (M := fun _ => true) ?_
    refine AL.bx good (d := 2) (l := [.int .i64 a0.kind, .int .i64 a0.i, .bool a0.b, .str a0.s, .sl .ro 5 (encs a0.t)]) rfl rfl rfl rfl rfl rfl 0 rfl ?_
    refine AL.v good (d := 4) (v := .int .i64 0) rfl rfl rfl rfl ?_
    refine AW.seq ?_
    refine AW.block ?_
    refine AW.seq ?_
    refine AW.region (M := fun _ => true) ?_
    refine AL.v good (d := 8) (v := .ptr 0 0) rfl rfl rfl rfl ?_
    refine AL.v good (d := 9) (v := .int .i64 a0.kind) rfl rfl rfl rfl ?_
    refine AL.v good (d := 10) (v := .bool (decide (a0.kind < 1))) rfl rfl rfl rfl ?_
    refine AL.vb good (d := 11) (b := (decide (a0.kind < 1))) rfl rfl rfl rfl (fun g1 h2 => ?_)
    refine AL.gv good (d := 12) (c := (!g1)) (v := .ptr 0 0) (rd := []) rfl rfl (by cases g1 <;> rfl) (fun h => by cases g1 <;> first | rfl | exact absurd h (by decide)) ?_
    refine AL.gv good (d := 13) (c := (!g1)) (v := .int .i64 a0.kind) (rd := [(0, .box 24 [.int .i64 a0.kind, .int .i64 a0.i, .bool a0.b, .str a0.s, .sl .ro 5 (encs a0.t)])]) rfl rfl (by cases g1 <;> rfl) (fun h => by cases g1 <;> first | rfl | exact absurd h (by decide)) ?_
    refine AL.gv good (d := 14) (c := (!g1)) (v := .bool (decide (a0.kind > 4))) (rd := []) rfl rfl (by cases g1 <;> rfl) (fun h => by cases g1 <;> first | rfl | exact absurd h (by decide)) ?_
    refine AL.v good (d := 15) (v := .bool (g1 || (decide (a0.kind > 4)))) (rd := []) rfl rfl rfl (by cases g1 <;> rfl) ?_
    refine AL.v good (d := 7) (v := .bool (g1 || (decide (a0.kind > 4)))) rfl rfl rfl rfl ?_
    subst h2
    refine AW.if rfl (fun h3 => ?_) (fun h3 => ?_)
    · replace hr := cnd_t h3 hr
      refine AW.seq ?_
      refine AW.region (M := fun _ => true) ?_
      refine AL.v good (d := 4) (v := .int .i64 5) rfl rfl rfl rfl ?_
      refine AW.ret ?_
      obtain rfl := Option.some.inj hr
      exact RetQ.w good (.inr rfl) rfl rfl (Wv.refl _) (by simp [pureA, pureL, pureR, inA, inL, inR, inO, idsIn, encs_pure, enxs_pure, enys_pure, valC_pure, exC_pure, tyC_pure, r_int_u8_pure, r_st_GInst_pure, r_sl_st_GInst_pure, r_st_GMiss_pure])
    · replace hr := cnd_f h3 hr
      refine AW.seq ?_
      refine AW.region (M := fun _ => true) ?_
      refine AL.v good (d := 17) (v := .agg [.int .i64 a0.kind, .int .i64 a0.i, .bool a0.b, .str a0.s, .sl .ro 5 (encs a0.t)]) rfl rfl rfl rfl ?_
      obtain ⟨q4, h5, hr⟩ := bnd1 hr
      refine AL.cw good (d := 18) (xs := [.agg (valC a0)]) (res := .bool q4) rfl rfl rfl rfl rfl rfl rfl (w_f119 _ _ _ h5) ⟨(Wv.refl _), trivial⟩ (by simp [pureA, pureL, pureR, inA, inL, inR, inO, idsIn, encs_pure, enxs_pure, enys_pure, valC_pure, exC_pure, tyC_pure, r_int_u8_pure, r_st_GInst_pure, r_sl_st_GInst_pure, r_st_GMiss_pure]) ?_
      refine AL.v good (d := 16) (v := .bool q4) rfl rfl rfl rfl ?_
      refine AW.if rfl (fun h6 => ?_) (fun h6 => ?_)
      · replace hr := cnd_t h6 hr
        refine AW.seq ?_
        refine AW.region (M := fun _ => true) ?_
        refine AL.v good (d := 4) (v := .int .i64 2) rfl rfl rfl rfl ?_
        refine AW.ret ?_
        obtain rfl := Option.some.inj hr
        exact RetQ.w good (.inr rfl) rfl rfl (Wv.refl _) (by simp [pureA, pureL, pureR, inA, inL, inR, inO, idsIn, encs_pure, enxs_pure, enys_pure, valC_pure, exC_pure, tyC_pure, r_int_u8_pure, r_st_GInst_pure, r_sl_st_GInst_pure, r_st_GMiss_pure])
      · replace hr := cnd_f h6 hr
        refine AW.seq ?_
        refine AW.region (M := fun _ => true) ?_
        refine AL.v good (d := 20) (v := .ptr 0 3) rfl rfl rfl rfl ?_
        refine AL.v good (d := 21) (v := .str a0.s) rfl rfl rfl rfl ?_
        refine AL.v good (d := 22) (v := .int .i64 (a0.s.size : Int)) rfl rfl rfl rfl ?_
        refine AL.v good (d := 23) (v := .bool (decide ((a0.s.size : Int) > 255))) rfl rfl rfl rfl ?_
        refine AL.v good (d := 19) (v := .bool (decide ((a0.s.size : Int) > 255))) rfl rfl rfl rfl ?_
        refine AW.if rfl (fun h7 => ?_) (fun h7 => ?_)
        · replace hr := cnd_t h7 hr
          refine AW.seq ?_
          refine AW.region (M := fun _ => true) ?_
          refine AL.v good (d := 4) (v := .int .i64 4) rfl rfl rfl rfl ?_
          refine AW.ret ?_
          obtain rfl := Option.some.inj hr
          exact RetQ.w good (.inr rfl) rfl rfl (Wv.refl _) (by simp [pureA, pureL, pureR, inA, inL, inR, inO, idsIn, encs_pure, enxs_pure, enys_pure, valC_pure, exC_pure, tyC_pure, r_int_u8_pure, r_st_GInst_pure, r_sl_st_GInst_pure, r_st_GMiss_pure])
        · replace hr := cnd_f h7 hr
          refine AW.seq ?_
          refine AW.region (M := fun _ => true) ?_
          refine AL.v good (d := 25) (v := .ptr 0 0) rfl rfl rfl rfl ?_
          refine AL.v good (d := 26) (v := .int .i64 a0.kind) rfl rfl rfl rfl ?_
          refine AL.v good (d := 27) (v := .bool (a0.kind != 4)) rfl rfl rfl rfl ?_
          refine AL.v good (d := 24) (v := .bool (a0.kind != 4)) rfl rfl rfl rfl ?_
          refine AW.if rfl (fun h8 => ?_) (fun h8 => ?_)
          · replace hr := cnd_t h8 hr
            refine AW.seq ?_
            refine AW.region (M := fun _ => true) ?_
            refine AL.v good (d := 4) (v := .int .i64 0) rfl rfl rfl rfl ?_
            refine AW.ret ?_
            obtain rfl := Option.some.inj hr
            exact RetQ.w good (.inr rfl) rfl rfl (Wv.refl _) (by simp [pureA, pureL, pureR, inA, inL, inR, inO, idsIn, encs_pure, enxs_pure, enys_pure, valC_pure, exC_pure, tyC_pure, r_int_u8_pure, r_st_GInst_pure, r_sl_st_GInst_pure, r_st_GMiss_pure])
          · replace hr := cnd_f h8 hr
            refine AW.skip ?_
            refine AW.seq ?_
            refine AW.region (M := fun _ => true) ?_
            refine AL.v good (d := 28) (v := .ptr 0 4) rfl rfl rfl rfl ?_
            refine AL.v good (d := 29) (v := .sl .ro 5 (encs a0.t)) rfl rfl rfl rfl ?_
            refine AL.ln good (d := 30) (m := a0.t.length) rfl rfl rfl rfl rfl rfl (encs_length _) ?_
            refine AL.v good (d := 31) (v := .int .i64 a1) rfl rfl rfl rfl ?_
            obtain ⟨q9, h10, hr⟩ := bnd1 hr
            refine AL.cw good (d := 32) (xs := [.int .i64 (a0.t.length : Int), .int .i64 a1]) (res := .int .i64 q9) rfl rfl rfl rfl rfl rfl rfl (w_f118 _ _ _ _ h10) ⟨(Wv.refl _), (Wv.refl _), trivial⟩ (by simp [pureA, pureL, pureR, inA, inL, inR, inO, idsIn, encs_pure, enxs_pure, enys_pure, valC_pure, exC_pure, tyC_pure, r_int_u8_pure, r_st_GInst_pure, r_sl_st_GInst_pure, r_st_GMiss_pure]) ?_
            refine AL.v good (d := 5) (v := .int .i64 q9) rfl rfl rfl rfl ?_
            refine AW.seq ?_
            refine AW.seq ?_
            refine AW.region (M := fun _ => true) ?_
            refine AL.v good (d := 6) (v := .int .i64 0) rfl rfl rfl rfl ?_
            refine AW.block ?_
            refine AW.lpw (fun x : Nat × Int × Int => [(1, .int .i64 a1), (2, .ptr 0 0), (5, .int .i64 x.2.1), (6, .int .i64 x.2.2)]) (fun x => [(0, .box 24 [.int .i64 a0.kind, .int .i64 a0.i, .bool a0.b, .str a0.s, .sl .ro 5 (encs a0.t)])]) (fun x => s_f84_l1 x.1 a0 a1 x.2.1 x.2.2 = some r ∧ x.1 ≤ n) (fun x => x.1) (n, q9, 0) ⟨(fun _ h => by cases h), List.forall_mem_cons.2 ⟨⟨⟨_, rfl, Wv.refl _⟩, (by simp [pureA, pureL, pureR, inA, inL, inR, inO, idsIn, encs_pure, enxs_pure, enys_pure, valC_pure, exC_pure, tyC_pure, r_int_u8_pure, r_st_GInst_pure, r_sl_st_GInst_pure, r_st_GMiss_pure])⟩, List.forall_mem_cons.2 ⟨⟨⟨_, rfl, Wv.refl _⟩, (by simp [pureA, pureL, pureR, inA, inL, inR, inO, idsIn, encs_pure, enxs_pure, enys_pure, valC_pure, exC_pure, tyC_pure, r_int_u8_pure, r_st_GInst_pure, r_sl_st_GInst_pure, r_st_GMiss_pure])⟩, List.forall_mem_cons.2 ⟨⟨⟨_, rfl, Wv.refl _⟩, (by simp [pureA, pureL, pureR, inA, inL, inR, inO, idsIn, encs_pure, enxs_pure, enys_pure, valC_pure, exC_pure, tyC_pure, r_int_u8_pure, r_st_GInst_pure, r_sl_st_GInst_pure, r_st_GMiss_pure])⟩, List.forall_mem_cons.2 ⟨⟨⟨_, rfl, Wv.refl _⟩, (by simp [pureA, pureL, pureR, inA, inL, inR, inO, idsIn, encs_pure, enxs_pure, enys_pure, valC_pure, exC_pure, tyC_pure, r_int_u8_pure, r_st_GInst_pure, r_sl_st_GInst_pure, r_st_GMiss_pure])⟩, (fun _ h => by cases h)⟩⟩⟩⟩, List.forall_mem_cons.2 ⟨⟨⟨_, rfl, ⟨rfl, ⟨Wv.refl _, Wv.refl _, Wv.refl _, Wv.refl _, Wv.refl _, trivial⟩⟩⟩, (by simp [pureA, pureL, pureR, inA, inL, inR, inO, idsIn, encs_pure, enxs_pure, enys_pure, valC_pure, exC_pure, tyC_pure, r_int_u8_pure, r_st_GInst_pure, r_sl_st_GInst_pure, r_st_GMiss_pure])⟩, (fun _ h => by cases h)⟩⟩ ⟨hr, Nat.le_refl _⟩ (fun ⟨m, v1_1, v1_2⟩ hx => ?_)
            obtain ⟨hr, hm⟩ := hx
            try dsimp only at hr hm
            cases m with
            | zero => rw [s_f84_l1] at hr; cases hr
            | succ m =>
              rw [s_f84_l1] at hr
              show AW Try.prog _ _ _ (mkS 53 [(1, .int .i64 a1), (2, .ptr 0 0), (5, .int .i64 v1_1), (6, .int .i64 v1_2)] [(0, .box 24 [.int .i64 a0.kind, .int .i64 a0.i, .bool a0.b, .str a0.s, .sl .ro 5 (encs a0.t)])])
              refine AW.seq ?_
              refine AW.seq ?_
              refine AW.region (M := fun _ => true) ?_
              refine AL.v good (d := 33) (v := .int .i64 v1_2) rfl rfl rfl rfl ?_
              refine AL.v good (d := 34) (v := .ptr 0 4) rfl rfl rfl rfl ?_
              refine AL.v good (d := 35) (v := .sl .ro 5 (encs a0.t)) rfl rfl rfl rfl ?_
              refine AL.ln good (d := 36) (m := a0.t.length) rfl rfl rfl rfl rfl rfl (encs_length _) ?_
              refine AL.v good (d := 37) (v := .bool (decide (v1_2 < (a0.t.length : Int)))) rfl rfl rfl rfl ?_
              refine AL.vb good (d := 38) (b := (decide (v1_2 < (a0.t.length : Int)))) rfl rfl rfl rfl (fun g19 h20 => ?_)
              refine AL.gv good (d := 39) (c := g19) (v := .int .i64 v1_1) (rd := []) rfl rfl (by cases g19 <;> rfl) (fun h => by cases g19 <;> first | rfl | exact absurd h (by decide)) ?_
              refine AL.gv good (d := 40) (c := g19) (v := .bool (v1_1 == 0)) (rd := []) rfl rfl (by cases g19 <;> rfl) (fun h => by cases g19 <;> first | rfl | exact absurd h (by decide)) ?_
              refine AL.v good (d := 41) (v := .bool (g19 && (v1_1 == 0))) (rd := []) rfl rfl rfl (by cases g19 <;> rfl) ?_
              subst h20
              refine AW.if rfl (fun h21 => ?_) (fun h21 => ?_)
              · replace hr := cnd_t h21 hr
                refine AW.skip ?_
                refine AW.seq ?_
                refine AW.block ?_
                refine AW.region (M := fun _ => true) ?_
                refine AL.v good (d := 44) (v := .ptr 0 4) rfl rfl rfl rfl ?_
                refine AL.v good (d := 45) (v := .sl .ro 5 (encs a0.t)) rfl rfl rfl rfl ?_
                refine AL.v good (d := 46) (v := .int .i64 v1_2) rfl rfl rfl rfl ?_
                obtain ⟨h24, hr⟩ := grd hr
                obtain ⟨x22, h23, hr⟩ := bnd1 hr
                refine AL.ix good (d := 47) (r := [.int .i64 x22.kind, .int .i64 x22.i, .bool x22.b, .str x22.s, .sl .ro 5 (encs x22.t)]) rfl rfl rfl rfl rfl rfl rfl h24 (encs_get h23) ?_
                refine AL.v good (d := 48) (v := .agg [.int .i64 x22.kind, .int .i64 x22.i, .bool x22.b, .str x22.s, .sl .ro 5 (encs x22.t)]) rfl rfl rfl rfl ?_
                refine AL.v good (d := 49) (v := .int .i64 a1) rfl rfl rfl rfl ?_
                refine AL.v good (d := 50) (v := .int .i64 (IntKind.i64.wrap (a1 + 1))) rfl rfl rfl rfl ?_
                obtain ⟨q25, h26, hr⟩ := bnd1 hr
                refine AL.cw good (d := 51) (xs := [.agg (valC x22), .int .i64 (IntKind.i64.wrap (a1 + 1))]) (res := .int .i64 q25) rfl rfl rfl rfl rfl rfl rfl (ih _ _ _ _ h26 (by omega)) ⟨(Wv.refl _), (Wv.refl _), trivial⟩ (by simp [pureA, pureL, pureR, inA, inL, inR, inO, idsIn, encs_pure, enxs_pure, enys_pure, valC_pure, exC_pure, tyC_pure, r_int_u8_pure, r_st_GInst_pure, r_sl_st_GInst_pure, r_st_GMiss_pure]) ?_
                refine AL.v good (d := 5) (v := .int .i64 q25) rfl rfl rfl rfl ?_
                refine AW.region (M := fun _ => true) ?_
                refine AL.v good (d := 42) (v := .int .i64 v1_2) rfl rfl rfl rfl ?_
                refine AL.v good (d := 43) (v := .int .i64 (IntKind.i64.wrap (v1_2 + 1))) rfl rfl rfl rfl ?_
                refine AL.v good (d := 6) (v := .int .i64 (IntKind.i64.wrap (v1_2 + 1))) rfl rfl rfl rfl ?_
                exact ⟨(m, q25, (IntKind.i64.wrap (v1_2 + 1))), _, _, rfl, ⟨(fun _ h => by cases h), List.forall_mem_cons.2 ⟨⟨⟨_, rfl, Wv.refl _⟩, (by simp [pureA, pureL, pureR, inA, inL, inR, inO, idsIn, encs_pure, enxs_pure, enys_pure, valC_pure, exC_pure, tyC_pure, r_int_u8_pure, r_st_GInst_pure, r_sl_st_GInst_pure, r_st_GMiss_pure])⟩, List.forall_mem_cons.2 ⟨⟨⟨_, rfl, Wv.refl _⟩, (by simp [pureA, pureL, pureR, inA, inL, inR, inO, idsIn, encs_pure, enxs_pure, enys_pure, valC_pure, exC_pure, tyC_pure, r_int_u8_pure, r_st_GInst_pure, r_sl_st_GInst_pure, r_st_GMiss_pure])⟩, List.forall_mem_cons.2 ⟨⟨⟨_, rfl, Wv.refl _⟩, (by simp [pureA, pureL, pureR, inA, inL, inR, inO, idsIn, encs_pure, enxs_pure, enys_pure, valC_pure, exC_pure, tyC_pure, r_int_u8_pure, r_st_GInst_pure, r_sl_st_GInst_pure, r_st_GMiss_pure])⟩, List.forall_mem_cons.2 ⟨⟨⟨_, rfl, Wv.refl _⟩, (by simp [pureA, pureL, pureR, inA, inL, inR, inO, idsIn, encs_pure, enxs_pure, enys_pure, valC_pure, exC_pure, tyC_pure, r_int_u8_pure, r_st_GInst_pure, r_sl_st_GInst_pure, r_st_GMiss_pure])⟩, (fun _ h => by cases h)⟩⟩⟩⟩, List.forall_mem_cons.2 ⟨⟨⟨_, rfl, ⟨rfl, ⟨Wv.refl _, Wv.refl _, Wv.refl _, Wv.refl _, Wv.refl _, trivial⟩⟩⟩, (by simp [pureA, pureL, pureR, inA, inL, inR, inO, idsIn, encs_pure, enxs_pure, enys_pure, valC_pure, exC_pure, tyC_pure, r_int_u8_pure, r_st_GInst_pure, r_sl_st_GInst_pure, r_st_GMiss_pure])⟩, (fun _ h => by cases h)⟩⟩, ⟨hr, Nat.le_of_succ_le hm⟩, Nat.lt_succ_self _⟩
              · replace hr := cnd_f h21 hr
                refine AW.exit ?_
                refine AW.seq ?_
                refine AW.region (M := fun _ => true) ?_
                refine AL.v good (d := 52) (v := .int .i64 v1_1) rfl rfl rfl rfl ?_
                refine AL.v good (d := 4) (v := .int .i64 v1_1) rfl rfl rfl rfl ?_
                refine AW.ret ?_
                obtain rfl := Option.some.inj hr
                exact RetQ.w good (.inr rfl) rfl rfl (Wv.refl _) (by simp [pureA, pureL, pureR, inA, inL, inR, inO, idsIn, encs_pure, enxs_pure, enys_pure, valC_pure, exC_pure, tyC_pure, r_int_u8_pure, r_st_GInst_pure, r_sl_st_GInst_pure, r_st_GMiss_pure])
theorem w_f84 (n : Nat) : ∀ (a0 : Val) (a1 : Int) (r : Int) (hr : s_f84 n a0 a1 = some r), ACall Try.prog 84 [.agg (valC a0), .int .i64 a1] (.int .i64 r) := by
  induction n using Nat.strongRecOn with
  | _ n ih =>
    intro a0 a1 r hr
    exact w_f84_a n (fun m a0 a1 r h hm => ih m hm a0 a1 r h) a0 a1 r hr

def s_f50 (n : Nat) (a0 : Val) : Option Int :=
  ((s_f84 n a0 0).bind fun q1 => some q1)

theorem w_f50 (n : Nat) (a0 : Val) (r : Int) (hr : s_f50 n a0 = some r) : ACall Try.prog 50 [.agg (valC a0)] (.int .i64 r) := by
  refine ACall.go [(0, .agg (valC a0))] Try.func50 rfl Try.ntmps50 rfl rfl (by simp [pureA, pureL, pureR, inA, inL, inR, inO, idsIn, encs_pure, enxs_pure, enys_pure, valC_pure, exC_pure, tyC_pure, r_int_u8_pure, r_st_GInst_pure, r_sl_st_GInst_pure, r_st_GMiss_pure]) ?_
  rw [s_f50] at hr
  refine AW.seq ?_
  refine AW.region (M := fun _ => true) ?_
  refine AL.bx good (d := 1) (l := [.int .i64 a0.kind, .int .i64 a0.i, .bool a0.b, .str a0.s, .sl .ro 5 (encs a0.t)]) rfl rfl rfl rfl rfl rfl 0 rfl ?_
  refine AL.v good (d := 2) (v := .int .i64 0) rfl rfl rfl rfl ?_
  refine AW.seq ?_
  refine AW.region (M := fun _ => true) ?_
  refine AL.v good (d := 3) (v := .agg [.int .i64 a0.kind, .int .i64 a0.i, .bool a0.b, .str a0.s, .sl .ro 5 (encs a0.t)]) rfl rfl rfl rfl ?_
  obtain ⟨q1, h2, hr⟩ := bnd1 hr
  refine AL.cw good (d := 4) (xs := [.agg (valC a0), .int .i64 0]) (res := .int .i64 q1) rfl rfl rfl rfl rfl rfl rfl (w_f84 _ _ _ _ h2) ⟨(Wv.refl _), (Wv.refl _), trivial⟩ (by simp [pureA, pureL, pureR, inA, inL, inR, inO, idsIn, encs_pure, enxs_pure, enys_pure, valC_pure, exC_pure, tyC_pure, r_int_u8_pure, r_st_GInst_pure, r_sl_st_GInst_pure, r_st_GMiss_pure]) ?_
  refine AL.v good (d := 2) (v := .int .i64 q1) rfl rfl rfl rfl ?_
  refine AW.ret ?_
  obtain rfl := Option.some.inj hr
  exact RetQ.w good (.inr rfl) rfl rfl (Wv.refl _) (by simp [pureA, pureL, pureR, inA, inL, inR, inO, idsIn, encs_pure, enxs_pure, enys_pure, valC_pure, exC_pure, tyC_pure, r_int_u8_pure, r_st_GInst_pure, r_sl_st_GInst_pure, r_st_GMiss_pure])

mutual
def s_f14_l4 : Nat → (List Val) → (List Int) → Bool → Int → Int → (List GInst) → Int → Int → Option Bool
  | 0, _, _, _, _, _, _, _, _ => none
  | n + 1, a0, a1, q1, v1_2, v1_3, v4_1, v4_2, v4_3 => (bif (decide (v4_3 < (IntKind.i64.wrap ((a0.length : Int) - v1_2)))) then (if 0 ≤ v4_2 then ((a0[v4_2.toNat]?).bind fun x129 => (bif (decide ((x129.t.length : Int) > 0)) then some true else (if 0 ≤ v4_2 then ((a0[v4_2.toNat]?).bind fun x133 => ((s_f50 n x133).bind fun q136 => (bif (q136 != 0) then some true else (if 0 ≤ v4_2 then ((a0[v4_2.toNat]?).bind fun x139 => ((a0[0]?).bind fun x142 => (bif (x139.kind != x142.kind) then some true else (if 0 ≤ v4_2 then ((a0[v4_2.toNat]?).bind fun x145 => (if v4_1.length + 1 ≤ 1000000 then (s_f14_l4 n a0 a1 q1 v1_2 v1_3 (v4_1 ++ [(GInst.mk ⟨#[112, 117, 115, 104]⟩ x145 0)]) (IntKind.i64.wrap (v4_2 + 1)) (IntKind.i64.wrap (v4_3 + 1))) else none)) else none)))) else none)))) else none))) else none) else (if v4_1.length + 1 ≤ 1000000 then (s_f14_l1 n a0 a1 q1 (v4_1 ++ [(GInst.mk ⟨#[101, 109, 105, 116]⟩ (Val.mk 0 0 false ⟨#[]⟩ []) (IntKind.i64.wrap ((a0.length : Int) - v1_2)))]) v4_2 (IntKind.i64.wrap (v1_3 + 1))) else none))
def s_f14_l5 : Nat → (List Val) → (List Int) → Bool → Int → Int → (List GInst) → Int → Int → Option Bool
  | 0, _, _, _, _, _, _, _, _ => none
  | n + 1, a0, a1, q1, v1_3, x103, v5_1, v5_2, v5_3 => (bif (decide (v5_3 < (IntKind.i64.wrap (1 + (IntKind.i64.wrap ((x103.tmod 4))))))) then (if 0 ≤ v5_2 then ((a0[v5_2.toNat]?).bind fun x172 => (bif (decide ((x172.t.length : Int) > 0)) then some true else (if 0 ≤ v5_2 then ((a0[v5_2.toNat]?).bind fun x176 => ((s_f50 n x176).bind fun q179 => (bif (q179 != 0) then some true else (if 0 ≤ v5_2 then ((a0[v5_2.toNat]?).bind fun x182 => ((a0[0]?).bind fun x185 => (bif (x182.kind != x185.kind) then some true else (if 0 ≤ v5_2 then ((a0[v5_2.toNat]?).bind fun x188 => (if v5_1.length + 1 ≤ 1000000 then (s_f14_l5 n a0 a1 q1 v1_3 x103 (v5_1 ++ [(GInst.mk ⟨#[112, 117, 115, 104]⟩ x188 0)]) (IntKind.i64.wrap (v5_2 + 1)) (IntKind.i64.wrap (v5_3 + 1))) else none)) else none)))) else none)))) else none))) else none) else (if v5_1.length + 1 ≤ 1000000 then (s_f14_l1 n a0 a1 q1 (v5_1 ++ [(GInst.mk ⟨#[101, 109, 105, 116]⟩ (Val.mk 0 0 false ⟨#[]⟩ []) (IntKind.i64.wrap (1 + (IntKind.i64.wrap ((x103.tmod 4))))))]) v5_2 (IntKind.i64.wrap (v1_3 + 1))) else none))
def s_f14_l6 : Nat → (List Val) → Int → (List Val × Int) → Int → Option Bool
  | 0, _, _, _, _ => none
  | n + 1, a0, v1_2, q194, v6_1 => (bif (decide (v6_1 < v1_2)) then (if 0 ≤ v6_1 then ((q194.1[v6_1.toNat]?).bind fun x208 => (if 0 ≤ v6_1 then ((a0[v6_1.toNat]?).bind fun x211 => (bif (!(cmpV x208 x211 == 0)) then some false else (s_f14_l6 n a0 v1_2 q194 (IntKind.i64.wrap (v6_1 + 1))))) else none)) else none) else some true)
def s_f14_l1 : Nat → (List Val) → (List Int) → Bool → (List GInst) → Int → Int → Option Bool
  | 0, _, _, _, _, _, _ => none
  | n + 1, a0, a1, q1, v1_1, v1_2, v1_3 => (bif ((decide (v1_3 < (a1.length : Int))) && (decide (v1_2 < (a0.length : Int)))) then (if 0 ≤ v1_3 then ((a1[v1_3.toNat]?).bind fun x103 => (bif (decide ((IntKind.i64.wrap (1 + (IntKind.i64.wrap ((x103.tmod 4))))) > (IntKind.i64.wrap ((a0.length : Int) - v1_2)))) then (s_f14_l4 n a0 a1 q1 v1_2 v1_3 v1_1 v1_2 0) else (s_f14_l5 n a0 a1 q1 v1_3 x103 v1_1 v1_2 0))) else none) else (if v1_1.length + 1 ≤ 1000000 then ((s_f40 n (v1_1 ++ [(GInst.mk ⟨#[114, 101, 116]⟩ (Val.mk 0 0 false ⟨#[]⟩ []) 0)]) (Val.mk 1 0 false ⟨#[]⟩ [])).bind fun q194 => (bif ((q194.2 != 0) || ((q194.1.length : Int) != v1_2)) then some false else (s_f14_l6 n a0 v1_2 q194 0))) else none))
end
def s_f14 (n : Nat) (a0 : List Val) (a1 : List Int) : Option Bool :=
  ((s_f36 n).bind fun q1 => (bif (!q1) then some false else (bif ((decide ((a0.length : Int) > 30)) || (decide ((a1.length : Int) > 40))) then some true else (s_f14_l1 n a0 a1 q1 [] 0 0))))

theorem w_f14 (n : Nat) (a0 : List Val) (a1 : List Int) (r : Bool) (hr : s_f14 n a0 a1 = some r) : ACall Try.prog 14 [.sl .ro 5 (encs a0), .sl .ro 1 (r_int_u8 a1)] (.bool r) := by
  refine ACall.go [(0, .sl .ro 5 (encs a0)), (1, .sl .ro 1 (r_int_u8 a1))] Try.func14 rfl Try.ntmps14 rfl rfl (by simp [pureA, pureL, pureR, inA, inL, inR, inO, idsIn, encs_pure, enxs_pure, enys_pure, valC_pure, exC_pure, tyC_pure, r_int_u8_pure, r_st_GInst_pure, r_sl_st_GInst_pure, r_st_GMiss_pure]) ?_
  rw [s_f14] at hr
  refine AW.seq ?_
  refine AW.region (M := fun _ => true) ?_
  refine AL.v good (d := 4) (v := .bool false) rfl rfl rfl rfl ?_
  refine AW.seq ?_
  refine AW.seq ?_
  refine AW.region (M := fun _ => true) ?_
  obtain ⟨q1, h2, hr⟩ := bnd1 hr
  refine AL.cw good (d := 13) (xs := []) (res := .bool q1) rfl rfl rfl rfl rfl rfl rfl (w_f36 _ _ h2) trivial (by simp [pureA, pureL, pureR, inA, inL, inR, inO, idsIn, encs_pure, enxs_pure, enys_pure, valC_pure, exC_pure, tyC_pure, r_int_u8_pure, r_st_GInst_pure, r_sl_st_GInst_pure, r_st_GMiss_pure]) ?_
  refine AL.v good (d := 14) (v := .bool (!q1)) rfl rfl rfl rfl ?_
  refine AW.if rfl (fun h3 => ?_) (fun h3 => ?_)
  · replace hr := cnd_t h3 hr
    refine AW.seq ?_
    refine AW.region (M := fun _ => true) ?_
    refine AL.v good (d := 4) (v := .bool false) rfl rfl rfl rfl ?_
    refine AW.ret ?_
    obtain rfl := Option.some.inj hr
    exact RetQ.w good (.inr rfl) rfl rfl (Wv.refl _) (by simp [pureA, pureL, pureR, inA, inL, inR, inO, idsIn, encs_pure, enxs_pure, enys_pure, valC_pure, exC_pure, tyC_pure, r_int_u8_pure, r_st_GInst_pure, r_sl_st_GInst_pure, r_st_GMiss_pure])
  · replace hr := cnd_f h3 hr
    refine AW.skip ?_
    refine AW.seq ?_
    refine AW.seq ?_
    refine AW.region (M := fun _ => true) ?_
    refine AL.v good (d := 15) (v := .sl .ro 5 (encs a0)) rfl rfl rfl rfl ?_
    refine AL.ln good (d := 16) (m := a0.length) rfl rfl rfl rfl rfl rfl (encs_length _) ?_
    refine AL.v good (d := 17) (v := .bool (decide ((a0.length : Int) > 30))) rfl rfl rfl rfl ?_
    refine AL.vb good (d := 18) (b := (decide ((a0.length : Int) > 30))) rfl rfl rfl rfl (fun g4 h5 => ?_)
    refine AL.gv good (d := 19) (c := (!g4)) (v := .sl .ro 1 (r_int_u8 a1)) (rd := []) rfl rfl (by cases g4 <;> rfl) (fun h => by cases g4 <;> first | rfl | exact absurd h (by decide)) ?_
    refine AL.gln good (d := 20) (c := (!g4)) (m := a1.length) rfl rfl (by cases g4 <;> rfl) rfl rfl (fun h => by cases g4 <;> first | rfl | exact absurd h (by decide)) (r_int_u8_length _) ?_
    refine AL.gv good (d := 21) (c := (!g4)) (v := .bool (decide ((a1.length : Int) > 40))) (rd := []) rfl rfl (by cases g4 <;> rfl) (fun h => by cases g4 <;> first | rfl | exact absurd h (by decide)) ?_
    refine AL.v good (d := 22) (v := .bool (g4 || (decide ((a1.length : Int) > 40)))) (rd := []) rfl rfl rfl (by cases g4 <;> rfl) ?_
    subst h5
    refine AW.if rfl (fun h6 => ?_) (fun h6 => ?_)
    · replace hr := cnd_t h6 hr
      refine AW.seq ?_
      refine AW.region (M := fun _ => true) ?_
      refine AL.v good (d := 4) (v := .bool true) rfl rfl rfl rfl ?_
      refine AW.ret ?_
      obtain rfl := Option.some.inj hr
      exact RetQ.w good (.inr rfl) rfl rfl (Wv.refl _) (by simp [pureA, pureL, pureR, inA, inL, inR, inO, idsIn, encs_pure, enxs_pure, enys_pure, valC_pure, exC_pure, tyC_pure, r_int_u8_pure, r_st_GInst_pure, r_sl_st_GInst_pure, r_st_GMiss_pure])
    · replace hr := cnd_f h6 hr
      refine AW.skip ?_
      refine AW.seq ?_
      refine AW.region (M := fun _ => true) ?_
      refine AL.v good (d := 5) (v := .sl .nil 0 []) rfl rfl rfl rfl ?_
      refine AW.seq ?_
      refine AW.region (M := fun _ => true) ?_
      refine AL.v good (d := 6) (v := .int .i64 0) rfl rfl rfl rfl ?_
      refine AW.seq ?_
      refine AW.seq ?_
      refine AW.region (M := fun _ => true) ?_
      refine AL.v good (d := 7) (v := .int .i64 0) rfl rfl rfl rfl ?_
      refine AW.block ?_
      refine AW.adopt 5 rfl 0 7 109 rfl rfl ?_
      refine AW.lpw (fun x : Nat × (List GInst) × Int × Int => [(0, .sl .ro 5 (encs a0)), (1, .sl .ro 1 (r_int_u8 a1)), (5, .sl (.own 0) 7 (r_st_GInst x.2.1)), (6, .int .i64 x.2.2.1), (7, .int .i64 x.2.2.2)]) (fun x => [(0, .row 109 7 (r_st_GInst x.2.1).length)]) (fun x => s_f14_l1 x.1 a0 a1 q1 x.2.1 x.2.2.1 x.2.2.2 = some r ∧ x.1 ≤ n) (fun x => x.1) (n, [], 0, 0) ⟨(fun _ h => by cases h), List.forall_mem_cons.2 ⟨⟨⟨_, rfl, Wv.refl _⟩, (by simp [pureA, pureL, pureR, inA, inL, inR, inO, idsIn, encs_pure, enxs_pure, enys_pure, valC_pure, exC_pure, tyC_pure, r_int_u8_pure, r_st_GInst_pure, r_sl_st_GInst_pure, r_st_GMiss_pure])⟩, List.forall_mem_cons.2 ⟨⟨⟨_, rfl, Wv.refl _⟩, (by simp [pureA, pureL, pureR, inA, inL, inR, inO, idsIn, encs_pure, enxs_pure, enys_pure, valC_pure, exC_pure, tyC_pure, r_int_u8_pure, r_st_GInst_pure, r_sl_st_GInst_pure, r_st_GMiss_pure])⟩, List.forall_mem_cons.2 ⟨⟨⟨_, rfl, Wv.refl _⟩, (by simp [pureA, pureL, pureR, inA, inL, inR, inO, idsIn, encs_pure, enxs_pure, enys_pure, valC_pure, exC_pure, tyC_pure, r_int_u8_pure, r_st_GInst_pure, r_sl_st_GInst_pure, r_st_GMiss_pure])⟩, List.forall_mem_cons.2 ⟨⟨⟨_, rfl, Wv.refl _⟩, (by simp [pureA, pureL, pureR, inA, inL, inR, inO, idsIn, encs_pure, enxs_pure, enys_pure, valC_pure, exC_pure, tyC_pure, r_int_u8_pure, r_st_GInst_pure, r_sl_st_GInst_pure, r_st_GMiss_pure])⟩, List.forall_mem_cons.2 ⟨⟨⟨_, rfl, Wv.refl _⟩, (by simp [pureA, pureL, pureR, inA, inL, inR, inO, idsIn, encs_pure, enxs_pure, enys_pure, valC_pure, exC_pure, tyC_pure, r_int_u8_pure, r_st_GInst_pure, r_sl_st_GInst_pure, r_st_GMiss_pure])⟩, (fun _ h => by cases h)⟩⟩⟩⟩⟩, List.forall_mem_cons.2 ⟨⟨⟨_, rfl, ⟨rfl, rfl, rfl⟩⟩, (by simp [pureA, pureL, pureR, inA, inL, inR, inO, idsIn, encs_pure, enxs_pure, enys_pure, valC_pure, exC_pure, tyC_pure, r_int_u8_pure, r_st_GInst_pure, r_sl_st_GInst_pure, r_st_GMiss_pure])⟩, (fun _ h => by cases h)⟩⟩ ⟨hr, Nat.le_refl _⟩ (fun ⟨m, v1_1, v1_2, v1_3⟩ hx => ?_)
      obtain ⟨hr, hm⟩ := hx
      try dsimp only at hr hm
      cases m with
      | zero => rw [s_f14_l1] at hr; cases hr
      | succ m =>
        rw [s_f14_l1] at hr
        show AW Try.prog _ _ _ (mkS 132 [(0, .sl .ro 5 (encs a0)), (1, .sl .ro 1 (r_int_u8 a1)), (5, .sl (.own 0) 7 (r_st_GInst v1_1)), (6, .int .i64 v1_2), (7, .int .i64 v1_3)] [(0, .row 109 7 (r_st_GInst v1_1).length)])
        refine AW.seq ?_
        refine AW.seq ?_
        refine AW.region (M := fun _ => true) ?_
        refine AL.v good (d := 23) (v := .int .i64 v1_3) rfl rfl rfl rfl ?_
        refine AL.v good (d := 24) (v := .sl .ro 1 (r_int_u8 a1)) rfl rfl rfl rfl ?_
        refine AL.ln good (d := 25) (m := a1.length) rfl rfl rfl rfl rfl rfl (r_int_u8_length _) ?_
        refine AL.v good (d := 26) (v := .bool (decide (v1_3 < (a1.length : Int)))) rfl rfl rfl rfl ?_
        refine AL.vb good (d := 27) (b := (decide (v1_3 < (a1.length : Int)))) rfl rfl rfl rfl (fun g100 h101 => ?_)
        refine AL.gv good (d := 28) (c := g100) (v := .int .i64 v1_2) (rd := []) rfl rfl (by cases g100 <;> rfl) (fun h => by cases g100 <;> first | rfl | exact absurd h (by decide)) ?_
        refine AL.gv good (d := 29) (c := g100) (v := .sl .ro 5 (encs a0)) (rd := []) rfl rfl (by cases g100 <;> rfl) (fun h => by cases g100 <;> first | rfl | exact absurd h (by decide)) ?_
        refine AL.gln good (d := 30) (c := g100) (m := a0.length) rfl rfl (by cases g100 <;> rfl) rfl rfl (fun h => by cases g100 <;> first | rfl | exact absurd h (by decide)) (encs_length _) ?_
        refine AL.gv good (d := 31) (c := g100) (v := .bool (decide (v1_2 < (a0.length : Int)))) (rd := []) rfl rfl (by cases g100 <;> rfl) (fun h => by cases g100 <;> first | rfl | exact absurd h (by decide)) ?_
        refine AL.v good (d := 32) (v := .bool (g100 && (decide (v1_2 < (a0.length : Int))))) (rd := []) rfl rfl rfl (by cases g100 <;> rfl) ?_
        subst h101
        refine AW.if rfl (fun h102 => ?_) (fun h102 => ?_)
        · replace hr := cnd_t h102 hr
          refine AW.skip ?_
          refine AW.seq ?_
          refine AW.block ?_
          refine AW.seq ?_
          refine AW.region (M := fun _ => true) ?_
          refine AL.v good (d := 35) (v := .sl .ro 1 (r_int_u8 a1)) rfl rfl rfl rfl ?_
          refine AL.v good (d := 36) (v := .int .i64 v1_3) rfl rfl rfl rfl ?_
          obtain ⟨h105, hr⟩ := grd hr
          obtain ⟨x103, h104, hr⟩ := bnd1 hr
          refine AL.ix good (d := 37) (r := [.int .u8 x103]) rfl rfl rfl rfl rfl rfl rfl h105 (r_int_u8_get h104) ?_
          refine AL.v good (d := 38) (v := .int .u8 x103) rfl rfl rfl rfl ?_
          refine AL.v good (d := 39) (v := .int .u8 (x103.tmod 4)) rfl rfl rfl rfl ?_
          refine AL.v good (d := 40) (v := .int .i64 (IntKind.i64.wrap ((x103.tmod 4)))) rfl rfl rfl rfl ?_
          refine AL.v good (d := 41) (v := .int .i64 (IntKind.i64.wrap (1 + (IntKind.i64.wrap ((x103.tmod 4)))))) rfl rfl rfl rfl ?_
          refine AL.v good (d := 8) (v := .int .i64 (IntKind.i64.wrap (1 + (IntKind.i64.wrap ((x103.tmod 4)))))) rfl rfl rfl rfl ?_
          refine AW.seq ?_
          refine AW.seq ?_
          refine AW.region (M := fun _ => true) ?_
          refine AL.v good (d := 42) (v := .int .i64 (IntKind.i64.wrap (1 + (IntKind.i64.wrap ((x103.tmod 4)))))) rfl rfl rfl rfl ?_
          refine AL.v good (d := 43) (v := .sl .ro 5 (encs a0)) rfl rfl rfl rfl ?_
          refine AL.ln good (d := 44) (m := a0.length) rfl rfl rfl rfl rfl rfl (encs_length _) ?_
          refine AL.v good (d := 45) (v := .int .i64 v1_2) rfl rfl rfl rfl ?_
          refine AL.v good (d := 46) (v := .int .i64 (IntKind.i64.wrap ((a0.length : Int) - v1_2))) rfl rfl rfl rfl ?_
          refine AL.v good (d := 47) (v := .bool (decide ((IntKind.i64.wrap (1 + (IntKind.i64.wrap ((x103.tmod 4))))) > (IntKind.i64.wrap ((a0.length : Int) - v1_2))))) rfl rfl rfl rfl ?_
          refine AW.if rfl (fun h106 => ?_) (fun h106 => ?_)
          · replace hr := cnd_t h106 hr
            refine AW.region (M := fun _ => true) ?_
            refine AL.v good (d := 48) (v := .sl .ro 5 (encs a0)) rfl rfl rfl rfl ?_
            refine AL.ln good (d := 49) (m := a0.length) rfl rfl rfl rfl rfl rfl (encs_length _) ?_
            refine AL.v good (d := 50) (v := .int .i64 v1_2) rfl rfl rfl rfl ?_
            refine AL.v good (d := 51) (v := .int .i64 (IntKind.i64.wrap ((a0.length : Int) - v1_2))) rfl rfl rfl rfl ?_
            refine AL.v good (d := 8) (v := .int .i64 (IntKind.i64.wrap ((a0.length : Int) - v1_2))) rfl rfl rfl rfl ?_
            refine AW.seq ?_
            refine AW.seq ?_
            refine AW.region (M := fun _ => true) ?_
            refine AL.v good (d := 9) (v := .int .i64 0) rfl rfl rfl rfl ?_
            refine AW.block ?_
            refine AW.lpw (fun x : Nat × (List GInst) × Int × Int => [(0, .sl .ro 5 (encs a0)), (1, .sl .ro 1 (r_int_u8 a1)), (5, .sl (.own 0) 7 (r_st_GInst x.2.1)), (6, .int .i64 x.2.2.1), (7, .int .i64 v1_3), (8, .int .i64 (IntKind.i64.wrap ((a0.length : Int) - v1_2))), (9, .int .i64 x.2.2.2)]) (fun x => [(0, .row 109 7 (r_st_GInst x.2.1).length)]) (fun x => s_f14_l4 x.1 a0 a1 q1 v1_2 v1_3 x.2.1 x.2.2.1 x.2.2.2 = some r ∧ x.1 ≤ m) (fun x => x.1) (m, v1_1, v1_2, 0) ⟨(fun _ h => by cases h), List.forall_mem_cons.2 ⟨⟨⟨_, rfl, Wv.refl _⟩, (by simp [pureA, pureL, pureR, inA, inL, inR, inO, idsIn, encs_pure, enxs_pure, enys_pure, valC_pure, exC_pure, tyC_pure, r_int_u8_pure, r_st_GInst_pure, r_sl_st_GInst_pure, r_st_GMiss_pure])⟩, List.forall_mem_cons.2 ⟨⟨⟨_, rfl, Wv.refl _⟩, (by simp [pureA, pureL, pureR, inA, inL, inR, inO, idsIn, encs_pure, enxs_pure, enys_pure, valC_pure, exC_pure, tyC_pure, r_int_u8_pure, r_st_GInst_pure, r_sl_st_GInst_pure, r_st_GMiss_pure])⟩, List.forall_mem_cons.2 ⟨⟨⟨_, rfl, Wv.refl _⟩, (by simp [pureA, pureL, pureR, inA, inL, inR, inO, idsIn, encs_pure, enxs_pure, enys_pure, valC_pure, exC_pure, tyC_pure, r_int_u8_pure, r_st_GInst_pure, r_sl_st_GInst_pure, r_st_GMiss_pure])⟩, List.forall_mem_cons.2 ⟨⟨⟨_, rfl, Wv.refl _⟩, (by simp [pureA, pureL, pureR, inA, inL, inR, inO, idsIn, encs_pure, enxs_pure, enys_pure, valC_pure, exC_pure, tyC_pure, r_int_u8_pure, r_st_GInst_pure, r_sl_st_GInst_pure, r_st_GMiss_pure])⟩, List.forall_mem_cons.2 ⟨⟨⟨_, rfl, Wv.refl _⟩, (by simp [pureA, pureL, pureR, inA, inL, inR, inO, idsIn, encs_pure, enxs_pure, enys_pure, valC_pure, exC_pure, tyC_pure, r_int_u8_pure, r_st_GInst_pure, r_sl_st_GInst_pure, r_st_GMiss_pure])⟩, List.forall_mem_cons.2 ⟨⟨⟨_, rfl, Wv.refl _⟩, (by simp [pureA, pureL, pureR, inA, inL, inR, inO, idsIn, encs_pure, enxs_pure, enys_pure, valC_pure, exC_pure, tyC_pure, r_int_u8_pure, r_st_GInst_pure, r_sl_st_GInst_pure, r_st_GMiss_pure])⟩, List.forall_mem_cons.2 ⟨⟨⟨_, rfl, Wv.refl _⟩, (by simp [pureA, pureL, pureR, inA, inL, inR, inO, idsIn, encs_pure, enxs_pure, enys_pure, valC_pure, exC_pure, tyC_pure, r_int_u8_pure, r_st_GInst_pure, r_sl_st_GInst_pure, r_st_GMiss_pure])⟩, (fun _ h => by cases h)⟩⟩⟩⟩⟩⟩⟩, List.forall_mem_cons.2 ⟨⟨⟨_, rfl, ⟨rfl, rfl, rfl⟩⟩, (by simp [pureA, pureL, pureR, inA, inL, inR, inO, idsIn, encs_pure, enxs_pure, enys_pure, valC_pure, exC_pure, tyC_pure, r_int_u8_pure, r_st_GInst_pure, r_sl_st_GInst_pure, r_st_GMiss_pure])⟩, (fun _ h => by cases h)⟩⟩ ⟨hr, Nat.le_refl _⟩ (fun ⟨m, v4_1, v4_2, v4_3⟩ hx => ?_)
            obtain ⟨hr, hm⟩ := hx
            try dsimp only at hr hm
            cases m with
            | zero => rw [s_f14_l4] at hr; cases hr
            | succ m =>
              rw [s_f14_l4] at hr
              show AW Try.prog _ _ _ (mkS 132 [(0, .sl .ro 5 (encs a0)), (1, .sl .ro 1 (r_int_u8 a1)), (5, .sl (.own 0) 7 (r_st_GInst v4_1)), (6, .int .i64 v4_2), (7, .int .i64 v1_3), (8, .int .i64 (IntKind.i64.wrap ((a0.length : Int) - v1_2))), (9, .int .i64 v4_3)] [(0, .row 109 7 (r_st_GInst v4_1).length)])
              refine AW.seq ?_
              refine AW.seq ?_
              refine AW.region (M := fun _ => true) ?_
              refine AL.v good (d := 52) (v := .int .i64 v4_3) rfl rfl rfl rfl ?_
              refine AL.v good (d := 53) (v := .int .i64 (IntKind.i64.wrap ((a0.length : Int) - v1_2))) rfl rfl rfl rfl ?_
              refine AL.v good (d := 54) (v := .bool (decide (v4_3 < (IntKind.i64.wrap ((a0.length : Int) - v1_2))))) rfl rfl rfl rfl ?_
              refine AW.if rfl (fun h128 => ?_) (fun h128 => ?_)
              · replace hr := cnd_t h128 hr
                refine AW.skip ?_
                refine AW.seq ?_
                refine AW.block ?_
                refine AW.seq ?_
                refine AW.seq ?_
                refine AW.draw (M := fun i => false) good.wide (by kernel_rfl) ?_
                refine AL.v good (d := 57) (v := .sl .ro 5 (encs a0)) rfl rfl rfl rfl ?_
                refine AL.v good (d := 58) (v := .int .i64 v4_2) rfl rfl rfl rfl ?_
                obtain ⟨h131, hr⟩ := grd hr
                obtain ⟨x129, h130, hr⟩ := bnd1 hr
                refine AL.ix good (d := 59) (r := [.int .i64 x129.kind, .int .i64 x129.i, .bool x129.b, .str x129.s, .sl .ro 5 (encs x129.t)]) rfl rfl rfl rfl rfl rfl rfl h131 (encs_get h130) ?_
                refine AL.v good (d := 60) (v := .ep [.sl .ro 5 (encs x129.t)]) rfl rfl rfl rfl ?_
                refine AL.v good (d := 61) (v := .sl .ro 5 (encs x129.t)) rfl rfl rfl rfl ?_
                refine AL.ln good (d := 62) (m := x129.t.length) rfl rfl rfl rfl rfl rfl (encs_length _) ?_
                refine AL.v good (d := 63) (v := .bool (decide ((x129.t.length : Int) > 0))) rfl rfl rfl rfl ?_
                refine AL.v good (d := 64) (v := .bool (decide ((x129.t.length : Int) > 0))) rfl rfl rfl rfl ?_
                refine AL.cs 64 rfl (fun h132 => ?_) (fun h132 => ?_)
                · replace hr := cnd_t h132 hr
                  refine AL.sk good (d := 65) rfl rfl rfl ?_
                  refine AL.sk good (d := 66) rfl rfl rfl ?_
                  refine AL.sk good (d := 67) rfl rfl rfl ?_
                  refine AL.sk good (d := 68) rfl rfl rfl ?_
                  refine AL.sk good (d := 69) rfl rfl rfl ?_
                  refine AL.sk good (d := 70) rfl rfl rfl ?_
                  refine AL.v good (d := 71) (v := .bool true) rfl rfl rfl rfl ?_
                  refine AL.v good (d := 72) (v := .bool true) rfl rfl rfl rfl ?_
                  refine AL.sk good (d := 73) rfl rfl rfl ?_
                  refine AL.sk good (d := 74) rfl rfl rfl ?_
                  refine AL.sk good (d := 75) rfl rfl rfl ?_
                  refine AL.sk good (d := 76) rfl rfl rfl ?_
                  refine AL.sk good (d := 77) rfl rfl rfl ?_
                  refine AL.sk good (d := 78) rfl rfl rfl ?_
                  refine AL.sk good (d := 79) rfl rfl rfl ?_
                  refine AL.sk good (d := 80) rfl rfl rfl ?_
                  refine AL.sk good (d := 81) rfl rfl rfl ?_
                  refine AL.sk good (d := 82) rfl rfl rfl ?_
                  refine AL.v good (d := 83) (v := .bool true) rfl rfl rfl rfl ?_
                  refine AW.if rfl (fun h => ?_) (fun h => by cases h)
                  refine AW.seq ?_
                  refine AW.region (M := fun _ => true) ?_
                  refine AL.v good (d := 4) (v := .bool true) rfl rfl rfl rfl ?_
                  refine AW.ret ?_
                  obtain rfl := Option.some.inj hr
                  exact RetQ.w good (.inr rfl) rfl rfl (Wv.refl _) (by simp [pureA, pureL, pureR, inA, inL, inR, inO, idsIn, encs_pure, enxs_pure, enys_pure, valC_pure, exC_pure, tyC_pure, r_int_u8_pure, r_st_GInst_pure, r_sl_st_GInst_pure, r_st_GMiss_pure])
                · replace hr := cnd_f h132 hr
                  refine AL.v good (d := 65) (v := .sl .ro 5 (encs a0)) rfl rfl rfl rfl ?_
                  refine AL.v good (d := 66) (v := .int .i64 v4_2) rfl rfl rfl rfl ?_
                  obtain ⟨h135, hr⟩ := grd hr
                  obtain ⟨x133, h134, hr⟩ := bnd1 hr
                  refine AL.ix good (d := 67) (r := [.int .i64 x133.kind, .int .i64 x133.i, .bool x133.b, .str x133.s, .sl .ro 5 (encs x133.t)]) rfl rfl rfl rfl rfl rfl rfl h135 (encs_get h134) ?_
                  refine AL.v good (d := 68) (v := .agg [.int .i64 x133.kind, .int .i64 x133.i, .bool x133.b, .str x133.s, .sl .ro 5 (encs x133.t)]) rfl rfl rfl rfl ?_
                  obtain ⟨q136, h137, hr⟩ := bnd1 hr
                  refine AL.cw good (d := 69) (xs := [.agg (valC x133)]) (res := .int .i64 q136) rfl rfl rfl rfl rfl rfl rfl (w_f50 _ _ _ h137) ⟨(Wv.refl _), trivial⟩ (by simp [pureA, pureL, pureR, inA, inL, inR, inO, idsIn, encs_pure, enxs_pure, enys_pure, valC_pure, exC_pure, tyC_pure, r_int_u8_pure, r_st_GInst_pure, r_sl_st_GInst_pure, r_st_GMiss_pure]) ?_
                  refine AL.v good (d := 70) (v := .bool (q136 != 0)) rfl rfl rfl rfl ?_
                  refine AL.v good (d := 71) (v := .bool (q136 != 0)) rfl rfl rfl rfl ?_
                  refine AL.v good (d := 72) (v := .bool (q136 != 0)) rfl rfl rfl rfl ?_
                  refine AL.cs 72 rfl (fun h138 => ?_) (fun h138 => ?_)
                  · replace hr := cnd_t h138 hr
                    refine AL.sk good (d := 73) rfl rfl rfl ?_
                    refine AL.sk good (d := 74) rfl rfl rfl ?_
                    refine AL.sk good (d := 75) rfl rfl rfl ?_
                    refine AL.sk good (d := 76) rfl rfl rfl ?_
                    refine AL.sk good (d := 77) rfl rfl rfl ?_
                    refine AL.sk good (d := 78) rfl rfl rfl ?_
                    refine AL.sk good (d := 79) rfl rfl rfl ?_
                    refine AL.sk good (d := 80) rfl rfl rfl ?_
                    refine AL.sk good (d := 81) rfl rfl rfl ?_
                    refine AL.sk good (d := 82) rfl rfl rfl ?_
                    refine AL.v good (d := 83) (v := .bool true) rfl rfl rfl rfl ?_
                    refine AW.if rfl (fun h => ?_) (fun h => by cases h)
                    refine AW.seq ?_
                    refine AW.region (M := fun _ => true) ?_
                    refine AL.v good (d := 4) (v := .bool true) rfl rfl rfl rfl ?_
                    refine AW.ret ?_
                    obtain rfl := Option.some.inj hr
                    exact RetQ.w good (.inr rfl) rfl rfl (Wv.refl _) (by simp [pureA, pureL, pureR, inA, inL, inR, inO, idsIn, encs_pure, enxs_pure, enys_pure, valC_pure, exC_pure, tyC_pure, r_int_u8_pure, r_st_GInst_pure, r_sl_st_GInst_pure, r_st_GMiss_pure])
                  · replace hr := cnd_f h138 hr
                    refine AL.v good (d := 73) (v := .sl .ro 5 (encs a0)) rfl rfl rfl rfl ?_
                    refine AL.v good (d := 74) (v := .int .i64 v4_2) rfl rfl rfl rfl ?_
                    obtain ⟨h141, hr⟩ := grd hr
                    obtain ⟨x139, h140, hr⟩ := bnd1 hr
                    refine AL.ix good (d := 75) (r := [.int .i64 x139.kind, .int .i64 x139.i, .bool x139.b, .str x139.s, .sl .ro 5 (encs x139.t)]) rfl rfl rfl rfl rfl rfl rfl h141 (encs_get h140) ?_
                    refine AL.v good (d := 76) (v := .ep [.int .i64 x139.kind, .int .i64 x139.i, .bool x139.b, .str x139.s, .sl .ro 5 (encs x139.t)]) rfl rfl rfl rfl ?_
                    refine AL.v good (d := 77) (v := .int .i64 x139.kind) rfl rfl rfl rfl ?_
                    refine AL.v good (d := 78) (v := .sl .ro 5 (encs a0)) rfl rfl rfl rfl ?_
                    obtain ⟨x142, h143, hr⟩ := bnd1 hr
                    refine AL.ix good (d := 79) (r := [.int .i64 x142.kind, .int .i64 x142.i, .bool x142.b, .str x142.s, .sl .ro 5 (encs x142.t)]) rfl rfl rfl rfl rfl rfl rfl (by decide) (encs_get h143) ?_
                    refine AL.v good (d := 80) (v := .ep [.int .i64 x142.kind, .int .i64 x142.i, .bool x142.b, .str x142.s, .sl .ro 5 (encs x142.t)]) rfl rfl rfl rfl ?_
                    refine AL.v good (d := 81) (v := .int .i64 x142.kind) rfl rfl rfl rfl ?_
                    refine AL.v good (d := 82) (v := .bool (x139.kind != x142.kind)) rfl rfl rfl rfl ?_
                    refine AL.v good (d := 83) (v := .bool (x139.kind != x142.kind)) rfl rfl rfl rfl ?_
                    refine AW.if rfl (fun h144 => ?_) (fun h144 => ?_)
                    · replace hr := cnd_t h144 hr
                      refine AW.seq ?_
                      refine AW.region (M := fun _ => true) ?_
                      refine AL.v good (d := 4) (v := .bool true) rfl rfl rfl rfl ?_
                      refine AW.ret ?_
                      obtain rfl := Option.some.inj hr
                      exact RetQ.w good (.inr rfl) rfl rfl (Wv.refl _) (by simp [pureA, pureL, pureR, inA, inL, inR, inO, idsIn, encs_pure, enxs_pure, enys_pure, valC_pure, exC_pure, tyC_pure, r_int_u8_pure, r_st_GInst_pure, r_sl_st_GInst_pure, r_st_GMiss_pure])
                    · replace hr := cnd_f h144 hr
                      refine AW.skip ?_
                      refine AW.seq ?_
                      refine AW.region (M := fun _ => true) ?_
                      refine AL.v good (d := 84) (v := .sl (.own 0) 7 (r_st_GInst v4_1)) rfl rfl rfl rfl ?_
                      refine AL.v good (d := 85) (v := .sl .ro 5 (encs a0)) rfl rfl rfl rfl ?_
                      refine AL.v good (d := 86) (v := .int .i64 v4_2) rfl rfl rfl rfl ?_
                      obtain ⟨h147, hr⟩ := grd hr
                      obtain ⟨x145, h146, hr⟩ := bnd1 hr
                      refine AL.ix good (d := 87) (r := [.int .i64 x145.kind, .int .i64 x145.i, .bool x145.b, .str x145.s, .sl .ro 5 (encs x145.t)]) rfl rfl rfl rfl rfl rfl rfl h147 (encs_get h146) ?_
                      refine AL.v good (d := 88) (v := .agg [.int .i64 x145.kind, .int .i64 x145.i, .bool x145.b, .str x145.s, .sl .ro 5 (encs x145.t)]) rfl rfl rfl rfl ?_
                      refine AL.bld good (d := 89) (l := [.str ⟨#[112, 117, 115, 104]⟩, .int .i64 x145.kind, .int .i64 x145.i, .bool x145.b, .str x145.s, .sl .ro 5 (encs x145.t), .int .i64 0]) rfl rfl rfl rfl rfl rfl rfl ?_
                      refine AL.lit good (d := 90) (rows := [[.str ⟨#[112, 117, 115, 104]⟩, .int .i64 x145.kind, .int .i64 x145.i, .bool x145.b, .str x145.s, .sl .ro 5 (encs x145.t), .int .i64 0]]) rfl rfl rfl rfl rfl rfl rfl rfl rfl 1 rfl ?_
                      obtain ⟨h148, hr⟩ := grd hr
                      refine AL.aw2 good (d := 91) (rows := r_st_GInst v4_1) (news := [[.str (((GInst.mk ⟨#[112, 117, 115, 104]⟩ x145 0)).f0), .int .i64 ((((GInst.mk ⟨#[112, 117, 115, 104]⟩ x145 0)).f1).kind), .int .i64 ((((GInst.mk ⟨#[112, 117, 115, 104]⟩ x145 0)).f1).i), .bool ((((GInst.mk ⟨#[112, 117, 115, 104]⟩ x145 0)).f1).b), .str ((((GInst.mk ⟨#[112, 117, 115, 104]⟩ x145 0)).f1).s), .sl .ro 5 (encs ((((GInst.mk ⟨#[112, 117, 115, 104]⟩ x145 0)).f1).t)), .int .i64 (((GInst.mk ⟨#[112, 117, 115, 104]⟩ x145 0)).f2)]]) (rows2 := r_st_GInst (v4_1 ++ [(GInst.mk ⟨#[112, 117, 115, 104]⟩ x145 0)])) rfl rfl rfl rfl rfl rfl rfl rfl rfl (by simp) rfl rfl rfl ⟨⟨Wv.refl _, Wv.refl _, Wv.refl _, Wv.refl _, Wv.refl _, Wv.refl _, Wv.refl _, trivial⟩, trivial⟩ (by simp [r_st_GInst, rowF]) (by rw [r_st_GInst_length, List.length_append]; exact h148) rfl ?_
                      refine AL.v good (d := 5) (v := .sl (.own 0) 7 (r_st_GInst (v4_1 ++ [(GInst.mk ⟨#[112, 117, 115, 104]⟩ x145 0)]))) rfl rfl rfl rfl ?_
                      refine AW.region (M := fun _ => true) ?_
                      refine AL.v good (d := 92) (v := .int .i64 v4_2) rfl rfl rfl rfl ?_
                      refine AL.v good (d := 93) (v := .int .i64 (IntKind.i64.wrap (v4_2 + 1))) rfl rfl rfl rfl ?_
                      refine AL.v good (d := 6) (v := .int .i64 (IntKind.i64.wrap (v4_2 + 1))) rfl rfl rfl rfl ?_
                      refine AW.region (M := fun _ => true) ?_
                      refine AL.v good (d := 55) (v := .int .i64 v4_3) rfl rfl rfl rfl ?_
                      refine AL.v good (d := 56) (v := .int .i64 (IntKind.i64.wrap (v4_3 + 1))) rfl rfl rfl rfl ?_
                      refine AL.v good (d := 9) (v := .int .i64 (IntKind.i64.wrap (v4_3 + 1))) rfl rfl rfl rfl ?_
                      exact ⟨(m, (v4_1 ++ [(GInst.mk ⟨#[112, 117, 115, 104]⟩ x145 0)]), (IntKind.i64.wrap (v4_2 + 1)), (IntKind.i64.wrap (v4_3 + 1))), _, _, rfl, ⟨(fun _ h => by cases h), List.forall_mem_cons.2 ⟨⟨⟨_, rfl, Wv.refl _⟩, (by simp [pureA, pureL, pureR, inA, inL, inR, inO, idsIn, encs_pure, enxs_pure, enys_pure, valC_pure, exC_pure, tyC_pure, r_int_u8_pure, r_st_GInst_pure, r_sl_st_GInst_pure, r_st_GMiss_pure])⟩, List.forall_mem_cons.2 ⟨⟨⟨_, rfl, Wv.refl _⟩, (by simp [pureA, pureL, pureR, inA, inL, inR, inO, idsIn, encs_pure, enxs_pure, enys_pure, valC_pure, exC_pure, tyC_pure, r_int_u8_pure, r_st_GInst_pure, r_sl_st_GInst_pure, r_st_GMiss_pure])⟩, List.forall_mem_cons.2 ⟨⟨⟨_, rfl, Wv.refl _⟩, (by simp [pureA, pureL, pureR, inA, inL, inR, inO, idsIn, encs_pure, enxs_pure, enys_pure, valC_pure, exC_pure, tyC_pure, r_int_u8_pure, r_st_GInst_pure, r_sl_st_GInst_pure, r_st_GMiss_pure])⟩, List.forall_mem_cons.2 ⟨⟨⟨_, rfl, Wv.refl _⟩, (by simp [pureA, pureL, pureR, inA, inL, inR, inO, idsIn, encs_pure, enxs_pure, enys_pure, valC_pure, exC_pure, tyC_pure, r_int_u8_pure, r_st_GInst_pure, r_sl_st_GInst_pure, r_st_GMiss_pure])⟩, List.forall_mem_cons.2 ⟨⟨⟨_, rfl, Wv.refl _⟩, (by simp [pureA, pureL, pureR, inA, inL, inR, inO, idsIn, encs_pure, enxs_pure, enys_pure, valC_pure, exC_pure, tyC_pure, r_int_u8_pure, r_st_GInst_pure, r_sl_st_GInst_pure, r_st_GMiss_pure])⟩, List.forall_mem_cons.2 ⟨⟨⟨_, rfl, Wv.refl _⟩, (by simp [pureA, pureL, pureR, inA, inL, inR, inO, idsIn, encs_pure, enxs_pure, enys_pure, valC_pure, exC_pure, tyC_pure, r_int_u8_pure, r_st_GInst_pure, r_sl_st_GInst_pure, r_st_GMiss_pure])⟩, List.forall_mem_cons.2 ⟨⟨⟨_, rfl, Wv.refl _⟩, (by simp [pureA, pureL, pureR, inA, inL, inR, inO, idsIn, encs_pure, enxs_pure, enys_pure, valC_pure, exC_pure, tyC_pure, r_int_u8_pure, r_st_GInst_pure, r_sl_st_GInst_pure, r_st_GMiss_pure])⟩, (fun _ h => by cases h)⟩⟩⟩⟩⟩⟩⟩, List.forall_mem_cons.2 ⟨⟨⟨_, rfl, ⟨rfl, rfl, rfl⟩⟩, (by simp [pureA, pureL, pureR, inA, inL, inR, inO, idsIn, encs_pure, enxs_pure, enys_pure, valC_pure, exC_pure, tyC_pure, r_int_u8_pure, r_st_GInst_pure, r_sl_st_GInst_pure, r_st_GMiss_pure])⟩, (fun _ h => by cases h)⟩⟩, ⟨hr, Nat.le_of_succ_le hm⟩, Nat.lt_succ_self _⟩
              · replace hr := cnd_f h128 hr
                refine AW.exit ?_
                refine AW.region (M := fun _ => true) ?_
                refine AL.v good (d := 94) (v := .sl (.own 0) 7 (r_st_GInst v4_1)) rfl rfl rfl rfl ?_
                refine AL.v good (d := 95) (v := .int .i64 (IntKind.i64.wrap ((a0.length : Int) - v1_2))) rfl rfl rfl rfl ?_
                refine AL.bld good (d := 96) (l := [.str ⟨#[101, 109, 105, 116]⟩, .int .i64 0, .int .i64 0, .bool false, .str ⟨#[]⟩, .sl .nil 0 [], .int .i64 (IntKind.i64.wrap ((a0.length : Int) - v1_2))]) rfl rfl rfl rfl rfl rfl rfl ?_
                refine AL.lit good (d := 97) (rows := [[.str ⟨#[101, 109, 105, 116]⟩, .int .i64 0, .int .i64 0, .bool false, .str ⟨#[]⟩, .sl .nil 0 [], .int .i64 (IntKind.i64.wrap ((a0.length : Int) - v1_2))]]) rfl rfl rfl rfl rfl rfl rfl rfl rfl 1 rfl ?_
                obtain ⟨h149, hr⟩ := grd hr
                refine AL.aw2 good (d := 98) (rows := r_st_GInst v4_1) (news := [[.str (((GInst.mk ⟨#[101, 109, 105, 116]⟩ (Val.mk 0 0 false ⟨#[]⟩ []) (IntKind.i64.wrap ((a0.length : Int) - v1_2)))).f0), .int .i64 ((((GInst.mk ⟨#[101, 109, 105, 116]⟩ (Val.mk 0 0 false ⟨#[]⟩ []) (IntKind.i64.wrap ((a0.length : Int) - v1_2)))).f1).kind), .int .i64 ((((GInst.mk ⟨#[101, 109, 105, 116]⟩ (Val.mk 0 0 false ⟨#[]⟩ []) (IntKind.i64.wrap ((a0.length : Int) - v1_2)))).f1).i), .bool ((((GInst.mk ⟨#[101, 109, 105, 116]⟩ (Val.mk 0 0 false ⟨#[]⟩ []) (IntKind.i64.wrap ((a0.length : Int) - v1_2)))).f1).b), .str ((((GInst.mk ⟨#[101, 109, 105, 116]⟩ (Val.mk 0 0 false ⟨#[]⟩ []) (IntKind.i64.wrap ((a0.length : Int) - v1_2)))).f1).s), .sl .ro 5 (encs ((((GInst.mk ⟨#[101, 109, 105, 116]⟩ (Val.mk 0 0 false ⟨#[]⟩ []) (IntKind.i64.wrap ((a0.length : Int) - v1_2)))).f1).t)), .int .i64 (((GInst.mk ⟨#[101, 109, 105, 116]⟩ (Val.mk 0 0 false ⟨#[]⟩ []) (IntKind.i64.wrap ((a0.length : Int) - v1_2)))).f2)]]) (rows2 := r_st_GInst (v4_1 ++ [(GInst.mk ⟨#[101, 109, 105, 116]⟩ (Val.mk 0 0 false ⟨#[]⟩ []) (IntKind.i64.wrap ((a0.length : Int) - v1_2)))])) rfl rfl rfl rfl rfl rfl rfl rfl rfl (by simp) rfl rfl rfl ⟨⟨Wv.refl _, Wv.refl _, Wv.refl _, Wv.refl _, Wv.refl _, ⟨.inr rfl, trivial, .inr rfl⟩, Wv.refl _, trivial⟩, trivial⟩ (by simp [r_st_GInst, rowF]) (by rw [r_st_GInst_length, List.length_append]; exact h149) rfl ?_
                refine AL.v good (d := 5) (v := .sl (.own 0) 7 (r_st_GInst (v4_1 ++ [(GInst.mk ⟨#[101, 109, 105, 116]⟩ (Val.mk 0 0 false ⟨#[]⟩ []) (IntKind.i64.wrap ((a0.length : Int) - v1_2)))]))) rfl rfl rfl rfl ?_
                refine AW.region (M := fun _ => true) ?_
                refine AL.v good (d := 33) (v := .int .i64 v1_3) rfl rfl rfl rfl ?_
                refine AL.v good (d := 34) (v := .int .i64 (IntKind.i64.wrap (v1_3 + 1))) rfl rfl rfl rfl ?_
                refine AL.v good (d := 7) (v := .int .i64 (IntKind.i64.wrap (v1_3 + 1))) rfl rfl rfl rfl ?_
                exact ⟨(m, (v4_1 ++ [(GInst.mk ⟨#[101, 109, 105, 116]⟩ (Val.mk 0 0 false ⟨#[]⟩ []) (IntKind.i64.wrap ((a0.length : Int) - v1_2)))]), v4_2, (IntKind.i64.wrap (v1_3 + 1))), _, _, rfl, ⟨(fun _ h => by cases h), List.forall_mem_cons.2 ⟨⟨⟨_, rfl, Wv.refl _⟩, (by simp [pureA, pureL, pureR, inA, inL, inR, inO, idsIn, encs_pure, enxs_pure, enys_pure, valC_pure, exC_pure, tyC_pure, r_int_u8_pure, r_st_GInst_pure, r_sl_st_GInst_pure, r_st_GMiss_pure])⟩, List.forall_mem_cons.2 ⟨⟨⟨_, rfl, Wv.refl _⟩, (by simp [pureA, pureL, pureR, inA, inL, inR, inO, idsIn, encs_pure, enxs_pure, enys_pure, valC_pure, exC_pure, tyC_pure, r_int_u8_pure, r_st_GInst_pure, r_sl_st_GInst_pure, r_st_GMiss_pure])⟩, List.forall_mem_cons.2 ⟨⟨⟨_, rfl, Wv.refl _⟩, (by simp [pureA, pureL, pureR, inA, inL, inR, inO, idsIn, encs_pure, enxs_pure, enys_pure, valC_pure, exC_pure, tyC_pure, r_int_u8_pure, r_st_GInst_pure, r_sl_st_GInst_pure, r_st_GMiss_pure])⟩, List.forall_mem_cons.2 ⟨⟨⟨_, rfl, Wv.refl _⟩, (by simp [pureA, pureL, pureR, inA, inL, inR, inO, idsIn, encs_pure, enxs_pure, enys_pure, valC_pure, exC_pure, tyC_pure, r_int_u8_pure, r_st_GInst_pure, r_sl_st_GInst_pure, r_st_GMiss_pure])⟩, List.forall_mem_cons.2 ⟨⟨⟨_, rfl, Wv.refl _⟩, (by simp [pureA, pureL, pureR, inA, inL, inR, inO, idsIn, encs_pure, enxs_pure, enys_pure, valC_pure, exC_pure, tyC_pure, r_int_u8_pure, r_st_GInst_pure, r_sl_st_GInst_pure, r_st_GMiss_pure])⟩, (fun _ h => by cases h)⟩⟩⟩⟩⟩, List.forall_mem_cons.2 ⟨⟨⟨_, rfl, ⟨rfl, rfl, rfl⟩⟩, (by simp [pureA, pureL, pureR, inA, inL, inR, inO, idsIn, encs_pure, enxs_pure, enys_pure, valC_pure, exC_pure, tyC_pure, r_int_u8_pure, r_st_GInst_pure, r_sl_st_GInst_pure, r_st_GMiss_pure])⟩, (fun _ h => by cases h)⟩⟩, ⟨hr, (by (try dsimp only); omega)⟩, (by (try dsimp only); omega)⟩
          · replace hr := cnd_f h106 hr
            refine AW.skip ?_
            refine AW.seq ?_
            refine AW.seq ?_
            refine AW.region (M := fun _ => true) ?_
            refine AL.v good (d := 9) (v := .int .i64 0) rfl rfl rfl rfl ?_
            refine AW.block ?_
            refine AW.lpw (fun x : Nat × (List GInst) × Int × Int => [(0, .sl .ro 5 (encs a0)), (1, .sl .ro 1 (r_int_u8 a1)), (5, .sl (.own 0) 7 (r_st_GInst x.2.1)), (6, .int .i64 x.2.2.1), (7, .int .i64 v1_3), (8, .int .i64 (IntKind.i64.wrap (1 + (IntKind.i64.wrap ((x103.tmod 4)))))), (9, .int .i64 x.2.2.2)]) (fun x => [(0, .row 109 7 (r_st_GInst x.2.1).length)]) (fun x => s_f14_l5 x.1 a0 a1 q1 v1_3 x103 x.2.1 x.2.2.1 x.2.2.2 = some r ∧ x.1 ≤ m) (fun x => x.1) (m, v1_1, v1_2, 0) ⟨(fun _ h => by cases h), List.forall_mem_cons.2 ⟨⟨⟨_, rfl, Wv.refl _⟩, (by simp [pureA, pureL, pureR, inA, inL, inR, inO, idsIn, encs_pure, enxs_pure, enys_pure, valC_pure, exC_pure, tyC_pure, r_int_u8_pure, r_st_GInst_pure, r_sl_st_GInst_pure, r_st_GMiss_pure])⟩, List.forall_mem_cons.2 ⟨⟨⟨_, rfl, Wv.refl _⟩, (by simp [pureA, pureL, pureR, inA, inL, inR, inO, idsIn, encs_pure, enxs_pure, enys_pure, valC_pure, exC_pure, tyC_pure, r_int_u8_pure, r_st_GInst_pure, r_sl_st_GInst_pure, r_st_GMiss_pure])⟩, List.forall_mem_cons.2 ⟨⟨⟨_, rfl, Wv.refl _⟩, (by simp [pureA, pureL, pureR, inA, inL, inR, inO, idsIn, encs_pure, enxs_pure, enys_pure, valC_pure, exC_pure, tyC_pure, r_int_u8_pure, r_st_GInst_pure, r_sl_st_GInst_pure, r_st_GMiss_pure])⟩, List.forall_mem_cons.2 ⟨⟨⟨_, rfl, Wv.refl _⟩, (by simp [pureA, pureL, pureR, inA, inL, inR, inO, idsIn, encs_pure, enxs_pure, enys_pure, valC_pure, exC_pure, tyC_pure, r_int_u8_pure, r_st_GInst_pure, r_sl_st_GInst_pure, r_st_GMiss_pure])⟩, List.forall_mem_cons.2 ⟨⟨⟨_, rfl, Wv.refl _⟩, (by simp [pureA, pureL, pureR, inA, inL, inR, inO, idsIn, encs_pure, enxs_pure, enys_pure, valC_pure, exC_pure, tyC_pure, r_int_u8_pure, r_st_GInst_pure, r_sl_st_GInst_pure, r_st_GMiss_pure])⟩, List.forall_mem_cons.2 ⟨⟨⟨_, rfl, Wv.refl _⟩, (by simp [pureA, pureL, pureR, inA, inL, inR, inO, idsIn, encs_pure, enxs_pure, enys_pure, valC_pure, exC_pure, tyC_pure, r_int_u8_pure, r_st_GInst_pure, r_sl_st_GInst_pure, r_st_GMiss_pure])⟩, List.forall_mem_cons.2 ⟨⟨⟨_, rfl, Wv.refl _⟩, (by simp [pureA, pureL, pureR, inA, inL, inR, inO, idsIn, encs_pure, enxs_pure, enys_pure, valC_pure, exC_pure, tyC_pure, r_int_u8_pure, r_st_GInst_pure, r_sl_st_GInst_pure, r_st_GMiss_pure])⟩, (fun _ h => by cases h)⟩⟩⟩⟩⟩⟩⟩, List.forall_mem_cons.2 ⟨⟨⟨_, rfl, ⟨rfl, rfl, rfl⟩⟩, (by simp [pureA, pureL, pureR, inA, inL, inR, inO, idsIn, encs_pure, enxs_pure, enys_pure, valC_pure, exC_pure, tyC_pure, r_int_u8_pure, r_st_GInst_pure, r_sl_st_GInst_pure, r_st_GMiss_pure])⟩, (fun _ h => by cases h)⟩⟩ ⟨hr, Nat.le_refl _⟩ (fun ⟨m, v5_1, v5_2, v5_3⟩ hx => ?_)
            obtain ⟨hr, hm⟩ := hx
            try dsimp only at hr hm
            cases m with
            | zero => rw [s_f14_l5] at hr; cases hr
            | succ m =>
              rw [s_f14_l5] at hr
              show AW Try.prog _ _ _ (mkS 132 [(0, .sl .ro 5 (encs a0)), (1, .sl .ro 1 (r_int_u8 a1)), (5, .sl (.own 0) 7 (r_st_GInst v5_1)), (6, .int .i64 v5_2), (7, .int .i64 v1_3), (8, .int .i64 (IntKind.i64.wrap (1 + (IntKind.i64.wrap ((x103.tmod 4)))))), (9, .int .i64 v5_3)] [(0, .row 109 7 (r_st_GInst v5_1).length)])
              refine AW.seq ?_
              refine AW.seq ?_
              refine AW.region (M := fun _ => true) ?_
              refine AL.v good (d := 52) (v := .int .i64 v5_3) rfl rfl rfl rfl ?_
              refine AL.v good (d := 53) (v := .int .i64 (IntKind.i64.wrap (1 + (IntKind.i64.wrap ((x103.tmod 4)))))) rfl rfl rfl rfl ?_
              refine AL.v good (d := 54) (v := .bool (decide (v5_3 < (IntKind.i64.wrap (1 + (IntKind.i64.wrap ((x103.tmod 4)))))))) rfl rfl rfl rfl ?_
              refine AW.if rfl (fun h171 => ?_) (fun h171 => ?_)
              · replace hr := cnd_t h171 hr
                refine AW.skip ?_
                refine AW.seq ?_
                refine AW.block ?_
                refine AW.seq ?_
                refine AW.seq ?_
                refine AW.draw (M := fun i => false) good.wide (by kernel_rfl) ?_
                refine AL.v good (d := 57) (v := .sl .ro 5 (encs a0)) rfl rfl rfl rfl ?_
                refine AL.v good (d := 58) (v := .int .i64 v5_2) rfl rfl rfl rfl ?_
                obtain ⟨h174, hr⟩ := grd hr
                obtain ⟨x172, h173, hr⟩ := bnd1 hr
                refine AL.ix good (d := 59) (r := [.int .i64 x172.kind, .int .i64 x172.i, .bool x172.b, .str x172.s, .sl .ro 5 (encs x172.t)]) rfl rfl rfl rfl rfl rfl rfl h174 (encs_get h173) ?_
                refine AL.v good (d := 60) (v := .ep [.sl .ro 5 (encs x172.t)]) rfl rfl rfl rfl ?_
                refine AL.v good (d := 61) (v := .sl .ro 5 (encs x172.t)) rfl rfl rfl rfl ?_
                refine AL.ln good (d := 62) (m := x172.t.length) rfl rfl rfl rfl rfl rfl (encs_length _) ?_
                refine AL.v good (d := 63) (v := .bool (decide ((x172.t.length : Int) > 0))) rfl rfl rfl rfl ?_
                refine AL.v good (d := 64) (v := .bool (decide ((x172.t.length : Int) > 0))) rfl rfl rfl rfl ?_
                refine AL.cs 64 rfl (fun h175 => ?_) (fun h175 => ?_)
                · replace hr := cnd_t h175 hr
                  refine AL.sk good (d := 65) rfl rfl rfl ?_
                  refine AL.sk good (d := 66) rfl rfl rfl ?_
                  refine AL.sk good (d := 67) rfl rfl rfl ?_
                  refine AL.sk good (d := 68) rfl rfl rfl ?_
                  refine AL.sk good (d := 69) rfl rfl rfl ?_
                  refine AL.sk good (d := 70) rfl rfl rfl ?_
                  refine AL.v good (d := 71) (v := .bool true) rfl rfl rfl rfl ?_
                  refine AL.v good (d := 72) (v := .bool true) rfl rfl rfl rfl ?_
                  refine AL.sk good (d := 73) rfl rfl rfl ?_
                  refine AL.sk good (d := 74) rfl rfl rfl ?_
                  refine AL.sk good (d := 75) rfl rfl rfl ?_
                  refine AL.sk good (d := 76) rfl rfl rfl ?_
                  refine AL.sk good (d := 77) rfl rfl rfl ?_
                  refine AL.sk good (d := 78) rfl rfl rfl ?_
                  refine AL.sk good (d := 79) rfl rfl rfl ?_
                  refine AL.sk good (d := 80) rfl rfl rfl ?_
                  refine AL.sk good (d := 81) rfl rfl rfl ?_
                  refine AL.sk good (d := 82) rfl rfl rfl ?_
                  refine AL.v good (d := 83) (v := .bool true) rfl rfl rfl rfl ?_
                  refine AW.if rfl (fun h => ?_) (fun h => by cases h)
                  refine AW.seq ?_
                  refine AW.region (M := fun _ => true) ?_
                  refine AL.v good (d := 4) (v := .bool true) rfl rfl rfl rfl ?_
                  refine AW.ret ?_
                  obtain rfl := Option.some.inj hr
                  exact RetQ.w good (.inr rfl) rfl rfl (Wv.refl _) (by simp [pureA, pureL, pureR, inA, inL, inR, inO, idsIn, encs_pure, enxs_pure, enys_pure, valC_pure, exC_pure, tyC_pure, r_int_u8_pure, r_st_GInst_pure, r_sl_st_GInst_pure, r_st_GMiss_pure])
                · replace hr := cnd_f h175 hr
                  refine AL.v good (d := 65) (v := .sl .ro 5 (encs a0)) rfl rfl rfl rfl ?_
                  refine AL.v good (d := 66) (v := .int .i64 v5_2) rfl rfl rfl rfl ?_
                  obtain ⟨h178, hr⟩ := grd hr
                  obtain ⟨x176, h177, hr⟩ := bnd1 hr
                  refine AL.ix good (d := 67) (r := [.int .i64 x176.kind, .int .i64 x176.i, .bool x176.b, .str x176.s, .sl .ro 5 (encs x176.t)]) rfl rfl rfl rfl rfl rfl rfl h178 (encs_get h177) ?_
                  refine AL.v good (d := 68) (v := .agg [.int .i64 x176.kind, .int .i64 x176.i, .bool x176.b, .str x176.s, .sl .ro 5 (encs x176.t)]) rfl rfl rfl rfl ?_
                  obtain ⟨q179, h180, hr⟩ := bnd1 hr
                  refine AL.cw good (d := 69) (xs := [.agg (valC x176)]) (res := .int .i64 q179) rfl rfl rfl rfl rfl rfl rfl (w_f50 _ _ _ h180) ⟨(Wv.refl _), trivial⟩ (by simp [pureA, pureL, pureR, inA, inL, inR, inO, idsIn, encs_pure, enxs_pure, enys_pure, valC_pure, exC_pure, tyC_pure, r_int_u8_pure, r_st_GInst_pure, r_sl_st_GInst_pure, r_st_GMiss_pure]) ?_
                  refine AL.v good (d := 70) (v := .bool (q179 != 0)) rfl rfl rfl rfl ?_
                  refine AL.v good (d := 71) (v := .bool (q179 != 0)) rfl rfl rfl rfl ?_
                  refine AL.v good (d := 72) (v := .bool (q179 != 0)) rfl rfl rfl rfl ?_
                  refine AL.cs 72 rfl (fun h181 => ?_) (fun h181 => ?_)
                  · replace hr := cnd_t h181 hr
                    refine AL.sk good (d := 73) rfl rfl rfl ?_
                    refine AL.sk good (d := 74) rfl rfl rfl ?_
                    refine AL.sk good (d := 75) rfl rfl rfl ?_
                    refine AL.sk good (d := 76) rfl rfl rfl ?_
                    refine AL.sk good (d := 77) rfl rfl rfl ?_
                    refine AL.sk good (d := 78) rfl rfl rfl ?_
                    refine AL.sk good (d := 79) rfl rfl rfl ?_
                    refine AL.sk good (d := 80) rfl rfl rfl ?_
                    refine AL.sk good (d := 81) rfl rfl rfl ?_
                    refine AL.sk good (d := 82) rfl rfl rfl ?_
                    refine AL.v good (d := 83) (v := .bool true) rfl rfl rfl rfl ?_
                    refine AW.if rfl (fun h => ?_) (fun h => by cases h)
                    refine AW.seq ?_
                    refine AW.region (M := fun _ => true) ?_
                    refine AL.v good (d := 4) (v := .bool true) rfl rfl rfl rfl ?_
                    refine AW.ret ?_
                    obtain rfl := Option.some.inj hr
                    exact RetQ.w good (.inr rfl) rfl rfl (Wv.refl _) (by simp [pureA, pureL, pureR, inA, inL, inR, inO, idsIn, encs_pure, enxs_pure, enys_pure, valC_pure, exC_pure, tyC_pure, r_int_u8_pure, r_st_GInst_pure, r_sl_st_GInst_pure, r_st_GMiss_pure])
                  · replace hr := cnd_f h181 hr
                    refine AL.v good (d := 73) (v := .sl .ro 5 (encs a0)) rfl rfl rfl rfl ?_
                    refine AL.v good (d := 74) (v := .int .i64 v5_2) rfl rfl rfl rfl ?_
                    obtain ⟨h184, hr⟩ := grd hr
                    obtain ⟨x182, h183, hr⟩ := bnd1 hr
                    refine AL.ix good (d := 75) (r := [.int .i64 x182.kind, .int .i64 x182.i, .bool x182.b, .str x182.s, .sl .ro 5 (encs x182.t)]) rfl rfl rfl rfl rfl rfl rfl h184 (encs_get h183) ?_
                    refine AL.v good (d := 76) (v := .ep [.int .i64 x182.kind, .int .i64 x182.i, .bool x182.b, .str x182.s, .sl .ro 5 (encs x182.t)]) rfl rfl rfl rfl ?_
                    refine AL.v good (d := 77) (v := .int .i64 x182.kind) rfl rfl rfl rfl ?_
                    refine AL.v good (d := 78) (v := .sl .ro 5 (encs a0)) rfl rfl rfl rfl ?_
                    obtain ⟨x185, h186, hr⟩ := bnd1 hr
                    refine AL.ix good (d := 79) (r := [.int .i64 x185.kind, .int .i64 x185.i, .bool x185.b, .str x185.s, .sl .ro 5 (encs x185.t)]) rfl rfl rfl rfl rfl rfl rfl (by decide) (encs_get h186) ?_
                    refine AL.v good (d := 80) (v := .ep [.int .i64 x185.kind, .int .i64 x185.i, .bool x185.b, .str x185.s, .sl .ro 5 (encs x185.t)]) rfl rfl rfl rfl ?_
                    refine AL.v good (d := 81) (v := .int .i64 x185.kind) rfl rfl rfl rfl ?_
                    refine AL.v good (d := 82) (v := .bool (x182.kind != x185.kind)) rfl rfl rfl rfl ?_
                    refine AL.v good (d := 83) (v := .bool (x182.kind != x185.kind)) rfl rfl rfl rfl ?_
                    refine AW.if rfl (fun h187 => ?_) (fun h187 => ?_)
                    · replace hr := cnd_t h187 hr
                      refine AW.seq ?_
                      refine AW.region (M := fun _ => true) ?_
                      refine AL.v good (d := 4) (v := .bool true) rfl rfl rfl rfl ?_
                      refine AW.ret ?_
                      obtain rfl := Option.some.inj hr
                      exact RetQ.w good (.inr rfl) rfl rfl (Wv.refl _) (by simp [pureA, pureL, pureR, inA, inL, inR, inO, idsIn, encs_pure, enxs_pure, enys_pure, valC_pure, exC_pure, tyC_pure, r_int_u8_pure, r_st_GInst_pure, r_sl_st_GInst_pure, r_st_GMiss_pure])
                    · replace hr := cnd_f h187 hr
                      refine AW.skip ?_
                      refine AW.seq ?_
                      refine AW.region (M := fun _ => true) ?_
                      refine AL.v good (d := 84) (v := .sl (.own 0) 7 (r_st_GInst v5_1)) rfl rfl rfl rfl ?_
                      refine AL.v good (d := 85) (v := .sl .ro 5 (encs a0)) rfl rfl rfl rfl ?_
                      refine AL.v good (d := 86) (v := .int .i64 v5_2) rfl rfl rfl rfl ?_
                      obtain ⟨h190, hr⟩ := grd hr
                      obtain ⟨x188, h189, hr⟩ := bnd1 hr
                      refine AL.ix good (d := 87) (r := [.int .i64 x188.kind, .int .i64 x188.i, .bool x188.b, .str x188.s, .sl .ro 5 (encs x188.t)]) rfl rfl rfl rfl rfl rfl rfl h190 (encs_get h189) ?_
                      refine AL.v good (d := 88) (v := .agg [.int .i64 x188.kind, .int .i64 x188.i, .bool x188.b, .str x188.s, .sl .ro 5 (encs x188.t)]) rfl rfl rfl rfl ?_
                      refine AL.bld good (d := 89) (l := [.str ⟨#[112, 117, 115, 104]⟩, .int .i64 x188.kind, .int .i64 x188.i, .bool x188.b, .str x188.s, .sl .ro 5 (encs x188.t), .int .i64 0]) rfl rfl rfl rfl rfl rfl rfl ?_
                      refine AL.lit good (d := 90) (rows := [[.str ⟨#[112, 117, 115, 104]⟩, .int .i64 x188.kind, .int .i64 x188.i, .bool x188.b, .str x188.s, .sl .ro 5 (encs x188.t), .int .i64 0]]) rfl rfl rfl rfl rfl rfl rfl rfl rfl 1 rfl ?_
                      obtain ⟨h191, hr⟩ := grd hr
                      refine AL.aw2 good (d := 91) (rows := r_st_GInst v5_1) (news := [[.str (((GInst.mk ⟨#[112, 117, 115, 104]⟩ x188 0)).f0), .int .i64 ((((GInst.mk ⟨#[112, 117, 115, 104]⟩ x188 0)).f1).kind), .int .i64 ((((GInst.mk ⟨#[112, 117, 115, 104]⟩ x188 0)).f1).i), .bool ((((GInst.mk ⟨#[112, 117, 115, 104]⟩ x188 0)).f1).b), .str ((((GInst.mk ⟨#[112, 117, 115, 104]⟩ x188 0)).f1).s), .sl .ro 5 (encs ((((GInst.mk ⟨#[112, 117, 115, 104]⟩ x188 0)).f1).t)), .int .i64 (((GInst.mk ⟨#[112, 117, 115, 104]⟩ x188 0)).f2)]]) (rows2 := r_st_GInst (v5_1 ++ [(GInst.mk ⟨#[112, 117, 115, 104]⟩ x188 0)])) rfl rfl rfl rfl rfl rfl rfl rfl rfl (by simp) rfl rfl rfl ⟨⟨Wv.refl _, Wv.refl _, Wv.refl _, Wv.refl _, Wv.refl _, Wv.refl _, Wv.refl _, trivial⟩, trivial⟩ (by simp [r_st_GInst, rowF]) (by rw [r_st_GInst_length, List.length_append]; exact h191) rfl ?_
                      refine AL.v good (d := 5) (v := .sl (.own 0) 7 (r_st_GInst (v5_1 ++ [(GInst.mk ⟨#[112, 117, 115, 104]⟩ x188 0)]))) rfl rfl rfl rfl ?_
                      refine AW.region (M := fun _ => true) ?_
                      refine AL.v good (d := 92) (v := .int .i64 v5_2) rfl rfl rfl rfl ?_
                      refine AL.v good (d := 93) (v := .int .i64 (IntKind.i64.wrap (v5_2 + 1))) rfl rfl rfl rfl ?_
                      refine AL.v good (d := 6) (v := .int .i64 (IntKind.i64.wrap (v5_2 + 1))) rfl rfl rfl rfl ?_
                      refine AW.region (M := fun _ => true) ?_
                      refine AL.v good (d := 55) (v := .int .i64 v5_3) rfl rfl rfl rfl ?_
                      refine AL.v good (d := 56) (v := .int .i64 (IntKind.i64.wrap (v5_3 + 1))) rfl rfl rfl rfl ?_
                      refine AL.v good (d := 9) (v := .int .i64 (IntKind.i64.wrap (v5_3 + 1))) rfl rfl rfl rfl ?_
                      exact ⟨(m, (v5_1 ++ [(GInst.mk ⟨#[112, 117, 115, 104]⟩ x188 0)]), (IntKind.i64.wrap (v5_2 + 1)), (IntKind.i64.wrap (v5_3 + 1))), _, _, rfl, ⟨(fun _ h => by cases h), List.forall_mem_cons.2 ⟨⟨⟨_, rfl, Wv.refl _⟩, (by simp [pureA, pureL, pureR, inA, inL, inR, inO, idsIn, encs_pure, enxs_pure, enys_pure, valC_pure, exC_pure, tyC_pure, r_int_u8_pure, r_st_GInst_pure, r_sl_st_GInst_pure, r_st_GMiss_pure])⟩, List.forall_mem_cons.2 ⟨⟨⟨_, rfl, Wv.refl _⟩, (by simp [pureA, pureL, pureR, inA, inL, inR, inO, idsIn, encs_pure, enxs_pure, enys_pure, valC_pure, exC_pure, tyC_pure, r_int_u8_pure, r_st_GInst_pure, r_sl_st_GInst_pure, r_st_GMiss_pure])⟩, List.forall_mem_cons.2 ⟨⟨⟨_, rfl, Wv.refl _⟩, (by simp [pureA, pureL, pureR, inA, inL, inR, inO, idsIn, encs_pure, enxs_pure, enys_pure, valC_pure, exC_pure, tyC_pure, r_int_u8_pure, r_st_GInst_pure, r_sl_st_GInst_pure, r_st_GMiss_pure])⟩, List.forall_mem_cons.2 ⟨⟨⟨_, rfl, Wv.refl _⟩, (by simp [pureA, pureL, pureR, inA, inL, inR, inO, idsIn, encs_pure, enxs_pure, enys_pure, valC_pure, exC_pure, tyC_pure, r_int_u8_pure, r_st_GInst_pure, r_sl_st_GInst_pure, r_st_GMiss_pure])⟩, List.forall_mem_cons.2 ⟨⟨⟨_, rfl, Wv.refl _⟩, (by simp [pureA, pureL, pureR, inA, inL, inR, inO, idsIn, encs_pure, enxs_pure, enys_pure, valC_pure, exC_pure, tyC_pure, r_int_u8_pure, r_st_GInst_pure, r_sl_st_GInst_pure, r_st_GMiss_pure])⟩, List.forall_mem_cons.2 ⟨⟨⟨_, rfl, Wv.refl _⟩, (by simp [pureA, pureL, pureR, inA, inL, inR, inO, idsIn, encs_pure, enxs_pure, enys_pure, valC_pure, exC_pure, tyC_pure, r_int_u8_pure, r_st_GInst_pure, r_sl_st_GInst_pure, r_st_GMiss_pure])⟩, List.forall_mem_cons.2 ⟨⟨⟨_, rfl, Wv.refl _⟩, (by simp [pureA, pureL, pureR, inA, inL, inR, inO, idsIn, encs_pure, enxs_pure, enys_pure, valC_pure, exC_pure, tyC_pure, r_int_u8_pure, r_st_GInst_pure, r_sl_st_GInst_pure, r_st_GMiss_pure])⟩, (fun _ h => by cases h)⟩⟩⟩⟩⟩⟩⟩, List.forall_mem_cons.2 ⟨⟨⟨_, rfl, ⟨rfl, rfl, rfl⟩⟩, (by simp [pureA, pureL, pureR, inA, inL, inR, inO, idsIn, encs_pure, enxs_pure, enys_pure, valC_pure, exC_pure, tyC_pure, r_int_u8_pure, r_st_GInst_pure, r_sl_st_GInst_pure, r_st_GMiss_pure])⟩, (fun _ h => by cases h)⟩⟩, ⟨hr, Nat.le_of_succ_le hm⟩, Nat.lt_succ_self _⟩
              · replace hr := cnd_f h171 hr
                refine AW.exit ?_
                refine AW.region (M := fun _ => true) ?_
                refine AL.v good (d := 94) (v := .sl (.own 0) 7 (r_st_GInst v5_1)) rfl rfl rfl rfl ?_
                refine AL.v good (d := 95) (v := .int .i64 (IntKind.i64.wrap (1 + (IntKind.i64.wrap ((x103.tmod 4)))))) rfl rfl rfl rfl ?_
                refine AL.bld good (d := 96) (l := [.str ⟨#[101, 109, 105, 116]⟩, .int .i64 0, .int .i64 0, .bool false, .str ⟨#[]⟩, .sl .nil 0 [], .int .i64 (IntKind.i64.wrap (1 + (IntKind.i64.wrap ((x103.tmod 4)))))]) rfl rfl rfl rfl rfl rfl rfl ?_
                refine AL.lit good (d := 97) (rows := [[.str ⟨#[101, 109, 105, 116]⟩, .int .i64 0, .int .i64 0, .bool false, .str ⟨#[]⟩, .sl .nil 0 [], .int .i64 (IntKind.i64.wrap (1 + (IntKind.i64.wrap ((x103.tmod 4)))))]]) rfl rfl rfl rfl rfl rfl rfl rfl rfl 1 rfl ?_
                obtain ⟨h192, hr⟩ := grd hr
                refine AL.aw2 good (d := 98) (rows := r_st_GInst v5_1) (news := [[.str (((GInst.mk ⟨#[101, 109, 105, 116]⟩ (Val.mk 0 0 false ⟨#[]⟩ []) (IntKind.i64.wrap (1 + (IntKind.i64.wrap ((x103.tmod 4))))))).f0), .int .i64 ((((GInst.mk ⟨#[101, 109, 105, 116]⟩ (Val.mk 0 0 false ⟨#[]⟩ []) (IntKind.i64.wrap (1 + (IntKind.i64.wrap ((x103.tmod 4))))))).f1).kind), .int .i64 ((((GInst.mk ⟨#[101, 109, 105, 116]⟩ (Val.mk 0 0 false ⟨#[]⟩ []) (IntKind.i64.wrap (1 + (IntKind.i64.wrap ((x103.tmod 4))))))).f1).i), .bool ((((GInst.mk ⟨#[101, 109, 105, 116]⟩ (Val.mk 0 0 false ⟨#[]⟩ []) (IntKind.i64.wrap (1 + (IntKind.i64.wrap ((x103.tmod 4))))))).f1).b), .str ((((GInst.mk ⟨#[101, 109, 105, 116]⟩ (Val.mk 0 0 false ⟨#[]⟩ []) (IntKind.i64.wrap (1 + (IntKind.i64.wrap ((x103.tmod 4))))))).f1).s), .sl .ro 5 (encs ((((GInst.mk ⟨#[101, 109, 105, 116]⟩ (Val.mk 0 0 false ⟨#[]⟩ []) (IntKind.i64.wrap (1 + (IntKind.i64.wrap ((x103.tmod 4))))))).f1).t)), .int .i64 (((GInst.mk ⟨#[101, 109, 105, 116]⟩ (Val.mk 0 0 false ⟨#[]⟩ []) (IntKind.i64.wrap (1 + (IntKind.i64.wrap ((x103.tmod 4))))))).f2)]]) (rows2 := r_st_GInst (v5_1 ++ [(GInst.mk ⟨#[101, 109, 105, 116]⟩ (Val.mk 0 0 false ⟨#[]⟩ []) (IntKind.i64.wrap (1 + (IntKind.i64.wrap ((x103.tmod 4))))))])) rfl rfl rfl rfl rfl rfl rfl rfl rfl (by simp) rfl rfl rfl ⟨⟨Wv.refl _, Wv.refl _, Wv.refl _, Wv.refl _, Wv.refl _, ⟨.inr rfl, trivial, .inr rfl⟩, Wv.refl _, trivial⟩, trivial⟩ (by simp [r_st_GInst, rowF]) (by rw [r_st_GInst_length, List.length_append]; exact h192) rfl ?_
                refine AL.v good (d := 5) (v := .sl (.own 0) 7 (r_st_GInst (v5_1 ++ [(GInst.mk ⟨#[101, 109, 105, 116]⟩ (Val.mk 0 0 false ⟨#[]⟩ []) (IntKind.i64.wrap (1 + (IntKind.i64.wrap ((x103.tmod 4))))))]))) rfl rfl rfl rfl ?_
                refine AW.region (M := fun _ => true) ?_
                refine AL.v good (d := 33) (v := .int .i64 v1_3) rfl rfl rfl rfl ?_
                refine AL.v good (d := 34) (v := .int .i64 (IntKind.i64.wrap (v1_3 + 1))) rfl rfl rfl rfl ?_
                refine AL.v good (d := 7) (v := .int .i64 (IntKind.i64.wrap (v1_3 + 1))) rfl rfl rfl rfl ?_
                exact ⟨(m, (v5_1 ++ [(GInst.mk ⟨#[101, 109, 105, 116]⟩ (Val.mk 0 0 false ⟨#[]⟩ []) (IntKind.i64.wrap (1 + (IntKind.i64.wrap ((x103.tmod 4))))))]), v5_2, (IntKind.i64.wrap (v1_3 + 1))), _, _, rfl, ⟨(fun _ h => by cases h), List.forall_mem_cons.2 ⟨⟨⟨_, rfl, Wv.refl _⟩, (by simp [pureA, pureL, pureR, inA, inL, inR, inO, idsIn, encs_pure, enxs_pure, enys_pure, valC_pure, exC_pure, tyC_pure, r_int_u8_pure, r_st_GInst_pure, r_sl_st_GInst_pure, r_st_GMiss_pure])⟩, List.forall_mem_cons.2 ⟨⟨⟨_, rfl, Wv.refl _⟩, (by simp [pureA, pureL, pureR, inA, inL, inR, inO, idsIn, encs_pure, enxs_pure, enys_pure, valC_pure, exC_pure, tyC_pure, r_int_u8_pure, r_st_GInst_pure, r_sl_st_GInst_pure, r_st_GMiss_pure])⟩, List.forall_mem_cons.2 ⟨⟨⟨_, rfl, Wv.refl _⟩, (by simp [pureA, pureL, pureR, inA, inL, inR, inO, idsIn, encs_pure, enxs_pure, enys_pure, valC_pure, exC_pure, tyC_pure, r_int_u8_pure, r_st_GInst_pure, r_sl_st_GInst_pure, r_st_GMiss_pure])⟩, List.forall_mem_cons.2 ⟨⟨⟨_, rfl, Wv.refl _⟩, (by simp [pureA, pureL, pureR, inA, inL, inR, inO, idsIn, encs_pure, enxs_pure, enys_pure, valC_pure, exC_pure, tyC_pure, r_int_u8_pure, r_st_GInst_pure, r_sl_st_GInst_pure, r_st_GMiss_pure])⟩, List.forall_mem_cons.2 ⟨⟨⟨_, rfl, Wv.refl _⟩, (by simp [pureA, pureL, pureR, inA, inL, inR, inO, idsIn, encs_pure, enxs_pure, enys_pure, valC_pure, exC_pure, tyC_pure, r_int_u8_pure, r_st_GInst_pure, r_sl_st_GInst_pure, r_st_GMiss_pure])⟩, (fun _ h => by cases h)⟩⟩⟩⟩⟩, List.forall_mem_cons.2 ⟨⟨⟨_, rfl, ⟨rfl, rfl, rfl⟩⟩, (by simp [pureA, pureL, pureR, inA, inL, inR, inO, idsIn, encs_pure, enxs_pure, enys_pure, valC_pure, exC_pure, tyC_pure, r_int_u8_pure, r_st_GInst_pure, r_sl_st_GInst_pure, r_st_GMiss_pure])⟩, (fun _ h => by cases h)⟩⟩, ⟨hr, (by (try dsimp only); omega)⟩, (by (try dsimp only); omega)⟩
        · replace hr := cnd_f h102 hr
          refine AW.exit ?_
          refine AW.seq ?_
          refine AW.region (M := fun _ => true) ?_
          refine AL.v good (d := 99) (v := .sl (.own 0) 7 (r_st_GInst v1_1)) rfl rfl rfl rfl ?_
          refine AL.bld good (d := 100) (l := [.str ⟨#[114, 101, 116]⟩, .int .i64 0, .int .i64 0, .bool false, .str ⟨#[]⟩, .sl .nil 0 [], .int .i64 0]) rfl rfl rfl rfl rfl rfl rfl ?_
          refine AL.lit good (d := 101) (rows := [[.str ⟨#[114, 101, 116]⟩, .int .i64 0, .int .i64 0, .bool false, .str ⟨#[]⟩, .sl .nil 0 [], .int .i64 0]]) rfl rfl rfl rfl rfl rfl rfl rfl rfl 1 rfl ?_
          obtain ⟨h193, hr⟩ := grd hr
          refine AL.aw2 good (d := 102) (rows := r_st_GInst v1_1) (news := [[.str (((GInst.mk ⟨#[114, 101, 116]⟩ (Val.mk 0 0 false ⟨#[]⟩ []) 0)).f0), .int .i64 ((((GInst.mk ⟨#[114, 101, 116]⟩ (Val.mk 0 0 false ⟨#[]⟩ []) 0)).f1).kind), .int .i64 ((((GInst.mk ⟨#[114, 101, 116]⟩ (Val.mk 0 0 false ⟨#[]⟩ []) 0)).f1).i), .bool ((((GInst.mk ⟨#[114, 101, 116]⟩ (Val.mk 0 0 false ⟨#[]⟩ []) 0)).f1).b), .str ((((GInst.mk ⟨#[114, 101, 116]⟩ (Val.mk 0 0 false ⟨#[]⟩ []) 0)).f1).s), .sl .ro 5 (encs ((((GInst.mk ⟨#[114, 101, 116]⟩ (Val.mk 0 0 false ⟨#[]⟩ []) 0)).f1).t)), .int .i64 (((GInst.mk ⟨#[114, 101, 116]⟩ (Val.mk 0 0 false ⟨#[]⟩ []) 0)).f2)]]) (rows2 := r_st_GInst (v1_1 ++ [(GInst.mk ⟨#[114, 101, 116]⟩ (Val.mk 0 0 false ⟨#[]⟩ []) 0)])) rfl rfl rfl rfl rfl rfl rfl rfl rfl (by simp) rfl rfl rfl ⟨⟨Wv.refl _, Wv.refl _, Wv.refl _, Wv.refl _, Wv.refl _, ⟨.inr rfl, trivial, .inr rfl⟩, Wv.refl _, trivial⟩, trivial⟩ (by simp [r_st_GInst, rowF]) (by rw [r_st_GInst_length, List.length_append]; exact h193) rfl ?_
          refine AL.v good (d := 5) (v := .sl (.own 0) 7 (r_st_GInst (v1_1 ++ [(GInst.mk ⟨#[114, 101, 116]⟩ (Val.mk 0 0 false ⟨#[]⟩ []) 0)]))) rfl rfl rfl rfl ?_
          refine AW.seq ?_
          refine AW.region (M := fun _ => true) ?_
          refine AL.v good (d := 104) (v := .sl (.own 0) 7 (r_st_GInst (v1_1 ++ [(GInst.mk ⟨#[114, 101, 116]⟩ (Val.mk 0 0 false ⟨#[]⟩ []) 0)]))) rfl rfl rfl rfl ?_
          refine AL.cw good (d := 105) (xs := [.int .i64 0]) (res := .agg [.int .i64 1, .int .i64 0, .bool false, .str ⟨#[]⟩, .sl .ro 5 (encs [])]) rfl rfl rfl rfl rfl rfl rfl (w_f28 0) ⟨(Wv.refl _), trivial⟩ (by simp [pureA, pureL, pureR, inA, inL, inR, inO, idsIn, encs_pure, enxs_pure, enys_pure, valC_pure, exC_pure, tyC_pure, r_int_u8_pure, r_st_GInst_pure, r_sl_st_GInst_pure, r_st_GMiss_pure]) ?_
          obtain ⟨q194, h195, hr⟩ := bnd1 hr
          refine AL.cw good (d := 106) (xs := [.sl .ro 7 (r_st_GInst (v1_1 ++ [(GInst.mk ⟨#[114, 101, 116]⟩ (Val.mk 0 0 false ⟨#[]⟩ []) 0)])), .agg (valC (Val.mk 1 0 false ⟨#[]⟩ []))]) (res := .tup [.sl .ro 5 (encs q194.1), .int .i64 q194.2]) rfl rfl rfl rfl rfl rfl rfl (w_f40 _ _ _ _ h195) ⟨⟨.inr rfl, WvR.refl _, .inl rfl⟩, (Wv.refl _), trivial⟩ (by simp [pureA, pureL, pureR, inA, inL, inR, inO, idsIn, encs_pure, enxs_pure, enys_pure, valC_pure, exC_pure, tyC_pure, r_int_u8_pure, r_st_GInst_pure, r_sl_st_GInst_pure, r_st_GMiss_pure]) ?_
          refine AL.v good (d := 103) (v := .tup [.sl .ro 5 (encs q194.1), .int .i64 q194.2]) rfl rfl rfl rfl ?_
          refine AL.v good (d := 107) (v := .sl .ro 5 (encs q194.1)) rfl rfl rfl rfl ?_
          refine AL.v good (d := 108) (v := .int .i64 q194.2) rfl rfl rfl rfl ?_
          refine AL.v good (d := 10) (v := .sl .ro 5 (encs q194.1)) rfl rfl rfl rfl ?_
          refine AL.v good (d := 11) (v := .int .i64 q194.2) rfl rfl rfl rfl ?_
          refine AW.seq ?_
          refine AW.seq ?_
          refine AW.region (M := fun _ => true) ?_
          refine AL.v good (d := 109) (v := .int .i64 q194.2) rfl rfl rfl rfl ?_
          refine AL.v good (d := 110) (v := .bool (q194.2 != 0)) rfl rfl rfl rfl ?_
          refine AL.vb good (d := 111) (b := (q194.2 != 0)) rfl rfl rfl rfl (fun g196 h197 => ?_)
          refine AL.gv good (d := 112) (c := (!g196)) (v := .sl .ro 5 (encs q194.1)) (rd := []) rfl rfl (by cases g196 <;> rfl) (fun h => by cases g196 <;> first | rfl | exact absurd h (by decide)) ?_
          refine AL.gln good (d := 113) (c := (!g196)) (m := q194.1.length) rfl rfl (by cases g196 <;> rfl) rfl rfl (fun h => by cases g196 <;> first | rfl | exact absurd h (by decide)) (encs_length _) ?_
          refine AL.gv good (d := 114) (c := (!g196)) (v := .int .i64 v1_2) (rd := []) rfl rfl (by cases g196 <;> rfl) (fun h => by cases g196 <;> first | rfl | exact absurd h (by decide)) ?_
          refine AL.gv good (d := 115) (c := (!g196)) (v := .bool ((q194.1.length : Int) != v1_2)) (rd := []) rfl rfl (by cases g196 <;> rfl) (fun h => by cases g196 <;> first | rfl | exact absurd h (by decide)) ?_
          refine AL.v good (d := 116) (v := .bool (g196 || ((q194.1.length : Int) != v1_2))) (rd := []) rfl rfl rfl (by cases g196 <;> rfl) ?_
          subst h197
          refine AW.if rfl (fun h198 => ?_) (fun h198 => ?_)
          · replace hr := cnd_t h198 hr
            refine AW.seq ?_
            refine AW.region (M := fun _ => true) ?_
            refine AL.v good (d := 4) (v := .bool false) rfl rfl rfl rfl ?_
            refine AW.ret ?_
            obtain rfl := Option.some.inj hr
            exact RetQ.w good (.inr rfl) rfl rfl (Wv.refl _) (by simp [pureA, pureL, pureR, inA, inL, inR, inO, idsIn, encs_pure, enxs_pure, enys_pure, valC_pure, exC_pure, tyC_pure, r_int_u8_pure, r_st_GInst_pure, r_sl_st_GInst_pure, r_st_GMiss_pure])
          · replace hr := cnd_f h198 hr
            refine AW.skip ?_
            refine AW.seq ?_
            refine AW.seq ?_
            refine AW.region (M := fun _ => true) ?_
            refine AL.v good (d := 12) (v := .int .i64 0) rfl rfl rfl rfl ?_
            refine AW.block ?_
            refine AW.lpw (fun x : Nat × Int => [(0, .sl .ro 5 (encs a0)), (6, .int .i64 v1_2), (10, .sl .ro 5 (encs q194.1)), (12, .int .i64 x.2)]) (fun x => []) (fun x => s_f14_l6 x.1 a0 v1_2 q194 x.2 = some r ∧ x.1 ≤ m) (fun x => x.1) (m, 0) ⟨(fun _ h => by cases h), List.forall_mem_cons.2 ⟨⟨⟨_, rfl, Wv.refl _⟩, (by simp [pureA, pureL, pureR, inA, inL, inR, inO, idsIn, encs_pure, enxs_pure, enys_pure, valC_pure, exC_pure, tyC_pure, r_int_u8_pure, r_st_GInst_pure, r_sl_st_GInst_pure, r_st_GMiss_pure])⟩, List.forall_mem_cons.2 ⟨⟨⟨_, rfl, Wv.refl _⟩, (by simp [pureA, pureL, pureR, inA, inL, inR, inO, idsIn, encs_pure, enxs_pure, enys_pure, valC_pure, exC_pure, tyC_pure, r_int_u8_pure, r_st_GInst_pure, r_sl_st_GInst_pure, r_st_GMiss_pure])⟩, List.forall_mem_cons.2 ⟨⟨⟨_, rfl, Wv.refl _⟩, (by simp [pureA, pureL, pureR, inA, inL, inR, inO, idsIn, encs_pure, enxs_pure, enys_pure, valC_pure, exC_pure, tyC_pure, r_int_u8_pure, r_st_GInst_pure, r_sl_st_GInst_pure, r_st_GMiss_pure])⟩, List.forall_mem_cons.2 ⟨⟨⟨_, rfl, Wv.refl _⟩, (by simp [pureA, pureL, pureR, inA, inL, inR, inO, idsIn, encs_pure, enxs_pure, enys_pure, valC_pure, exC_pure, tyC_pure, r_int_u8_pure, r_st_GInst_pure, r_sl_st_GInst_pure, r_st_GMiss_pure])⟩, (fun _ h => by cases h)⟩⟩⟩⟩, (fun _ h => by cases h)⟩ ⟨hr, Nat.le_refl _⟩ (fun ⟨m, v6_1⟩ hx => ?_)
            obtain ⟨hr, hm⟩ := hx
            try dsimp only at hr hm
            cases m with
            | zero => rw [s_f14_l6] at hr; cases hr
            | succ m =>
              rw [s_f14_l6] at hr
              show AW Try.prog _ _ _ (mkS 132 [(0, .sl .ro 5 (encs a0)), (6, .int .i64 v1_2), (10, .sl .ro 5 (encs q194.1)), (12, .int .i64 v6_1)] [])
              refine AW.seq ?_
              refine AW.seq ?_
              refine AW.region (M := fun _ => true) ?_
              refine AL.v good (d := 117) (v := .int .i64 v6_1) rfl rfl rfl rfl ?_
              refine AL.v good (d := 118) (v := .int .i64 v1_2) rfl rfl rfl rfl ?_
              refine AL.v good (d := 119) (v := .bool (decide (v6_1 < v1_2))) rfl rfl rfl rfl ?_
              refine AW.if rfl (fun h207 => ?_) (fun h207 => ?_)
              · replace hr := cnd_t h207 hr
                refine AW.skip ?_
                refine AW.seq ?_
                refine AW.block ?_
                refine AW.seq ?_
                refine AW.draw (M := fun i => false) good.wide (by kernel_rfl) ?_
                refine AL.v good (d := 122) (v := .sl .ro 5 (encs q194.1)) rfl rfl rfl rfl ?_
                refine AL.v good (d := 123) (v := .int .i64 v6_1) rfl rfl rfl rfl ?_
                obtain ⟨h210, hr⟩ := grd hr
                obtain ⟨x208, h209, hr⟩ := bnd1 hr
                refine AL.ix good (d := 124) (r := [.int .i64 x208.kind, .int .i64 x208.i, .bool x208.b, .str x208.s, .sl .ro 5 (encs x208.t)]) rfl rfl rfl rfl rfl rfl rfl h210 (encs_get h209) ?_
                refine AL.v good (d := 125) (v := .agg [.int .i64 x208.kind, .int .i64 x208.i, .bool x208.b, .str x208.s, .sl .ro 5 (encs x208.t)]) rfl rfl rfl rfl ?_
                refine AL.v good (d := 126) (v := .sl .ro 5 (encs a0)) rfl rfl rfl rfl ?_
                refine AL.v good (d := 127) (v := .int .i64 v6_1) rfl rfl rfl rfl ?_
                obtain ⟨h213, hr⟩ := grd hr
                obtain ⟨x211, h212, hr⟩ := bnd1 hr
                refine AL.ix good (d := 128) (r := [.int .i64 x211.kind, .int .i64 x211.i, .bool x211.b, .str x211.s, .sl .ro 5 (encs x211.t)]) rfl rfl rfl rfl rfl rfl rfl h213 (encs_get h212) ?_
                refine AL.v good (d := 129) (v := .agg [.int .i64 x211.kind, .int .i64 x211.i, .bool x211.b, .str x211.s, .sl .ro 5 (encs x211.t)]) rfl rfl rfl rfl ?_
                refine AL.cw good (d := 130) (xs := [.agg (valC x208), .agg (valC x211)]) (res := .bool (cmpV x208 x211 == 0)) rfl rfl rfl rfl rfl rfl rfl (w35 x208 x211) ⟨(Wv.refl _), (Wv.refl _), trivial⟩ (by simp [pureA, pureL, pureR, inA, inL, inR, inO, idsIn, encs_pure, enxs_pure, enys_pure, valC_pure, exC_pure, tyC_pure, r_int_u8_pure, r_st_GInst_pure, r_sl_st_GInst_pure, r_st_GMiss_pure]) ?_
                refine AL.v good (d := 131) (v := .bool (!(cmpV x208 x211 == 0))) rfl rfl rfl rfl ?_
                refine AW.if rfl (fun h214 => ?_) (fun h214 => ?_)
                · replace hr := cnd_t h214 hr
                  refine AW.seq ?_
                  refine AW.region (M := fun _ => true) ?_
                  refine AL.v good (d := 4) (v := .bool false) rfl rfl rfl rfl ?_
                  refine AW.ret ?_
                  obtain rfl := Option.some.inj hr
                  exact RetQ.w good (.inr rfl) rfl rfl (Wv.refl _) (by simp [pureA, pureL, pureR, inA, inL, inR, inO, idsIn, encs_pure, enxs_pure, enys_pure, valC_pure, exC_pure, tyC_pure, r_int_u8_pure, r_st_GInst_pure, r_sl_st_GInst_pure, r_st_GMiss_pure])
                · replace hr := cnd_f h214 hr
                  refine AW.skip ?_
                  refine AW.region (M := fun _ => true) ?_
                  refine AL.v good (d := 120) (v := .int .i64 v6_1) rfl rfl rfl rfl ?_
                  refine AL.v good (d := 121) (v := .int .i64 (IntKind.i64.wrap (v6_1 + 1))) rfl rfl rfl rfl ?_
                  refine AL.v good (d := 12) (v := .int .i64 (IntKind.i64.wrap (v6_1 + 1))) rfl rfl rfl rfl ?_
                  exact ⟨(m, (IntKind.i64.wrap (v6_1 + 1))), _, _, rfl, ⟨(fun _ h => by cases h), List.forall_mem_cons.2 ⟨⟨⟨_, rfl, Wv.refl _⟩, (by simp [pureA, pureL, pureR, inA, inL, inR, inO, idsIn, encs_pure, enxs_pure, enys_pure, valC_pure, exC_pure, tyC_pure, r_int_u8_pure, r_st_GInst_pure, r_sl_st_GInst_pure, r_st_GMiss_pure])⟩, List.forall_mem_cons.2 ⟨⟨⟨_, rfl, Wv.refl _⟩, (by simp [pureA, pureL, pureR, inA, inL, inR, inO, idsIn, encs_pure, enxs_pure, enys_pure, valC_pure, exC_pure, tyC_pure, r_int_u8_pure, r_st_GInst_pure, r_sl_st_GInst_pure, r_st_GMiss_pure])⟩, List.forall_mem_cons.2 ⟨⟨⟨_, rfl, Wv.refl _⟩, (by simp [pureA, pureL, pureR, inA, inL, inR, inO, idsIn, encs_pure, enxs_pure, enys_pure, valC_pure, exC_pure, tyC_pure, r_int_u8_pure, r_st_GInst_pure, r_sl_st_GInst_pure, r_st_GMiss_pure])⟩, List.forall_mem_cons.2 ⟨⟨⟨_, rfl, Wv.refl _⟩, (by simp [pureA, pureL, pureR, inA, inL, inR, inO, idsIn, encs_pure, enxs_pure, enys_pure, valC_pure, exC_pure, tyC_pure, r_int_u8_pure, r_st_GInst_pure, r_sl_st_GInst_pure, r_st_GMiss_pure])⟩, (fun _ h => by cases h)⟩⟩⟩⟩, (fun _ h => by cases h)⟩, ⟨hr, Nat.le_of_succ_le hm⟩, Nat.lt_succ_self _⟩
              · replace hr := cnd_f h207 hr
                refine AW.exit ?_
                refine AW.seq ?_
                refine AW.region (M := fun _ => true) ?_
                refine AL.v good (d := 4) (v := .bool true) rfl rfl rfl rfl ?_
                refine AW.ret ?_
                obtain rfl := Option.some.inj hr
                exact RetQ.w good (.inr rfl) rfl rfl (Wv.refl _) (by simp [pureA, pureL, pureR, inA, inL, inR, inO, idsIn, encs_pure, enxs_pure, enys_pure, valC_pure, exC_pure, tyC_pure, r_int_u8_pure, r_st_GInst_pure, r_sl_st_GInst_pure, r_st_GMiss_pure])

end Go.Proofs.Ytbcjcekoonebiaa.Tl
