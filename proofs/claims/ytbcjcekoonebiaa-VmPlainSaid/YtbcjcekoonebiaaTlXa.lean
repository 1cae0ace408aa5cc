/- Definitions and walks: values of the document. Conditions: none. -/
import Derived.Test.YtbcjcekoonebiaaTlXs
set_option linter.unusedVariables false
set_option linter.unusedSimpArgs false
namespace Go.Proofs.Ytbcjcekoonebiaa.Tl
open Go Go.RowKit



def s_f100 (n : Nat) (a0 : Bool) : Option Int :=
  (bif a0 then some (-1) else some 1)

theorem w_f100 (n : Nat) (a0 : Bool) (r : Int) (hr : s_f100 n a0 = some r) : ACall Try.prog 100 [.bool a0] (.int .i64 r) := by
  refine ACall.go [(0, .bool a0)] Try.func100 rfl Try.ntmps100 rfl rfl (by simp [pureA, pureL, pureR, inA, inL, inR, inO, idsIn, encs_pure, enxs_pure, enys_pure, valC_pure, exC_pure, tyC_pure]) ?_
  rw [s_f100] at hr
  refine AW.seq ?_
  refine AW.region (M := fun _ => true) ?_
  refine AL.v good (d := 2) (v := .int .i64 0) rfl rfl rfl rfl ?_
  refine AW.seq ?_
  refine AW.seq ?_
  refine AW.region (M := fun _ => true) ?_
  refine AL.v good (d := 3) (v := .bool a0) rfl rfl rfl rfl ?_
  refine AW.if rfl (fun h1 => ?_) (fun h1 => ?_)
  · replace hr := cnd_t h1 hr
    refine AW.seq ?_
    refine AW.region (M := fun _ => true) ?_
    refine AL.v good (d := 2) (v := .int .i64 (-1)) rfl rfl rfl rfl ?_
    refine AW.ret ?_
    obtain rfl := Option.some.inj hr
    exact RetQ.w good (.inr rfl) rfl rfl (Wv.refl _) (by simp [pureA, pureL, pureR, inA, inL, inR, inO, idsIn, encs_pure, enxs_pure, enys_pure, valC_pure, exC_pure, tyC_pure])
  · replace hr := cnd_f h1 hr
    refine AW.skip ?_
    refine AW.seq ?_
    refine AW.region (M := fun _ => true) ?_
    refine AL.v good (d := 2) (v := .int .i64 1) rfl rfl rfl rfl ?_
    refine AW.ret ?_
    obtain rfl := Option.some.inj hr
    exact RetQ.w good (.inr rfl) rfl rfl (Wv.refl _) (by simp [pureA, pureL, pureR, inA, inL, inR, inO, idsIn, encs_pure, enxs_pure, enys_pure, valC_pure, exC_pure, tyC_pure])

mutual
def s_f68 : Nat → Val → Int → Option Int
  | 0, _, _ => none
  | n + 1, a0, a1 => (bif ((decide (a0.kind < 1)) || (decide (a0.kind > 4))) then some 5 else (bif (((((a0.kind != 1) && (a0.i != 0)) || ((a0.kind != 2) && a0.b)) || ((a0.kind != 3) && (a0.s.data.toList != []))) || ((a0.kind != 4) && (decide ((a0.t.length : Int) > 0)))) then some 2 else (bif (decide ((a0.s.size : Int) > 255)) then some 4 else (bif (a0.kind != 4) then some 0 else (bif ((a0.t.length : Int) == 0) then some 1 else (bif (decide ((a0.t.length : Int) > 8)) then some 10 else (bif (decide (a1 > 4)) then some 9 else (s_f68_l1 n a0 a1 0))))))))
def s_f68_l1 : Nat → Val → Int → Nat → Option Int
  | 0, _, _, _ => none
  | n + 1, a0, a1, v1_1 => (bif (decide ((v1_1 : Int) < (a0.t.length : Int))) then ((a0.t[v1_1]?).bind fun x33 => ((s_f68 n x33 (IntKind.i64.wrap (a1 + 1))).bind fun q35 => (bif (q35 != 0) then some q35 else (s_f68_l1 n a0 a1 (v1_1 + 1))))) else some 0)
end

theorem w_f68_a (n : Nat) (ih : ∀ (m : Nat) (a0 : Val) (a1 : Int) (r : Int), s_f68 m a0 a1 = some r → m < n → ACall Try.prog 68 [.agg (valC a0), .int .i64 a1] (.int .i64 r)) (a0 : Val) (a1 : Int) (r : Int) (hr : s_f68 n a0 a1 = some r) : ACall Try.prog 68 [.agg (valC a0), .int .i64 a1] (.int .i64 r) := by
  refine ACall.go [(0, .agg (valC a0)), (1, .int .i64 a1)] Try.func68 rfl Try.ntmps68 rfl rfl (by simp [pureA, pureL, pureR, inA, inL, inR, inO, idsIn, encs_pure, enxs_pure, enys_pure, valC_pure, exC_pure, tyC_pure]) ?_
  cases n with
  | zero => rw [s_f68] at hr; cases hr
  | succ n =>
    rw [s_f68] at hr
    refine AW.seq ?_
    refine AW.region (M := fun _ => true) ?_
    refine AL.bx good (d := 2) (l := [.int .i64 a0.kind, .int .i64 a0.i, .bool a0.b, .str a0.s, .sl .ro 5 (encs a0.t)]) rfl rfl rfl rfl rfl rfl 0 rfl ?_
    refine AL.v good (d := 4) (v := .int .i64 0) rfl rfl rfl rfl ?_
    refine AW.seq ?_
    refine AW.block ?_
    refine AW.seq ?_
    refine AW.region (M := fun _ => true) ?_
    refine AL.v good (d := 8) (v := .ptr 0 0) rfl rfl rfl rfl ?_
    refine AL.v good (d := 9) (v := .int .i64 a0.kind) rfl rfl rfl rfl ?_
    refine AL.v good (d := 10) (v := .bool (decide (a0.kind < 1))) rfl rfl rfl rfl ?_
    refine AL.vb good (d := 11) (b := (decide (a0.kind < 1))) rfl rfl rfl rfl (fun g1 h2 => ?_)
    refine AL.gv good (d := 12) (c := (!g1)) (v := .ptr 0 0) (rd := []) rfl rfl (by cases g1 <;> rfl) (fun h => by cases g1 <;> first | rfl | exact absurd h (by decide)) ?_
    refine AL.gv good (d := 13) (c := (!g1)) (v := .int .i64 a0.kind) (rd := [(0, .box 33 [.int .i64 a0.kind, .int .i64 a0.i, .bool a0.b, .str a0.s, .sl .ro 5 (encs a0.t)])]) rfl rfl (by cases g1 <;> rfl) (fun h => by cases g1 <;> first | rfl | exact absurd h (by decide)) ?_
    refine AL.gv good (d := 14) (c := (!g1)) (v := .bool (decide (a0.kind > 4))) (rd := []) rfl rfl (by cases g1 <;> rfl) (fun h => by cases g1 <;> first | rfl | exact absurd h (by decide)) ?_
    refine AL.v good (d := 15) (v := .bool (g1 || (decide (a0.kind > 4)))) (rd := []) rfl rfl rfl (by cases g1 <;> rfl) ?_
    refine AL.v good (d := 7) (v := .bool (g1 || (decide (a0.kind > 4)))) rfl rfl rfl rfl ?_
    subst h2
    refine AW.if rfl (fun h3 => ?_) (fun h3 => ?_)
    · replace hr := cnd_t h3 hr
      refine AW.seq ?_
      refine AW.region (M := fun _ => true) ?_
      refine AL.v good (d := 4) (v := .int .i64 5) rfl rfl rfl rfl ?_
      refine AW.ret ?_
      obtain rfl := Option.some.inj hr
      exact RetQ.w good (.inr rfl) rfl rfl (Wv.refl _) (by simp [pureA, pureL, pureR, inA, inL, inR, inO, idsIn, encs_pure, enxs_pure, enys_pure, valC_pure, exC_pure, tyC_pure])
    · replace hr := cnd_f h3 hr
      refine AW.seq ?_
      refine AW.region (M := fun _ => true) ?_
      refine AL.v good (d := 17) (v := .ptr 0 0) rfl rfl rfl rfl ?_
      refine AL.v good (d := 18) (v := .int .i64 a0.kind) rfl rfl rfl rfl ?_
      refine AL.v good (d := 19) (v := .bool (a0.kind != 1)) rfl rfl rfl rfl ?_
      refine AL.vb good (d := 20) (b := (a0.kind != 1)) rfl rfl rfl rfl (fun g4 h5 => ?_)
      refine AL.gv good (d := 21) (c := g4) (v := .ptr 0 1) (rd := []) rfl rfl (by cases g4 <;> rfl) (fun h => by cases g4 <;> first | rfl | exact absurd h (by decide)) ?_
      refine AL.gv good (d := 22) (c := g4) (v := .int .i64 a0.i) (rd := [(0, .box 33 [.int .i64 a0.kind, .int .i64 a0.i, .bool a0.b, .str a0.s, .sl .ro 5 (encs a0.t)])]) rfl rfl (by cases g4 <;> rfl) (fun h => by cases g4 <;> first | rfl | exact absurd h (by decide)) ?_
      refine AL.gv good (d := 23) (c := g4) (v := .bool (a0.i != 0)) (rd := []) rfl rfl (by cases g4 <;> rfl) (fun h => by cases g4 <;> first | rfl | exact absurd h (by decide)) ?_
      refine AL.v good (d := 24) (v := .bool (g4 && (a0.i != 0))) (rd := []) rfl rfl rfl (by cases g4 <;> rfl) ?_
      refine AL.vb good (d := 25) (b := (g4 && (a0.i != 0))) rfl rfl rfl rfl (fun g6 h7 => ?_)
      refine AL.gv good (d := 26) (c := (!g6)) (v := .ptr 0 0) (rd := []) rfl rfl (by cases g6 <;> rfl) (fun h => by cases g6 <;> first | rfl | exact absurd h (by decide)) ?_
      refine AL.gv good (d := 27) (c := (!g6)) (v := .int .i64 a0.kind) (rd := [(0, .box 33 [.int .i64 a0.kind, .int .i64 a0.i, .bool a0.b, .str a0.s, .sl .ro 5 (encs a0.t)])]) rfl rfl (by cases g6 <;> rfl) (fun h => by cases g6 <;> first | rfl | exact absurd h (by decide)) ?_
      refine AL.gv good (d := 28) (c := (!g6)) (v := .bool (a0.kind != 2)) (rd := []) rfl rfl (by cases g6 <;> rfl) (fun h => by cases g6 <;> first | rfl | exact absurd h (by decide)) ?_
      refine AL.gvb good (d := 29) (c := (!g6)) (r := (a0.kind != 2)) (rd := []) rfl rfl (by cases g6 <;> rfl) (fun h => by cases g6 <;> first | rfl | exact absurd h (by decide)) (fun g8 h9 => ?_)
      refine AL.gv good (d := 30) (c := ((!g6) && g8)) (v := .ptr 0 2) (rd := []) rfl rfl (by cases g6 <;> cases g8 <;> rfl) (fun h => by cases g6 <;> cases g8 <;> first | rfl | exact absurd h (by decide)) ?_
      refine AL.gv good (d := 31) (c := ((!g6) && g8)) (v := .bool a0.b) (rd := [(0, .box 33 [.int .i64 a0.kind, .int .i64 a0.i, .bool a0.b, .str a0.s, .sl .ro 5 (encs a0.t)])]) rfl rfl (by cases g6 <;> cases g8 <;> rfl) (fun h => by cases g6 <;> cases g8 <;> first | rfl | exact absurd h (by decide)) ?_
      refine AL.gv good (d := 32) (c := (!g6)) (v := .bool (g8 && a0.b)) (rd := []) rfl rfl (by cases g6 <;> cases g8 <;> rfl) (fun h => by cases g6 <;> cases g8 <;> first | rfl | exact absurd h (by decide)) ?_
      refine AL.v good (d := 33) (v := .bool (g6 || (g8 && a0.b))) (rd := []) rfl rfl rfl (by cases g6 <;> rfl) ?_
      refine AL.vb good (d := 34) (b := (g6 || (g8 && a0.b))) rfl rfl rfl rfl (fun g10 h11 => ?_)
      refine AL.gv good (d := 35) (c := (!g10)) (v := .ptr 0 0) (rd := []) rfl rfl (by cases g10 <;> rfl) (fun h => by cases g10 <;> first | rfl | exact absurd h (by decide)) ?_
      refine AL.gv good (d := 36) (c := (!g10)) (v := .int .i64 a0.kind) (rd := [(0, .box 33 [.int .i64 a0.kind, .int .i64 a0.i, .bool a0.b, .str a0.s, .sl .ro 5 (encs a0.t)])]) rfl rfl (by cases g10 <;> rfl) (fun h => by cases g10 <;> first | rfl | exact absurd h (by decide)) ?_
      refine AL.gv good (d := 37) (c := (!g10)) (v := .bool (a0.kind != 3)) (rd := []) rfl rfl (by cases g10 <;> rfl) (fun h => by cases g10 <;> first | rfl | exact absurd h (by decide)) ?_
      refine AL.gvb good (d := 38) (c := (!g10)) (r := (a0.kind != 3)) (rd := []) rfl rfl (by cases g10 <;> rfl) (fun h => by cases g10 <;> first | rfl | exact absurd h (by decide)) (fun g12 h13 => ?_)
      refine AL.gv good (d := 39) (c := ((!g10) && g12)) (v := .ptr 0 3) (rd := []) rfl rfl (by cases g10 <;> cases g12 <;> rfl) (fun h => by cases g10 <;> cases g12 <;> first | rfl | exact absurd h (by decide)) ?_
      refine AL.gv good (d := 40) (c := ((!g10) && g12)) (v := .str a0.s) (rd := [(0, .box 33 [.int .i64 a0.kind, .int .i64 a0.i, .bool a0.b, .str a0.s, .sl .ro 5 (encs a0.t)])]) rfl rfl (by cases g10 <;> cases g12 <;> rfl) (fun h => by cases g10 <;> cases g12 <;> first | rfl | exact absurd h (by decide)) ?_
      refine AL.gsb good (d := 41) (c := ((!g10) && g12)) (b := (a0.s.data.toList != [])) rfl rfl (by cases g10 <;> cases g12 <;> rfl) rfl (fun h => by cases g10 <;> cases g12 <;> first | rfl | exact absurd h (by decide)) (fun h => by cases g10 <;> cases g12 <;> first | rfl | exact absurd h (by decide)) rfl ?_
      refine AL.gv good (d := 42) (c := (!g10)) (v := .bool (g12 && (a0.s.data.toList != []))) (rd := []) rfl rfl (by cases g10 <;> cases g12 <;> rfl) (fun h => by cases g10 <;> cases g12 <;> first | rfl | exact absurd h (by decide)) ?_
      refine AL.v good (d := 43) (v := .bool (g10 || (g12 && (a0.s.data.toList != [])))) (rd := []) rfl rfl rfl (by cases g10 <;> rfl) ?_
      refine AL.vb good (d := 44) (b := (g10 || (g12 && (a0.s.data.toList != [])))) rfl rfl rfl rfl (fun g14 h15 => ?_)
      refine AL.gv good (d := 45) (c := (!g14)) (v := .ptr 0 0) (rd := []) rfl rfl (by cases g14 <;> rfl) (fun h => by cases g14 <;> first | rfl | exact absurd h (by decide)) ?_
      refine AL.gv good (d := 46) (c := (!g14)) (v := .int .i64 a0.kind) (rd := [(0, .box 33 [.int .i64 a0.kind, .int .i64 a0.i, .bool a0.b, .str a0.s, .sl .ro 5 (encs a0.t)])]) rfl rfl (by cases g14 <;> rfl) (fun h => by cases g14 <;> first | rfl | exact absurd h (by decide)) ?_
      refine AL.gv good (d := 47) (c := (!g14)) (v := .bool (a0.kind != 4)) (rd := []) rfl rfl (by cases g14 <;> rfl) (fun h => by cases g14 <;> first | rfl | exact absurd h (by decide)) ?_
      refine AL.gvb good (d := 48) (c := (!g14)) (r := (a0.kind != 4)) (rd := []) rfl rfl (by cases g14 <;> rfl) (fun h => by cases g14 <;> first | rfl | exact absurd h (by decide)) (fun g16 h17 => ?_)
      refine AL.gv good (d := 49) (c := ((!g14) && g16)) (v := .ptr 0 4) (rd := []) rfl rfl (by cases g14 <;> cases g16 <;> rfl) (fun h => by cases g14 <;> cases g16 <;> first | rfl | exact absurd h (by decide)) ?_
      refine AL.gv good (d := 50) (c := ((!g14) && g16)) (v := .sl .ro 5 (encs a0.t)) (rd := [(0, .box 33 [.int .i64 a0.kind, .int .i64 a0.i, .bool a0.b, .str a0.s, .sl .ro 5 (encs a0.t)])]) rfl rfl (by cases g14 <;> cases g16 <;> rfl) (fun h => by cases g14 <;> cases g16 <;> first | rfl | exact absurd h (by decide)) ?_
      refine AL.gln good (d := 51) (c := ((!g14) && g16)) (m := a0.t.length) rfl rfl (by cases g14 <;> cases g16 <;> rfl) rfl rfl (fun h => by cases g14 <;> cases g16 <;> first | rfl | exact absurd h (by decide)) (encs_length _) ?_
      refine AL.gv good (d := 52) (c := ((!g14) && g16)) (v := .bool (decide ((a0.t.length : Int) > 0))) (rd := []) rfl rfl (by cases g14 <;> cases g16 <;> rfl) (fun h => by cases g14 <;> cases g16 <;> first | rfl | exact absurd h (by decide)) ?_
      refine AL.gv good (d := 53) (c := (!g14)) (v := .bool (g16 && (decide ((a0.t.length : Int) > 0)))) (rd := []) rfl rfl (by cases g14 <;> cases g16 <;> rfl) (fun h => by cases g14 <;> cases g16 <;> first | rfl | exact absurd h (by decide)) ?_
      refine AL.v good (d := 54) (v := .bool (g14 || (g16 && (decide ((a0.t.length : Int) > 0))))) (rd := []) rfl rfl rfl (by cases g14 <;> rfl) ?_
      refine AL.v good (d := 16) (v := .bool (g14 || (g16 && (decide ((a0.t.length : Int) > 0))))) rfl rfl rfl rfl ?_
      subst h5 h7 h9 h11 h13 h15 h17
      refine AW.if rfl (fun h18 => ?_) (fun h18 => ?_)
      · replace hr := cnd_t h18 hr
        refine AW.seq ?_
        refine AW.region (M := fun _ => true) ?_
        refine AL.v good (d := 4) (v := .int .i64 2) rfl rfl rfl rfl ?_
        refine AW.ret ?_
        obtain rfl := Option.some.inj hr
        exact RetQ.w good (.inr rfl) rfl rfl (Wv.refl _) (by simp [pureA, pureL, pureR, inA, inL, inR, inO, idsIn, encs_pure, enxs_pure, enys_pure, valC_pure, exC_pure, tyC_pure])
      · replace hr := cnd_f h18 hr
        refine AW.seq ?_
        refine AW.region (M := fun _ => true) ?_
        refine AL.v good (d := 56) (v := .ptr 0 3) rfl rfl rfl rfl ?_
        refine AL.v good (d := 57) (v := .str a0.s) rfl rfl rfl rfl ?_
        refine AL.v good (d := 58) (v := .int .i64 (a0.s.size : Int)) rfl rfl rfl rfl ?_
        refine AL.v good (d := 59) (v := .bool (decide ((a0.s.size : Int) > 255))) rfl rfl rfl rfl ?_
        refine AL.v good (d := 55) (v := .bool (decide ((a0.s.size : Int) > 255))) rfl rfl rfl rfl ?_
        refine AW.if rfl (fun h19 => ?_) (fun h19 => ?_)
        · replace hr := cnd_t h19 hr
          refine AW.seq ?_
          refine AW.region (M := fun _ => true) ?_
          refine AL.v good (d := 4) (v := .int .i64 4) rfl rfl rfl rfl ?_
          refine AW.ret ?_
          obtain rfl := Option.some.inj hr
          exact RetQ.w good (.inr rfl) rfl rfl (Wv.refl _) (by simp [pureA, pureL, pureR, inA, inL, inR, inO, idsIn, encs_pure, enxs_pure, enys_pure, valC_pure, exC_pure, tyC_pure])
        · replace hr := cnd_f h19 hr
          refine AW.seq ?_
          refine AW.region (M := fun _ => true) ?_
          refine AL.v good (d := 61) (v := .ptr 0 0) rfl rfl rfl rfl ?_
          refine AL.v good (d := 62) (v := .int .i64 a0.kind) rfl rfl rfl rfl ?_
          refine AL.v good (d := 63) (v := .bool (a0.kind != 4)) rfl rfl rfl rfl ?_
          refine AL.v good (d := 60) (v := .bool (a0.kind != 4)) rfl rfl rfl rfl ?_
          refine AW.if rfl (fun h20 => ?_) (fun h20 => ?_)
          · replace hr := cnd_t h20 hr
            refine AW.seq ?_
            refine AW.region (M := fun _ => true) ?_
            refine AL.v good (d := 4) (v := .int .i64 0) rfl rfl rfl rfl ?_
            refine AW.ret ?_
            obtain rfl := Option.some.inj hr
            exact RetQ.w good (.inr rfl) rfl rfl (Wv.refl _) (by simp [pureA, pureL, pureR, inA, inL, inR, inO, idsIn, encs_pure, enxs_pure, enys_pure, valC_pure, exC_pure, tyC_pure])
          · replace hr := cnd_f h20 hr
            refine AW.seq ?_
            refine AW.region (M := fun _ => true) ?_
            refine AL.v good (d := 65) (v := .ptr 0 4) rfl rfl rfl rfl ?_
            refine AL.v good (d := 66) (v := .sl .ro 5 (encs a0.t)) rfl rfl rfl rfl ?_
            refine AL.ln good (d := 67) (m := a0.t.length) rfl rfl rfl rfl rfl rfl (encs_length _) ?_
            refine AL.v good (d := 68) (v := .bool ((a0.t.length : Int) == 0)) rfl rfl rfl rfl ?_
            refine AL.v good (d := 64) (v := .bool ((a0.t.length : Int) == 0)) rfl rfl rfl rfl ?_
            refine AW.if rfl (fun h21 => ?_) (fun h21 => ?_)
            · replace hr := cnd_t h21 hr
              refine AW.seq ?_
              refine AW.region (M := fun _ => true) ?_
              refine AL.v good (d := 4) (v := .int .i64 1) rfl rfl rfl rfl ?_
              refine AW.ret ?_
              obtain rfl := Option.some.inj hr
              exact RetQ.w good (.inr rfl) rfl rfl (Wv.refl _) (by simp [pureA, pureL, pureR, inA, inL, inR, inO, idsIn, encs_pure, enxs_pure, enys_pure, valC_pure, exC_pure, tyC_pure])
            · replace hr := cnd_f h21 hr
              refine AW.seq ?_
              refine AW.region (M := fun _ => true) ?_
              refine AL.v good (d := 70) (v := .ptr 0 4) rfl rfl rfl rfl ?_
              refine AL.v good (d := 71) (v := .sl .ro 5 (encs a0.t)) rfl rfl rfl rfl ?_
              refine AL.ln good (d := 72) (m := a0.t.length) rfl rfl rfl rfl rfl rfl (encs_length _) ?_
              refine AL.v good (d := 73) (v := .bool (decide ((a0.t.length : Int) > 8))) rfl rfl rfl rfl ?_
              refine AL.v good (d := 69) (v := .bool (decide ((a0.t.length : Int) > 8))) rfl rfl rfl rfl ?_
              refine AW.if rfl (fun h22 => ?_) (fun h22 => ?_)
              · replace hr := cnd_t h22 hr
                refine AW.seq ?_
                refine AW.region (M := fun _ => true) ?_
                refine AL.v good (d := 4) (v := .int .i64 10) rfl rfl rfl rfl ?_
                refine AW.ret ?_
                obtain rfl := Option.some.inj hr
                exact RetQ.w good (.inr rfl) rfl rfl (Wv.refl _) (by simp [pureA, pureL, pureR, inA, inL, inR, inO, idsIn, encs_pure, enxs_pure, enys_pure, valC_pure, exC_pure, tyC_pure])
              · replace hr := cnd_f h22 hr
                refine AW.seq ?_
                refine AW.region (M := fun _ => true) ?_
                refine AL.v good (d := 75) (v := .int .i64 a1) rfl rfl rfl rfl ?_
                refine AL.v good (d := 76) (v := .bool (decide (a1 > 4))) rfl rfl rfl rfl ?_
                refine AL.v good (d := 74) (v := .bool (decide (a1 > 4))) rfl rfl rfl rfl ?_
                refine AW.if rfl (fun h23 => ?_) (fun h23 => ?_)
                · replace hr := cnd_t h23 hr
                  refine AW.seq ?_
                  refine AW.region (M := fun _ => true) ?_
                  refine AL.v good (d := 4) (v := .int .i64 9) rfl rfl rfl rfl ?_
                  refine AW.ret ?_
                  obtain rfl := Option.some.inj hr
                  exact RetQ.w good (.inr rfl) rfl rfl (Wv.refl _) (by simp [pureA, pureL, pureR, inA, inL, inR, inO, idsIn, encs_pure, enxs_pure, enys_pure, valC_pure, exC_pure, tyC_pure])
                · replace hr := cnd_f h23 hr
                  refine AW.skip ?_
                  refine AW.seq ?_
                  refine AW.seq ?_
                  refine AW.region (M := fun _ => true) ?_
                  refine AL.v good (d := 5) (v := .int .i64 0) rfl rfl rfl rfl ?_
                  refine AW.block ?_
                  refine AW.lensB 0 rfl (fun hl31 => ?_)
                  replace hl31 : a0.t.length ≤ 9223372036854775807 := by rw [← encs_length a0.t]; exact hl31.2.2.2.2.1
                  refine AW.lpw (fun x : Nat × Nat => [(1, .int .i64 a1), (2, .ptr 0 0), (5, .int .i64 (x.2 : Int))]) (fun x => [(0, .box 33 [.int .i64 a0.kind, .int .i64 a0.i, .bool a0.b, .str a0.s, .sl .ro 5 (encs a0.t)])]) (fun x => s_f68_l1 x.1 a0 a1 x.2 = some r ∧ x.1 ≤ n) (fun x => x.1) (n, 0) ⟨(fun _ h => by cases h), List.forall_mem_cons.2 ⟨⟨⟨_, rfl, Wv.refl _⟩, (by simp [pureA, pureL, pureR, inA, inL, inR, inO, idsIn, encs_pure, enxs_pure, enys_pure, valC_pure, exC_pure, tyC_pure])⟩, List.forall_mem_cons.2 ⟨⟨⟨_, rfl, Wv.refl _⟩, (by simp [pureA, pureL, pureR, inA, inL, inR, inO, idsIn, encs_pure, enxs_pure, enys_pure, valC_pure, exC_pure, tyC_pure])⟩, List.forall_mem_cons.2 ⟨⟨⟨_, rfl, Wv.refl _⟩, (by simp [pureA, pureL, pureR, inA, inL, inR, inO, idsIn, encs_pure, enxs_pure, enys_pure, valC_pure, exC_pure, tyC_pure])⟩, (fun _ h => by cases h)⟩⟩⟩, List.forall_mem_cons.2 ⟨⟨⟨_, rfl, ⟨rfl, ⟨Wv.refl _, Wv.refl _, Wv.refl _, Wv.refl _, Wv.refl _, trivial⟩⟩⟩, (by simp [pureA, pureL, pureR, inA, inL, inR, inO, idsIn, encs_pure, enxs_pure, enys_pure, valC_pure, exC_pure, tyC_pure])⟩, (fun _ h => by cases h)⟩⟩ ⟨hr, Nat.le_refl _⟩ (fun ⟨m, v1_1⟩ hx => ?_)
                  obtain ⟨hr, hm⟩ := hx
                  try dsimp only at hr hm
                  cases m with
                  | zero => rw [s_f68_l1] at hr; cases hr
                  | succ m =>
                    rw [s_f68_l1] at hr
                    show AW Try.prog _ _ _ (mkS 95 [(1, .int .i64 a1), (2, .ptr 0 0), (5, .int .i64 (v1_1 : Int))] [(0, .box 33 [.int .i64 a0.kind, .int .i64 a0.i, .bool a0.b, .str a0.s, .sl .ro 5 (encs a0.t)])])
                    refine AW.seq ?_
                    refine AW.seq ?_
                    refine AW.region (M := fun _ => true) ?_
                    refine AL.v good (d := 77) (v := .int .i64 (v1_1 : Int)) rfl rfl rfl rfl ?_
                    refine AL.v good (d := 78) (v := .ptr 0 4) rfl rfl rfl rfl ?_
                    refine AL.v good (d := 79) (v := .sl .ro 5 (encs a0.t)) rfl rfl rfl rfl ?_
                    refine AL.ln good (d := 80) (m := a0.t.length) rfl rfl rfl rfl rfl rfl (encs_length _) ?_
                    refine AL.v good (d := 81) (v := .bool (decide ((v1_1 : Int) < (a0.t.length : Int)))) rfl rfl rfl rfl ?_
                    refine AW.if rfl (fun h32 => ?_) (fun h32 => ?_)
                    · replace hr := cnd_t h32 hr
                      refine AW.skip ?_
                      refine AW.seq ?_
                      refine AW.block ?_
                      refine AW.seq ?_
                      refine AW.region (M := fun _ => true) ?_
                      refine AL.v good (d := 84) (v := .ptr 0 4) rfl rfl rfl rfl ?_
                      refine AL.v good (d := 85) (v := .sl .ro 5 (encs a0.t)) rfl rfl rfl rfl ?_
                      refine AL.v good (d := 86) (v := .int .i64 (v1_1 : Int)) rfl rfl rfl rfl ?_
                      obtain ⟨x33, h34, hr⟩ := bnd1 hr
                      refine AL.ix good (d := 87) (r := [.int .i64 x33.kind, .int .i64 x33.i, .bool x33.b, .str x33.s, .sl .ro 5 (encs x33.t)]) rfl rfl rfl rfl rfl rfl rfl (Int.natCast_nonneg _) (encs_get h34) ?_
                      refine AL.v good (d := 88) (v := .agg [.int .i64 x33.kind, .int .i64 x33.i, .bool x33.b, .str x33.s, .sl .ro 5 (encs x33.t)]) rfl rfl rfl rfl ?_
                      refine AL.v good (d := 89) (v := .int .i64 a1) rfl rfl rfl rfl ?_
                      refine AL.v good (d := 90) (v := .int .i64 (IntKind.i64.wrap (a1 + 1))) rfl rfl rfl rfl ?_
                      obtain ⟨q35, h36, hr⟩ := bnd1 hr
                      refine AL.cw good (d := 91) (xs := [.agg (valC x33), .int .i64 (IntKind.i64.wrap (a1 + 1))]) (res := .int .i64 q35) rfl rfl rfl rfl rfl rfl rfl (ih _ _ _ _ h36 (by omega)) ⟨(Wv.refl _), (Wv.refl _), trivial⟩ (by simp [pureA, pureL, pureR, inA, inL, inR, inO, idsIn, encs_pure, enxs_pure, enys_pure, valC_pure, exC_pure, tyC_pure]) ?_
                      refine AL.v good (d := 6) (v := .int .i64 q35) rfl rfl rfl rfl ?_
                      refine AW.seq ?_
                      refine AW.region (M := fun _ => true) ?_
                      refine AL.v good (d := 92) (v := .int .i64 q35) rfl rfl rfl rfl ?_
                      refine AL.v good (d := 93) (v := .bool (q35 != 0)) rfl rfl rfl rfl ?_
                      refine AW.if rfl (fun h37 => ?_) (fun h37 => ?_)
                      · replace hr := cnd_t h37 hr
                        refine AW.seq ?_
                        refine AW.region (M := fun _ => true) ?_
                        refine AL.v good (d := 94) (v := .int .i64 q35) rfl rfl rfl rfl ?_
                        refine AL.v good (d := 4) (v := .int .i64 q35) rfl rfl rfl rfl ?_
                        refine AW.ret ?_
                        obtain rfl := Option.some.inj hr
                        exact RetQ.w good (.inr rfl) rfl rfl (Wv.refl _) (by simp [pureA, pureL, pureR, inA, inL, inR, inO, idsIn, encs_pure, enxs_pure, enys_pure, valC_pure, exC_pure, tyC_pure])
                      · replace hr := cnd_f h37 hr
                        refine AW.skip ?_
                        refine AW.region (M := fun _ => true) ?_
                        refine AL.v good (d := 82) (v := .int .i64 (v1_1 : Int)) rfl rfl rfl rfl ?_
                        refine AL.v good (d := 83) (v := .int .i64 (IntKind.i64.wrap ((v1_1 : Int) + 1))) rfl rfl rfl rfl ?_
                        refine AL.v good (d := 5) (v := .int .i64 (IntKind.i64.wrap ((v1_1 : Int) + 1))) rfl rfl rfl rfl ?_
                        exact ⟨(m, (v1_1 + 1)), _, _, rfl, ⟨(fun _ h => by cases h), List.forall_mem_cons.2 ⟨⟨⟨_, rfl, Wv.refl _⟩, (by simp [pureA, pureL, pureR, inA, inL, inR, inO, idsIn, encs_pure, enxs_pure, enys_pure, valC_pure, exC_pure, tyC_pure])⟩, List.forall_mem_cons.2 ⟨⟨⟨_, rfl, Wv.refl _⟩, (by simp [pureA, pureL, pureR, inA, inL, inR, inO, idsIn, encs_pure, enxs_pure, enys_pure, valC_pure, exC_pure, tyC_pure])⟩, List.forall_mem_cons.2 ⟨⟨⟨_, rfl, (wnx h32 hl31)⟩, (by simp [pureA, pureL, pureR, inA, inL, inR, inO, idsIn, encs_pure, enxs_pure, enys_pure, valC_pure, exC_pure, tyC_pure])⟩, (fun _ h => by cases h)⟩⟩⟩, List.forall_mem_cons.2 ⟨⟨⟨_, rfl, ⟨rfl, ⟨Wv.refl _, Wv.refl _, Wv.refl _, Wv.refl _, Wv.refl _, trivial⟩⟩⟩, (by simp [pureA, pureL, pureR, inA, inL, inR, inO, idsIn, encs_pure, enxs_pure, enys_pure, valC_pure, exC_pure, tyC_pure])⟩, (fun _ h => by cases h)⟩⟩, ⟨hr, Nat.le_of_succ_le hm⟩, Nat.lt_succ_self _⟩
                    · replace hr := cnd_f h32 hr
                      refine AW.exit ?_
                      refine AW.seq ?_
                      refine AW.region (M := fun _ => true) ?_
                      refine AL.v good (d := 4) (v := .int .i64 0) rfl rfl rfl rfl ?_
                      refine AW.ret ?_
                      obtain rfl := Option.some.inj hr
                      exact RetQ.w good (.inr rfl) rfl rfl (Wv.refl _) (by simp [pureA, pureL, pureR, inA, inL, inR, inO, idsIn, encs_pure, enxs_pure, enys_pure, valC_pure, exC_pure, tyC_pure])
theorem w_f68 (n : Nat) : ∀ (a0 : Val) (a1 : Int) (r : Int) (hr : s_f68 n a0 a1 = some r), ACall Try.prog 68 [.agg (valC a0), .int .i64 a1] (.int .i64 r) := by
  induction n using Nat.strongRecOn with
  | _ n ih =>
    intro a0 a1 r hr
    exact w_f68_a n (fun m a0 a1 r h hm => ih m hm a0 a1 r h) a0 a1 r hr

def s_f34 (n : Nat) (a0 : Val) : Option Int :=
  ((s_f68 n a0 0).bind fun q1 => some q1)

theorem w_f34 (n : Nat) (a0 : Val) (r : Int) (hr : s_f34 n a0 = some r) : ACall Try.prog 34 [.agg (valC a0)] (.int .i64 r) := by
  refine ACall.go [(0, .agg (valC a0))] Try.func34 rfl Try.ntmps34 rfl rfl (by simp [pureA, pureL, pureR, inA, inL, inR, inO, idsIn, encs_pure, enxs_pure, enys_pure, valC_pure, exC_pure, tyC_pure]) ?_
  rw [s_f34] at hr
  refine AW.seq ?_
  refine AW.region (M := fun _ => true) ?_
  refine AL.bx good (d := 1) (l := [.int .i64 a0.kind, .int .i64 a0.i, .bool a0.b, .str a0.s, .sl .ro 5 (encs a0.t)]) rfl rfl rfl rfl rfl rfl 0 rfl ?_
  refine AL.v good (d := 2) (v := .int .i64 0) rfl rfl rfl rfl ?_
  refine AW.seq ?_
  refine AW.region (M := fun _ => true) ?_
  refine AL.v good (d := 3) (v := .agg [.int .i64 a0.kind, .int .i64 a0.i, .bool a0.b, .str a0.s, .sl .ro 5 (encs a0.t)]) rfl rfl rfl rfl ?_
  obtain ⟨q1, h2, hr⟩ := bnd1 hr
  refine AL.cw good (d := 4) (xs := [.agg (valC a0), .int .i64 0]) (res := .int .i64 q1) rfl rfl rfl rfl rfl rfl rfl (w_f68 _ _ _ _ h2) ⟨(Wv.refl _), (Wv.refl _), trivial⟩ (by simp [pureA, pureL, pureR, inA, inL, inR, inO, idsIn, encs_pure, enxs_pure, enys_pure, valC_pure, exC_pure, tyC_pure]) ?_
  refine AL.v good (d := 2) (v := .int .i64 q1) rfl rfl rfl rfl ?_
  refine AW.ret ?_
  obtain rfl := Option.some.inj hr
  exact RetQ.w good (.inr rfl) rfl rfl (Wv.refl _) (by simp [pureA, pureL, pureR, inA, inL, inR, inO, idsIn, encs_pure, enxs_pure, enys_pure, valC_pure, exC_pure, tyC_pure])

mutual
def s_f90 : Nat → Val → Int → Int → Option Int
  | 0, _, _, _ => none
  | n + 1, a0, a1, a2 => (bif ((((decide (a2 ≤ 0)) || (decide (a1 ≤ 0))) || (decide ((a0.t.length : Int) > 20))) || (decide ((a0.s.size : Int) > 300))) then some 0 else (s_f90_l1 n a0 a1 (IntKind.i64.wrap (a2 - 1)) 0))
def s_f90_l1 : Nat → Val → Int → Int → Int → Option Int
  | 0, _, _, _, _ => none
  | n + 1, a0, a1, v1_1, v1_2 => (bif ((decide (v1_2 < (a0.t.length : Int))) && (decide (v1_1 > 0))) then (if 0 ≤ v1_2 then ((a0.t[v1_2.toNat]?).bind fun x19 => ((s_f90 n x19 (IntKind.i64.wrap (a1 - 1)) v1_1).bind fun q22 => (s_f90_l1 n a0 a1 q22 (IntKind.i64.wrap (v1_2 + 1))))) else none) else some v1_1)
end

theorem w_f90_a (n : Nat) (ih : ∀ (m : Nat) (a0 : Val) (a1 : Int) (a2 : Int) (r : Int), s_f90 m a0 a1 a2 = some r → m < n → ACall Try.prog 90 [.agg (valC a0), .int .i64 a1, .int .i64 a2] (.int .i64 r)) (a0 : Val) (a1 : Int) (a2 : Int) (r : Int) (hr : s_f90 n a0 a1 a2 = some r) : ACall Try.prog 90 [.agg (valC a0), .int .i64 a1, .int .i64 a2] (.int .i64 r) := by
  refine ACall.go [(0, .agg (valC a0)), (1, .int .i64 a1), (2, .int .i64 a2)] Try.func90 rfl Try.ntmps90 rfl rfl (by simp [pureA, pureL, pureR, inA, inL, inR, inO, idsIn, encs_pure, enxs_pure, enys_pure, valC_pure, exC_pure, tyC_pure]) ?_
  cases n with
  | zero => rw [s_f90] at hr; cases hr
  | succ n =>
    rw [s_f90] at hr
    refine AW.seq ?_
    refine AW.region (M := fun _ => true) ?_
    refine AL.bx good (d := 3) (l := [.int .i64 a0.kind, .int .i64 a0.i, .bool a0.b, .str a0.s, .sl .ro 5 (encs a0.t)]) rfl rfl rfl rfl rfl rfl 0 rfl ?_
    refine AL.v good (d := 6) (v := .int .i64 0) rfl rfl rfl rfl ?_
    refine AW.seq ?_
    refine AW.seq ?_
    refine AW.region (M := fun _ => true) ?_
    refine AL.v good (d := 8) (v := .int .i64 a2) rfl rfl rfl rfl ?_
    refine AL.v good (d := 9) (v := .bool (decide (a2 ≤ 0))) rfl rfl rfl rfl ?_
    refine AL.vb good (d := 10) (b := (decide (a2 ≤ 0))) rfl rfl rfl rfl (fun g1 h2 => ?_)
    refine AL.gv good (d := 11) (c := (!g1)) (v := .int .i64 a1) (rd := []) rfl rfl (by cases g1 <;> rfl) (fun h => by cases g1 <;> first | rfl | exact absurd h (by decide)) ?_
    refine AL.gv good (d := 12) (c := (!g1)) (v := .bool (decide (a1 ≤ 0))) (rd := []) rfl rfl (by cases g1 <;> rfl) (fun h => by cases g1 <;> first | rfl | exact absurd h (by decide)) ?_
    refine AL.v good (d := 13) (v := .bool (g1 || (decide (a1 ≤ 0)))) (rd := []) rfl rfl rfl (by cases g1 <;> rfl) ?_
    refine AL.vb good (d := 14) (b := (g1 || (decide (a1 ≤ 0)))) rfl rfl rfl rfl (fun g3 h4 => ?_)
    refine AL.gv good (d := 15) (c := (!g3)) (v := .ptr 0 4) (rd := []) rfl rfl (by cases g3 <;> rfl) (fun h => by cases g3 <;> first | rfl | exact absurd h (by decide)) ?_
    refine AL.gv good (d := 16) (c := (!g3)) (v := .sl .ro 5 (encs a0.t)) (rd := [(0, .box 24 [.int .i64 a0.kind, .int .i64 a0.i, .bool a0.b, .str a0.s, .sl .ro 5 (encs a0.t)])]) rfl rfl (by cases g3 <;> rfl) (fun h => by cases g3 <;> first | rfl | exact absurd h (by decide)) ?_
    refine AL.gln good (d := 17) (c := (!g3)) (m := a0.t.length) rfl rfl (by cases g3 <;> rfl) rfl rfl (fun h => by cases g3 <;> first | rfl | exact absurd h (by decide)) (encs_length _) ?_
    refine AL.gv good (d := 18) (c := (!g3)) (v := .bool (decide ((a0.t.length : Int) > 20))) (rd := []) rfl rfl (by cases g3 <;> rfl) (fun h => by cases g3 <;> first | rfl | exact absurd h (by decide)) ?_
    refine AL.v good (d := 19) (v := .bool (g3 || (decide ((a0.t.length : Int) > 20)))) (rd := []) rfl rfl rfl (by cases g3 <;> rfl) ?_
    refine AL.vb good (d := 20) (b := (g3 || (decide ((a0.t.length : Int) > 20)))) rfl rfl rfl rfl (fun g5 h6 => ?_)
    refine AL.gv good (d := 21) (c := (!g5)) (v := .ptr 0 3) (rd := []) rfl rfl (by cases g5 <;> rfl) (fun h => by cases g5 <;> first | rfl | exact absurd h (by decide)) ?_
    refine AL.gv good (d := 22) (c := (!g5)) (v := .str a0.s) (rd := [(0, .box 24 [.int .i64 a0.kind, .int .i64 a0.i, .bool a0.b, .str a0.s, .sl .ro 5 (encs a0.t)])]) rfl rfl (by cases g5 <;> rfl) (fun h => by cases g5 <;> first | rfl | exact absurd h (by decide)) ?_
    refine AL.gv good (d := 23) (c := (!g5)) (v := .int .i64 (a0.s.size : Int)) (rd := []) rfl rfl (by cases g5 <;> rfl) (fun h => by cases g5 <;> first | rfl | exact absurd h (by decide)) ?_
    refine AL.gv good (d := 24) (c := (!g5)) (v := .bool (decide ((a0.s.size : Int) > 300))) (rd := []) rfl rfl (by cases g5 <;> rfl) (fun h => by cases g5 <;> first | rfl | exact absurd h (by decide)) ?_
    refine AL.v good (d := 25) (v := .bool (g5 || (decide ((a0.s.size : Int) > 300)))) (rd := []) rfl rfl rfl (by cases g5 <;> rfl) ?_
    subst h2 h4 h6
    refine AW.if rfl (fun h7 => ?_) (fun h7 => ?_)
    · replace hr := cnd_t h7 hr
      refine AW.seq ?_
      refine AW.region (M := fun _ => true) ?_
      refine AL.v good (d := 6) (v := .int .i64 0) rfl rfl rfl rfl ?_
      refine AW.ret ?_
      obtain rfl := Option.some.inj hr
      exact RetQ.w good (.inr rfl) rfl rfl (Wv.refl _) (by simp [pureA, pureL, pureR, inA, inL, inR, inO, idsIn, encs_pure, enxs_pure, enys_pure, valC_pure, exC_pure, tyC_pure])
    · replace hr := cnd_f h7 hr
      refine AW.skip ?_
      refine AW.seq ?_
      refine AW.region (M := fun _ => true) ?_
      refine AL.v good (d := 26) (v := .int .i64 a2) rfl rfl rfl rfl ?_
      refine AL.v good (d := 27) (v := .int .i64 (IntKind.i64.wrap (a2 - 1))) rfl rfl rfl rfl ?_
      refine AL.v good (d := 2) (v := .int .i64 (IntKind.i64.wrap (a2 - 1))) rfl rfl rfl rfl ?_
      refine AW.seq ?_
      refine AW.seq ?_
      refine AW.region (M := fun _ => true) ?_
      refine AL.v good (d := 7) (v := .int .i64 0) rfl rfl rfl rfl ?_
      refine AW.block ?_
      refine AW.lpw (fun x : Nat × Int × Int => [(1, .int .i64 a1), (2, .int .i64 x.2.1), (3, .ptr 0 0), (7, .int .i64 x.2.2)]) (fun x => [(0, .box 24 [.int .i64 a0.kind, .int .i64 a0.i, .bool a0.b, .str a0.s, .sl .ro 5 (encs a0.t)])]) (fun x => s_f90_l1 x.1 a0 a1 x.2.1 x.2.2 = some r ∧ x.1 ≤ n) (fun x => x.1) (n, (IntKind.i64.wrap (a2 - 1)), 0) ⟨(fun _ h => by cases h), List.forall_mem_cons.2 ⟨⟨⟨_, rfl, Wv.refl _⟩, (by simp [pureA, pureL, pureR, inA, inL, inR, inO, idsIn, encs_pure, enxs_pure, enys_pure, valC_pure, exC_pure, tyC_pure])⟩, List.forall_mem_cons.2 ⟨⟨⟨_, rfl, Wv.refl _⟩, (by simp [pureA, pureL, pureR, inA, inL, inR, inO, idsIn, encs_pure, enxs_pure, enys_pure, valC_pure, exC_pure, tyC_pure])⟩, List.forall_mem_cons.2 ⟨⟨⟨_, rfl, Wv.refl _⟩, (by simp [pureA, pureL, pureR, inA, inL, inR, inO, idsIn, encs_pure, enxs_pure, enys_pure, valC_pure, exC_pure, tyC_pure])⟩, List.forall_mem_cons.2 ⟨⟨⟨_, rfl, Wv.refl _⟩, (by simp [pureA, pureL, pureR, inA, inL, inR, inO, idsIn, encs_pure, enxs_pure, enys_pure, valC_pure, exC_pure, tyC_pure])⟩, (fun _ h => by cases h)⟩⟩⟩⟩, List.forall_mem_cons.2 ⟨⟨⟨_, rfl, ⟨rfl, ⟨Wv.refl _, Wv.refl _, Wv.refl _, Wv.refl _, Wv.refl _, trivial⟩⟩⟩, (by simp [pureA, pureL, pureR, inA, inL, inR, inO, idsIn, encs_pure, enxs_pure, enys_pure, valC_pure, exC_pure, tyC_pure])⟩, (fun _ h => by cases h)⟩⟩ ⟨hr, Nat.le_refl _⟩ (fun ⟨m, v1_1, v1_2⟩ hx => ?_)
      obtain ⟨hr, hm⟩ := hx
      try dsimp only at hr hm
      cases m with
      | zero => rw [s_f90_l1] at hr; cases hr
      | succ m =>
        rw [s_f90_l1] at hr
        show AW Try.prog _ _ _ (mkS 49 [(1, .int .i64 a1), (2, .int .i64 v1_1), (3, .ptr 0 0), (7, .int .i64 v1_2)] [(0, .box 24 [.int .i64 a0.kind, .int .i64 a0.i, .bool a0.b, .str a0.s, .sl .ro 5 (encs a0.t)])])
        refine AW.seq ?_
        refine AW.seq ?_
        refine AW.region (M := fun _ => true) ?_
        refine AL.v good (d := 28) (v := .int .i64 v1_2) rfl rfl rfl rfl ?_
        refine AL.v good (d := 29) (v := .ptr 0 4) rfl rfl rfl rfl ?_
        refine AL.v good (d := 30) (v := .sl .ro 5 (encs a0.t)) rfl rfl rfl rfl ?_
        refine AL.ln good (d := 31) (m := a0.t.length) rfl rfl rfl rfl rfl rfl (encs_length _) ?_
        refine AL.v good (d := 32) (v := .bool (decide (v1_2 < (a0.t.length : Int)))) rfl rfl rfl rfl ?_
        refine AL.vb good (d := 33) (b := (decide (v1_2 < (a0.t.length : Int)))) rfl rfl rfl rfl (fun g16 h17 => ?_)
        refine AL.gv good (d := 34) (c := g16) (v := .int .i64 v1_1) (rd := []) rfl rfl (by cases g16 <;> rfl) (fun h => by cases g16 <;> first | rfl | exact absurd h (by decide)) ?_
        refine AL.gv good (d := 35) (c := g16) (v := .bool (decide (v1_1 > 0))) (rd := []) rfl rfl (by cases g16 <;> rfl) (fun h => by cases g16 <;> first | rfl | exact absurd h (by decide)) ?_
        refine AL.v good (d := 36) (v := .bool (g16 && (decide (v1_1 > 0)))) (rd := []) rfl rfl rfl (by cases g16 <;> rfl) ?_
        subst h17
        refine AW.if rfl (fun h18 => ?_) (fun h18 => ?_)
        · replace hr := cnd_t h18 hr
          refine AW.skip ?_
          refine AW.seq ?_
          refine AW.block ?_
          refine AW.region (M := fun _ => true) ?_
          refine AL.v good (d := 39) (v := .ptr 0 4) rfl rfl rfl rfl ?_
          refine AL.v good (d := 40) (v := .sl .ro 5 (encs a0.t)) rfl rfl rfl rfl ?_
          refine AL.v good (d := 41) (v := .int .i64 v1_2) rfl rfl rfl rfl ?_
          obtain ⟨h21, hr⟩ := grd hr
          obtain ⟨x19, h20, hr⟩ := bnd1 hr
          refine AL.ix good (d := 42) (r := [.int .i64 x19.kind, .int .i64 x19.i, .bool x19.b, .str x19.s, .sl .ro 5 (encs x19.t)]) rfl rfl rfl rfl rfl rfl rfl h21 (encs_get h20) ?_
          refine AL.v good (d := 43) (v := .agg [.int .i64 x19.kind, .int .i64 x19.i, .bool x19.b, .str x19.s, .sl .ro 5 (encs x19.t)]) rfl rfl rfl rfl ?_
          refine AL.v good (d := 44) (v := .int .i64 a1) rfl rfl rfl rfl ?_
          refine AL.v good (d := 45) (v := .int .i64 (IntKind.i64.wrap (a1 - 1))) rfl rfl rfl rfl ?_
          refine AL.v good (d := 46) (v := .int .i64 v1_1) rfl rfl rfl rfl ?_
          obtain ⟨q22, h23, hr⟩ := bnd1 hr
          refine AL.cw good (d := 47) (xs := [.agg (valC x19), .int .i64 (IntKind.i64.wrap (a1 - 1)), .int .i64 v1_1]) (res := .int .i64 q22) rfl rfl rfl rfl rfl rfl rfl (ih _ _ _ _ _ h23 (by omega)) ⟨(Wv.refl _), (Wv.refl _), (Wv.refl _), trivial⟩ (by simp [pureA, pureL, pureR, inA, inL, inR, inO, idsIn, encs_pure, enxs_pure, enys_pure, valC_pure, exC_pure, tyC_pure]) ?_
          refine AL.v good (d := 2) (v := .int .i64 q22) rfl rfl rfl rfl ?_
          refine AW.region (M := fun _ => true) ?_
          refine AL.v good (d := 37) (v := .int .i64 v1_2) rfl rfl rfl rfl ?_
          refine AL.v good (d := 38) (v := .int .i64 (IntKind.i64.wrap (v1_2 + 1))) rfl rfl rfl rfl ?_
          refine AL.v good (d := 7) (v := .int .i64 (IntKind.i64.wrap (v1_2 + 1))) rfl rfl rfl rfl ?_
          exact ⟨(m, q22, (IntKind.i64.wrap (v1_2 + 1))), _, _, rfl, ⟨(fun _ h => by cases h), List.forall_mem_cons.2 ⟨⟨⟨_, rfl, Wv.refl _⟩, (by simp [pureA, pureL, pureR, inA, inL, inR, inO, idsIn, encs_pure, enxs_pure, enys_pure, valC_pure, exC_pure, tyC_pure])⟩, List.forall_mem_cons.2 ⟨⟨⟨_, rfl, Wv.refl _⟩, (by simp [pureA, pureL, pureR, inA, inL, inR, inO, idsIn, encs_pure, enxs_pure, enys_pure, valC_pure, exC_pure, tyC_pure])⟩, List.forall_mem_cons.2 ⟨⟨⟨_, rfl, Wv.refl _⟩, (by simp [pureA, pureL, pureR, inA, inL, inR, inO, idsIn, encs_pure, enxs_pure, enys_pure, valC_pure, exC_pure, tyC_pure])⟩, List.forall_mem_cons.2 ⟨⟨⟨_, rfl, Wv.refl _⟩, (by simp [pureA, pureL, pureR, inA, inL, inR, inO, idsIn, encs_pure, enxs_pure, enys_pure, valC_pure, exC_pure, tyC_pure])⟩, (fun _ h => by cases h)⟩⟩⟩⟩, List.forall_mem_cons.2 ⟨⟨⟨_, rfl, ⟨rfl, ⟨Wv.refl _, Wv.refl _, Wv.refl _, Wv.refl _, Wv.refl _, trivial⟩⟩⟩, (by simp [pureA, pureL, pureR, inA, inL, inR, inO, idsIn, encs_pure, enxs_pure, enys_pure, valC_pure, exC_pure, tyC_pure])⟩, (fun _ h => by cases h)⟩⟩, ⟨hr, Nat.le_of_succ_le hm⟩, Nat.lt_succ_self _⟩
        · replace hr := cnd_f h18 hr
          refine AW.exit ?_
          refine AW.seq ?_
          refine AW.region (M := fun _ => true) ?_
          refine AL.v good (d := 48) (v := .int .i64 v1_1) rfl rfl rfl rfl ?_
          refine AL.v good (d := 6) (v := .int .i64 v1_1) rfl rfl rfl rfl ?_
          refine AW.ret ?_
          obtain rfl := Option.some.inj hr
          exact RetQ.w good (.inr rfl) rfl rfl (Wv.refl _) (by simp [pureA, pureL, pureR, inA, inL, inR, inO, idsIn, encs_pure, enxs_pure, enys_pure, valC_pure, exC_pure, tyC_pure])
theorem w_f90 (n : Nat) : ∀ (a0 : Val) (a1 : Int) (a2 : Int) (r : Int) (hr : s_f90 n a0 a1 a2 = some r), ACall Try.prog 90 [.agg (valC a0), .int .i64 a1, .int .i64 a2] (.int .i64 r) := by
  induction n using Nat.strongRecOn with
  | _ n ih =>
    intro a0 a1 a2 r hr
    exact w_f90_a n (fun m a0 a1 a2 r h hm => ih m hm a0 a1 a2 r h) a0 a1 a2 r hr

def s_f55 (n : Nat) (a0 : Val) : Option Bool :=
  ((s_f90 n a0 12 300).bind fun q1 => some (decide (q1 > 0)))

theorem w_f55 (n : Nat) (a0 : Val) (r : Bool) (hr : s_f55 n a0 = some r) : ACall Try.prog 55 [.agg (valC a0)] (.bool r) := by
  refine ACall.go [(0, .agg (valC a0))] Try.func55 rfl Try.ntmps55 rfl rfl (by simp [pureA, pureL, pureR, inA, inL, inR, inO, idsIn, encs_pure, enxs_pure, enys_pure, valC_pure, exC_pure, tyC_pure]) ?_
  rw [s_f55] at hr
  refine AW.seq ?_
  refine AW.region (M := fun _ => true) ?_
  refine AL.bx good (d := 1) (l := [.int .i64 a0.kind, .int .i64 a0.i, .bool a0.b, .str a0.s, .sl .ro 5 (encs a0.t)]) rfl rfl rfl rfl rfl rfl 0 rfl ?_
  refine AL.v good (d := 2) (v := .bool false) rfl rfl rfl rfl ?_
  refine AW.seq ?_
  refine AW.region (M := fun _ => true) ?_
  refine AL.v good (d := 3) (v := .agg [.int .i64 a0.kind, .int .i64 a0.i, .bool a0.b, .str a0.s, .sl .ro 5 (encs a0.t)]) rfl rfl rfl rfl ?_
  obtain ⟨q1, h2, hr⟩ := bnd1 hr
  refine AL.cw good (d := 4) (xs := [.agg (valC a0), .int .i64 12, .int .i64 300]) (res := .int .i64 q1) rfl rfl rfl rfl rfl rfl rfl (w_f90 _ _ _ _ _ h2) ⟨(Wv.refl _), (Wv.refl _), (Wv.refl _), trivial⟩ (by simp [pureA, pureL, pureR, inA, inL, inR, inO, idsIn, encs_pure, enxs_pure, enys_pure, valC_pure, exC_pure, tyC_pure]) ?_
  refine AL.v good (d := 5) (v := .bool (decide (q1 > 0))) rfl rfl rfl rfl ?_
  refine AL.v good (d := 2) (v := .bool (decide (q1 > 0))) rfl rfl rfl rfl ?_
  refine AW.ret ?_
  obtain rfl := Option.some.inj hr
  exact RetQ.w good (.inr rfl) rfl rfl (Wv.refl _) (by simp [pureA, pureL, pureR, inA, inL, inR, inO, idsIn, encs_pure, enxs_pure, enys_pure, valC_pure, exC_pure, tyC_pure])

mutual
def s_f22 : Nat → Val → Option Val
  | 0, _ => none
  | n + 1, a0 => (s_f22_l1 n a0 0 [])
def s_f22_l1 : Nat → Val → Nat → (List Val) → Option Val
  | 0, _, _, _ => none
  | n + 1, a0, v1_1, v1_2 => (bif (decide ((v1_1 : Int) < (a0.t.length : Int))) then ((a0.t[v1_1]?).bind fun x10 => ((s_f22 n x10).bind fun q12 => (if v1_2.length + 1 ≤ 1000000 then (s_f22_l1 n a0 (v1_1 + 1) (v1_2 ++ [q12])) else none))) else some (Val.mk a0.kind a0.i a0.b a0.s v1_2))
end

theorem w_f22_a (n : Nat) (ih : ∀ (m : Nat) (a0 : Val) (r : Val), s_f22 m a0 = some r → m < n → ACall Try.prog 22 [.agg (valC a0)] (.agg (valC r))) (a0 : Val) (r : Val) (hr : s_f22 n a0 = some r) : ACall Try.prog 22 [.agg (valC a0)] (.agg (valC r)) := by
  refine ACall.go [(0, .agg (valC a0))] Try.func22 rfl Try.ntmps22 rfl rfl (by simp [pureA, pureL, pureR, inA, inL, inR, inO, idsIn, encs_pure, enxs_pure, enys_pure, valC_pure, exC_pure, tyC_pure]) ?_
  cases n with
  | zero => rw [s_f22] at hr; cases hr
  | succ n =>
    rw [s_f22] at hr
    refine AW.seq ?_
    refine AW.region (M := fun _ => true) ?_
    refine AL.bx good (d := 1) (l := [.int .i64 a0.kind, .int .i64 a0.i, .bool a0.b, .str a0.s, .sl .ro 5 (encs a0.t)]) rfl rfl rfl rfl rfl rfl 0 rfl ?_
    refine AL.alc good (d := 2) rfl rfl rfl rfl rfl 1 rfl ?_
    refine AW.seq ?_
    refine AW.region (M := fun _ => true) ?_
    refine AL.v good (d := 5) (v := .ptr 0 0) rfl rfl rfl rfl ?_
    refine AL.v good (d := 6) (v := .int .i64 a0.kind) rfl rfl rfl rfl ?_
    refine AL.v good (d := 7) (v := .ptr 0 1) rfl rfl rfl rfl ?_
    refine AL.v good (d := 8) (v := .int .i64 a0.i) rfl rfl rfl rfl ?_
    refine AL.v good (d := 9) (v := .ptr 0 2) rfl rfl rfl rfl ?_
    refine AL.v good (d := 10) (v := .bool a0.b) rfl rfl rfl rfl ?_
    refine AL.v good (d := 11) (v := .ptr 0 3) rfl rfl rfl rfl ?_
    refine AL.v good (d := 12) (v := .str a0.s) rfl rfl rfl rfl ?_
    refine AL.bld good (d := 13) (l := [.int .i64 a0.kind, .int .i64 a0.i, .bool a0.b, .str a0.s, .sl .nil 0 []]) rfl rfl rfl rfl rfl rfl rfl ?_
    refine AL.alc good (d := 3) rfl rfl rfl rfl rfl 2 rfl ?_
    refine AL.st2 good (c2 := [.int .i64 a0.kind, .int .i64 a0.i, .bool a0.b, .str a0.s, .sl .nil 0 []]) rfl rfl rfl rfl rfl rfl rfl rfl rfl rfl rfl rfl ?_
    refine AW.seq ?_
    refine AW.seq ?_
    refine AW.region (M := fun _ => true) ?_
    refine AL.v good (d := 4) (v := .int .i64 0) rfl rfl rfl rfl ?_
    refine AW.block ?_
    refine AW.adoptB 2 rfl 4 rfl 3 5 33 rfl rfl ?_
    refine AW.lensB 0 rfl (fun hl8 => ?_)
    replace hl8 : a0.t.length ≤ 9223372036854775807 := by rw [← encs_length a0.t]; exact hl8.2.2.2.2.1
    refine AW.lpw (fun x : Nat × Nat × (List Val) => [(1, .ptr 0 0), (2, .ptr 1 0), (3, .ptr 2 0), (4, .int .i64 (x.2.1 : Int))]) (fun x => [(0, .box 24 [.int .i64 a0.kind, .int .i64 a0.i, .bool a0.b, .str a0.s, .sl .ro 5 (encs a0.t)]), (1, .box 33 [.int .i64 0, .int .i64 0, .bool false, .str ⟨#[]⟩, .sl .nil 0 []]), (2, .box 33 [.int .i64 a0.kind, .int .i64 a0.i, .bool a0.b, .str a0.s, .sl (.own 3) 5 (encs x.2.2)]), (3, .row 33 5 (encs x.2.2).length)]) (fun x => s_f22_l1 x.1 a0 x.2.1 x.2.2 = some r ∧ x.1 ≤ n) (fun x => x.1) (n, 0, []) ⟨(fun _ h => by cases h), List.forall_mem_cons.2 ⟨⟨⟨_, rfl, Wv.refl _⟩, (by simp [pureA, pureL, pureR, inA, inL, inR, inO, idsIn, encs_pure, enxs_pure, enys_pure, valC_pure, exC_pure, tyC_pure])⟩, List.forall_mem_cons.2 ⟨⟨⟨_, rfl, Wv.refl _⟩, (by simp [pureA, pureL, pureR, inA, inL, inR, inO, idsIn, encs_pure, enxs_pure, enys_pure, valC_pure, exC_pure, tyC_pure])⟩, List.forall_mem_cons.2 ⟨⟨⟨_, rfl, Wv.refl _⟩, (by simp [pureA, pureL, pureR, inA, inL, inR, inO, idsIn, encs_pure, enxs_pure, enys_pure, valC_pure, exC_pure, tyC_pure])⟩, List.forall_mem_cons.2 ⟨⟨⟨_, rfl, Wv.refl _⟩, (by simp [pureA, pureL, pureR, inA, inL, inR, inO, idsIn, encs_pure, enxs_pure, enys_pure, valC_pure, exC_pure, tyC_pure])⟩, (fun _ h => by cases h)⟩⟩⟩⟩, List.forall_mem_cons.2 ⟨⟨⟨_, rfl, ⟨rfl, ⟨Wv.refl _, Wv.refl _, Wv.refl _, Wv.refl _, Wv.refl _, trivial⟩⟩⟩, (by simp [pureA, pureL, pureR, inA, inL, inR, inO, idsIn, encs_pure, enxs_pure, enys_pure, valC_pure, exC_pure, tyC_pure])⟩, List.forall_mem_cons.2 ⟨⟨⟨_, rfl, ⟨rfl, ⟨Wv.refl _, Wv.refl _, Wv.refl _, Wv.refl _, Wv.refl _, trivial⟩⟩⟩, (by simp [pureA, pureL, pureR, inA, inL, inR, inO, idsIn, encs_pure, enxs_pure, enys_pure, valC_pure, exC_pure, tyC_pure])⟩, List.forall_mem_cons.2 ⟨⟨⟨_, rfl, ⟨rfl, ⟨Wv.refl _, Wv.refl _, Wv.refl _, Wv.refl _, Wv.refl _, trivial⟩⟩⟩, (by simp [pureA, pureL, pureR, inA, inL, inR, inO, idsIn, encs_pure, enxs_pure, enys_pure, valC_pure, exC_pure, tyC_pure])⟩, List.forall_mem_cons.2 ⟨⟨⟨_, rfl, ⟨rfl, rfl, rfl⟩⟩, (by simp [pureA, pureL, pureR, inA, inL, inR, inO, idsIn, encs_pure, enxs_pure, enys_pure, valC_pure, exC_pure, tyC_pure])⟩, (fun _ h => by cases h)⟩⟩⟩⟩⟩ ⟨hr, Nat.le_refl _⟩ (fun ⟨m, v1_1, v1_2⟩ hx => ?_)
    obtain ⟨hr, hm⟩ := hx
    try dsimp only at hr hm
    cases m with
    | zero => rw [s_f22_l1] at hr; cases hr
    | succ m =>
      rw [s_f22_l1] at hr
      show AW Try.prog _ _ _ (mkS 33 [(1, .ptr 0 0), (2, .ptr 1 0), (3, .ptr 2 0), (4, .int .i64 (v1_1 : Int))] [(0, .box 24 [.int .i64 a0.kind, .int .i64 a0.i, .bool a0.b, .str a0.s, .sl .ro 5 (encs a0.t)]), (1, .box 33 [.int .i64 0, .int .i64 0, .bool false, .str ⟨#[]⟩, .sl .nil 0 []]), (2, .box 33 [.int .i64 a0.kind, .int .i64 a0.i, .bool a0.b, .str a0.s, .sl (.own 3) 5 (encs v1_2)]), (3, .row 33 5 (encs v1_2).length)])
      refine AW.seq ?_
      refine AW.seq ?_
      refine AW.region (M := fun _ => true) ?_
      refine AL.v good (d := 14) (v := .int .i64 (v1_1 : Int)) rfl rfl rfl rfl ?_
      refine AL.v good (d := 15) (v := .ptr 0 4) rfl rfl rfl rfl ?_
      refine AL.v good (d := 16) (v := .sl .ro 5 (encs a0.t)) rfl rfl rfl rfl ?_
      refine AL.ln good (d := 17) (m := a0.t.length) rfl rfl rfl rfl rfl rfl (encs_length _) ?_
      refine AL.v good (d := 18) (v := .bool (decide ((v1_1 : Int) < (a0.t.length : Int)))) rfl rfl rfl rfl ?_
      refine AW.if rfl (fun h9 => ?_) (fun h9 => ?_)
      · replace hr := cnd_t h9 hr
        refine AW.skip ?_
        refine AW.seq ?_
        refine AW.block ?_
        refine AW.drawc (M := fun i => ⟨Nat.beq i 9 || Nat.beq i 11, bif Nat.beq i 1 then some { ids := [2] } else bif Nat.beq i 3 then some { ids := [0] } else bif Nat.beq i 6 then some { ids := [] } else bif Nat.beq i 8 then some { ids := [4] } else bif Nat.beq i 9 then some { ids := [3] } else bif Nat.beq i 11 then some { ids := [2] } else none⟩) good.wide (by kernel_rfl) ?_
        refine AL.v (nc := ⟨rfl⟩) good (d := 21) (v := .ptr 2 4) rfl rfl rfl rfl ?_
        refine AL.vc good (d := 22) (v := .sl (.own 3) 5 (encs v1_2)) rfl rfl rfl rfl rfl rfl (List.forall_mem_cons.2 ⟨.head _, (fun _ h => by cases h)⟩) ?_
        refine AL.v (nc := ⟨rfl⟩) good (d := 23) (v := .ptr 0 4) rfl rfl rfl rfl ?_
        refine AL.vc good (d := 24) (v := .sl .ro 5 (encs a0.t)) rfl rfl rfl rfl rfl rfl (List.forall_mem_cons.2 ⟨.head _, (fun _ h => by cases h)⟩) ?_
        refine AL.v (nc := ⟨rfl⟩) good (d := 25) (v := .int .i64 (v1_1 : Int)) rfl rfl rfl rfl ?_
        obtain ⟨x10, h11, hr⟩ := bnd1 hr
        refine AL.ix (nc := ⟨rfl⟩) good (d := 26) (r := [.int .i64 x10.kind, .int .i64 x10.i, .bool x10.b, .str x10.s, .sl .ro 5 (encs x10.t)]) rfl rfl rfl rfl rfl rfl rfl (Int.natCast_nonneg _) (encs_get h11) ?_
        refine AL.vc good (d := 27) (v := .agg [.int .i64 x10.kind, .int .i64 x10.i, .bool x10.b, .str x10.s, .sl .ro 5 (encs x10.t)]) rfl rfl rfl rfl rfl rfl (fun _ h => by cases h) ?_
        obtain ⟨q12, h13, hr⟩ := bnd1 hr
        refine AL.cw (nc := ⟨rfl⟩) good (d := 28) (xs := [.agg (valC x10)]) (res := .agg [.int .i64 q12.kind, .int .i64 q12.i, .bool q12.b, .str q12.s, .sl .ro 5 (encs q12.t)]) rfl rfl rfl rfl rfl rfl rfl (ih _ _ _ h13 (by omega)) ⟨(Wv.refl _), trivial⟩ (by simp [pureA, pureL, pureR, inA, inL, inR, inO, idsIn, encs_pure, enxs_pure, enys_pure, valC_pure, exC_pure, tyC_pure]) ?_
        refine AL.litC good (d := 29) (rows := [[.int .i64 q12.kind, .int .i64 q12.i, .bool q12.b, .str q12.s, .sl .ro 5 (encs q12.t)]]) rfl rfl rfl rfl rfl rfl rfl rfl rfl 4 rfl (ColN.mk rfl rfl (fun _ h => by cases h) (List.forall_mem_cons.2 ⟨.head _, (fun _ h => by cases h)⟩) (fun _ h => by cases h)) ?_
        obtain ⟨h14, hr⟩ := grd hr
        refine AL.aw2c good (d := 30) (rows := encs v1_2) (news := [(valC q12)]) (rows2 := encs (v1_2 ++ [q12])) rfl rfl rfl rfl rfl rfl rfl rfl rfl (by simp) rfl rfl rfl rfl ⟨⟨Wv.refl _, Wv.refl _, Wv.refl _, Wv.refl _, Wv.refl _, trivial⟩, trivial⟩ (by simp [encs_map]) (by rw [encs_length, List.length_append]; exact h14) rfl ?_
        refine AL.v (nc := ⟨rfl⟩) good (d := 31) (v := .ptr 2 4) rfl rfl rfl rfl ?_
        refine AL.st2c good (c2 := [.int .i64 a0.kind, .int .i64 a0.i, .bool a0.b, .str a0.s, .sl (.own 3) 5 (encs (v1_2 ++ [q12]))]) rfl rfl rfl rfl rfl rfl rfl rfl rfl rfl rfl rfl rfl ?_
        refine AW.region (M := fun _ => true) ?_
        refine AL.v good (d := 19) (v := .int .i64 (v1_1 : Int)) rfl rfl rfl rfl ?_
        refine AL.v good (d := 20) (v := .int .i64 (IntKind.i64.wrap ((v1_1 : Int) + 1))) rfl rfl rfl rfl ?_
        refine AL.v good (d := 4) (v := .int .i64 (IntKind.i64.wrap ((v1_1 : Int) + 1))) rfl rfl rfl rfl ?_
        exact ⟨(m, (v1_1 + 1), (v1_2 ++ [q12])), _, _, rfl, ⟨(fun _ h => by cases h), List.forall_mem_cons.2 ⟨⟨⟨_, rfl, Wv.refl _⟩, (by simp [pureA, pureL, pureR, inA, inL, inR, inO, idsIn, encs_pure, enxs_pure, enys_pure, valC_pure, exC_pure, tyC_pure])⟩, List.forall_mem_cons.2 ⟨⟨⟨_, rfl, Wv.refl _⟩, (by simp [pureA, pureL, pureR, inA, inL, inR, inO, idsIn, encs_pure, enxs_pure, enys_pure, valC_pure, exC_pure, tyC_pure])⟩, List.forall_mem_cons.2 ⟨⟨⟨_, rfl, Wv.refl _⟩, (by simp [pureA, pureL, pureR, inA, inL, inR, inO, idsIn, encs_pure, enxs_pure, enys_pure, valC_pure, exC_pure, tyC_pure])⟩, List.forall_mem_cons.2 ⟨⟨⟨_, rfl, (wnx h9 hl8)⟩, (by simp [pureA, pureL, pureR, inA, inL, inR, inO, idsIn, encs_pure, enxs_pure, enys_pure, valC_pure, exC_pure, tyC_pure])⟩, (fun _ h => by cases h)⟩⟩⟩⟩, List.forall_mem_cons.2 ⟨⟨⟨_, rfl, ⟨rfl, ⟨Wv.refl _, Wv.refl _, Wv.refl _, Wv.refl _, Wv.refl _, trivial⟩⟩⟩, (by simp [pureA, pureL, pureR, inA, inL, inR, inO, idsIn, encs_pure, enxs_pure, enys_pure, valC_pure, exC_pure, tyC_pure])⟩, List.forall_mem_cons.2 ⟨⟨⟨_, rfl, ⟨rfl, ⟨Wv.refl _, Wv.refl _, Wv.refl _, Wv.refl _, Wv.refl _, trivial⟩⟩⟩, (by simp [pureA, pureL, pureR, inA, inL, inR, inO, idsIn, encs_pure, enxs_pure, enys_pure, valC_pure, exC_pure, tyC_pure])⟩, List.forall_mem_cons.2 ⟨⟨⟨_, rfl, ⟨rfl, ⟨Wv.refl _, Wv.refl _, Wv.refl _, Wv.refl _, Wv.refl _, trivial⟩⟩⟩, (by simp [pureA, pureL, pureR, inA, inL, inR, inO, idsIn, encs_pure, enxs_pure, enys_pure, valC_pure, exC_pure, tyC_pure])⟩, List.forall_mem_cons.2 ⟨⟨⟨_, rfl, ⟨rfl, rfl, rfl⟩⟩, (by simp [pureA, pureL, pureR, inA, inL, inR, inO, idsIn, encs_pure, enxs_pure, enys_pure, valC_pure, exC_pure, tyC_pure])⟩, (fun _ h => by cases h)⟩⟩⟩⟩⟩, ⟨hr, Nat.le_of_succ_le hm⟩, Nat.lt_succ_self _⟩
      · replace hr := cnd_f h9 hr
        refine AW.exit ?_
        refine AW.seq ?_
        refine AW.region (M := fun _ => true) ?_
        refine AL.v good (d := 32) (v := .agg [.int .i64 a0.kind, .int .i64 a0.i, .bool a0.b, .str a0.s, .sl (.own 3) 5 (encs v1_2)]) rfl rfl rfl rfl ?_
        refine AL.st2 good (c2 := [.int .i64 a0.kind, .int .i64 a0.i, .bool a0.b, .str a0.s, .sl (.own 3) 5 (encs v1_2)]) rfl rfl rfl rfl rfl rfl rfl rfl rfl rfl rfl rfl ?_
        refine AW.ret ?_
        obtain rfl := Option.some.inj hr
        exact RetQ.w good (.inr rfl) rfl rfl ⟨Wv.refl _, Wv.refl _, Wv.refl _, Wv.refl _, ⟨.inr rfl, WvR.refl _, .inl rfl⟩, trivial⟩ (by simp [pureA, pureL, pureR, inA, inL, inR, inO, idsIn, encs_pure, enxs_pure, enys_pure, valC_pure, exC_pure, tyC_pure])
theorem w_f22 (n : Nat) : ∀ (a0 : Val) (r : Val) (hr : s_f22 n a0 = some r), ACall Try.prog 22 [.agg (valC a0)] (.agg (valC r)) := by
  induction n using Nat.strongRecOn with
  | _ n ih =>
    intro a0 r hr
    exact w_f22_a n (fun m a0 r h hm => ih m hm a0 r h) a0 r hr

def s_f18 (n : Nat) (a0 : Val) : Option Bool :=
  ((s_f55 n a0).bind fun q1 => (bif q1 then ((s_f22 n a0).bind fun q4 => ((s_f34 n q4).bind fun q6 => some (q6 == 0))) else some false))

theorem w_f18 (n : Nat) (a0 : Val) (r : Bool) (hr : s_f18 n a0 = some r) : ACall Try.prog 18 [.agg (valC a0)] (.bool r) := by
  refine ACall.go [(0, .agg (valC a0))] Try.func18 rfl Try.ntmps18 rfl rfl (by simp [pureA, pureL, pureR, inA, inL, inR, inO, idsIn, encs_pure, enxs_pure, enys_pure, valC_pure, exC_pure, tyC_pure]) ?_
  rw [s_f18] at hr
  refine AW.seq ?_
  refine AW.region (M := fun _ => true) ?_
  refine AL.bx good (d := 1) (l := [.int .i64 a0.kind, .int .i64 a0.i, .bool a0.b, .str a0.s, .sl .ro 5 (encs a0.t)]) rfl rfl rfl rfl rfl rfl 0 rfl ?_
  refine AL.v good (d := 2) (v := .bool false) rfl rfl rfl rfl ?_
  refine AW.seq ?_
  refine AW.region (M := fun _ => true) ?_
  refine AL.v good (d := 3) (v := .agg [.int .i64 a0.kind, .int .i64 a0.i, .bool a0.b, .str a0.s, .sl .ro 5 (encs a0.t)]) rfl rfl rfl rfl ?_
  obtain ⟨q1, h2, hr⟩ := bnd1 hr
  refine AL.cw good (d := 4) (xs := [.agg (valC a0)]) (res := .bool q1) rfl rfl rfl rfl rfl rfl rfl (w_f55 _ _ _ h2) ⟨(Wv.refl _), trivial⟩ (by simp [pureA, pureL, pureR, inA, inL, inR, inO, idsIn, encs_pure, enxs_pure, enys_pure, valC_pure, exC_pure, tyC_pure]) ?_
  refine AL.v good (d := 5) (v := .bool q1) rfl rfl rfl rfl ?_
  refine AL.cs 5 rfl (fun h3 => ?_) (fun h3 => ?_)
  · replace hr := cnd_t h3 hr
    refine AL.v good (d := 6) (v := .agg [.int .i64 a0.kind, .int .i64 a0.i, .bool a0.b, .str a0.s, .sl .ro 5 (encs a0.t)]) rfl rfl rfl rfl ?_
    obtain ⟨q4, h5, hr⟩ := bnd1 hr
    refine AL.cw good (d := 7) (xs := [.agg (valC a0)]) (res := .agg [.int .i64 q4.kind, .int .i64 q4.i, .bool q4.b, .str q4.s, .sl .ro 5 (encs q4.t)]) rfl rfl rfl rfl rfl rfl rfl (w_f22 _ _ _ h5) ⟨(Wv.refl _), trivial⟩ (by simp [pureA, pureL, pureR, inA, inL, inR, inO, idsIn, encs_pure, enxs_pure, enys_pure, valC_pure, exC_pure, tyC_pure]) ?_
    obtain ⟨q6, h7, hr⟩ := bnd1 hr
    refine AL.cw good (d := 8) (xs := [.agg (valC q4)]) (res := .int .i64 q6) rfl rfl rfl rfl rfl rfl rfl (w_f34 _ _ _ h7) ⟨(Wv.refl _), trivial⟩ (by simp [pureA, pureL, pureR, inA, inL, inR, inO, idsIn, encs_pure, enxs_pure, enys_pure, valC_pure, exC_pure, tyC_pure]) ?_
    refine AL.v good (d := 9) (v := .bool (q6 == 0)) rfl rfl rfl rfl ?_
    refine AL.v good (d := 10) (v := .bool (q6 == 0)) rfl rfl rfl rfl ?_
    refine AL.v good (d := 2) (v := .bool (q6 == 0)) rfl rfl rfl rfl ?_
    refine AW.ret ?_
    obtain rfl := Option.some.inj hr
    exact RetQ.w good (.inr rfl) rfl rfl (Wv.refl _) (by simp [pureA, pureL, pureR, inA, inL, inR, inO, idsIn, encs_pure, enxs_pure, enys_pure, valC_pure, exC_pure, tyC_pure])
  · replace hr := cnd_f h3 hr
    refine AL.sk good (d := 6) rfl rfl rfl ?_
    refine AL.sk good (d := 7) rfl rfl rfl ?_
    refine AL.sk good (d := 8) rfl rfl rfl ?_
    refine AL.sk good (d := 9) rfl rfl rfl ?_
    refine AL.v good (d := 10) (v := .bool false) rfl rfl rfl rfl ?_
    refine AL.v good (d := 2) (v := .bool false) rfl rfl rfl rfl ?_
    refine AW.ret ?_
    obtain rfl := Option.some.inj hr
    exact RetQ.w good (.inr rfl) rfl rfl (Wv.refl _) (by simp [pureA, pureL, pureR, inA, inL, inR, inO, idsIn, encs_pure, enxs_pure, enys_pure, valC_pure, exC_pure, tyC_pure])

end Go.Proofs.Ytbcjcekoonebiaa.Tl
