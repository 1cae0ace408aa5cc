/- Definitions and walks: expressions. Conditions: none. -/
import Derived.Test.YtbcjcekoonebiaaTlXa
set_option linter.unusedVariables false
set_option linter.unusedSimpArgs false
namespace Go.Proofs.Ytbcjcekoonebiaa.Tl
open Go Go.RowKit




theorem w_f93 (a0 : Val) : ACall Try.prog 93 [.agg (valC a0)] (.bool (((((a0.kind == 0) && (a0.i == 0)) && (!a0.b)) && (a0.s.data.toList == [])) && ((a0.t.length : Int) == 0))) := by
  refine ACall.go [(0, .agg (valC a0))] Try.func93 rfl Try.ntmps93 rfl rfl (by simp [pureA, pureL, pureR, inA, inL, inR, inO, idsIn, encs_pure, enxs_pure, enys_pure, valC_pure, exC_pure, tyC_pure]) ?_
  refine AW.seq ?_
  refine AW.region (M := fun _ => true) ?_
  refine AL.bx good (d := 1) (l := [.int .i64 a0.kind, .int .i64 a0.i, .bool a0.b, .str a0.s, .sl .ro 5 (encs a0.t)]) rfl rfl rfl rfl rfl rfl 0 rfl ?_
  refine AL.v good (d := 2) (v := .bool false) rfl rfl rfl rfl ?_
  refine AW.seq ?_
  refine AW.region (M := fun _ => true) ?_
  refine AL.v good (d := 3) (v := .ptr 0 0) rfl rfl rfl rfl ?_
  refine AL.v good (d := 4) (v := .int .i64 a0.kind) rfl rfl rfl rfl ?_
  refine AL.v good (d := 5) (v := .bool (a0.kind == 0)) rfl rfl rfl rfl ?_
  refine AL.vb good (d := 6) (b := (a0.kind == 0)) rfl rfl rfl rfl (fun g1 h2 => ?_)
  refine AL.gv good (d := 7) (c := g1) (v := .ptr 0 1) (rd := []) rfl rfl (by cases g1 <;> rfl) (fun h => by cases g1 <;> first | rfl | exact absurd h (by decide)) ?_
  refine AL.gv good (d := 8) (c := g1) (v := .int .i64 a0.i) (rd := [(0, .box 33 [.int .i64 a0.kind, .int .i64 a0.i, .bool a0.b, .str a0.s, .sl .ro 5 (encs a0.t)])]) rfl rfl (by cases g1 <;> rfl) (fun h => by cases g1 <;> first | rfl | exact absurd h (by decide)) ?_
  refine AL.gv good (d := 9) (c := g1) (v := .bool (a0.i == 0)) (rd := []) rfl rfl (by cases g1 <;> rfl) (fun h => by cases g1 <;> first | rfl | exact absurd h (by decide)) ?_
  refine AL.v good (d := 10) (v := .bool (g1 && (a0.i == 0))) (rd := []) rfl rfl rfl (by cases g1 <;> rfl) ?_
  refine AL.vb good (d := 11) (b := (g1 && (a0.i == 0))) rfl rfl rfl rfl (fun g3 h4 => ?_)
  refine AL.gv good (d := 12) (c := g3) (v := .ptr 0 2) (rd := []) rfl rfl (by cases g3 <;> rfl) (fun h => by cases g3 <;> first | rfl | exact absurd h (by decide)) ?_
  refine AL.gv good (d := 13) (c := g3) (v := .bool a0.b) (rd := [(0, .box 33 [.int .i64 a0.kind, .int .i64 a0.i, .bool a0.b, .str a0.s, .sl .ro 5 (encs a0.t)])]) rfl rfl (by cases g3 <;> rfl) (fun h => by cases g3 <;> first | rfl | exact absurd h (by decide)) ?_
  refine AL.gv good (d := 14) (c := g3) (v := .bool (!a0.b)) (rd := []) rfl rfl (by cases g3 <;> rfl) (fun h => by cases g3 <;> first | rfl | exact absurd h (by decide)) ?_
  refine AL.v good (d := 15) (v := .bool (g3 && (!a0.b))) (rd := []) rfl rfl rfl (by cases g3 <;> rfl) ?_
  refine AL.vb good (d := 16) (b := (g3 && (!a0.b))) rfl rfl rfl rfl (fun g5 h6 => ?_)
  refine AL.gv good (d := 17) (c := g5) (v := .ptr 0 3) (rd := []) rfl rfl (by cases g5 <;> rfl) (fun h => by cases g5 <;> first | rfl | exact absurd h (by decide)) ?_
  refine AL.gv good (d := 18) (c := g5) (v := .str a0.s) (rd := [(0, .box 33 [.int .i64 a0.kind, .int .i64 a0.i, .bool a0.b, .str a0.s, .sl .ro 5 (encs a0.t)])]) rfl rfl (by cases g5 <;> rfl) (fun h => by cases g5 <;> first | rfl | exact absurd h (by decide)) ?_
  refine AL.gsb good (d := 19) (c := g5) (b := (a0.s.data.toList == [])) rfl rfl (by cases g5 <;> rfl) rfl (fun h => by cases g5 <;> first | rfl | exact absurd h (by decide)) (fun h => by cases g5 <;> first | rfl | exact absurd h (by decide)) rfl ?_
  refine AL.v good (d := 20) (v := .bool (g5 && (a0.s.data.toList == []))) (rd := []) rfl rfl rfl (by cases g5 <;> rfl) ?_
  refine AL.vb good (d := 21) (b := (g5 && (a0.s.data.toList == []))) rfl rfl rfl rfl (fun g7 h8 => ?_)
  refine AL.gv good (d := 22) (c := g7) (v := .ptr 0 4) (rd := []) rfl rfl (by cases g7 <;> rfl) (fun h => by cases g7 <;> first | rfl | exact absurd h (by decide)) ?_
  refine AL.gv good (d := 23) (c := g7) (v := .sl .ro 5 (encs a0.t)) (rd := [(0, .box 33 [.int .i64 a0.kind, .int .i64 a0.i, .bool a0.b, .str a0.s, .sl .ro 5 (encs a0.t)])]) rfl rfl (by cases g7 <;> rfl) (fun h => by cases g7 <;> first | rfl | exact absurd h (by decide)) ?_
  refine AL.gln good (d := 24) (c := g7) (m := a0.t.length) rfl rfl (by cases g7 <;> rfl) rfl rfl (fun h => by cases g7 <;> first | rfl | exact absurd h (by decide)) (encs_length _) ?_
  refine AL.gv good (d := 25) (c := g7) (v := .bool ((a0.t.length : Int) == 0)) (rd := []) rfl rfl (by cases g7 <;> rfl) (fun h => by cases g7 <;> first | rfl | exact absurd h (by decide)) ?_
  refine AL.v good (d := 26) (v := .bool (g7 && ((a0.t.length : Int) == 0))) (rd := []) rfl rfl rfl (by cases g7 <;> rfl) ?_
  refine AL.v good (d := 2) (v := .bool (g7 && ((a0.t.length : Int) == 0))) rfl rfl rfl rfl ?_
  subst h2 h4 h6 h8
  refine AW.ret ?_
  exact RetQ.w good (.inr rfl) rfl rfl (Wv.refl _) (by simp [pureA, pureL, pureR, inA, inL, inR, inO, idsIn, encs_pure, enxs_pure, enys_pure, valC_pure, exC_pure, tyC_pure])

def s_f92 (n : Nat) (a0 : ByteArray) : Option Int :=
  (bif (a0.data.toList == [108, 105, 116]) then some 0 else (bif (a0.data.toList == [120]) then some 0 else (bif (a0.data.toList == [97, 116]) then some 1 else (bif (a0.data.toList == [110, 101, 103]) then some 1 else (bif (a0.data.toList == [110, 111, 116]) then some 1 else (bif (a0.data.toList == [108, 101, 110]) then some 1 else (bif (a0.data.toList == [97, 100, 100]) then some 2 else (bif (a0.data.toList == [115, 117, 98]) then some 2 else (bif (a0.data.toList == [109, 117, 108]) then some 2 else (bif (a0.data.toList == [100, 105, 118]) then some 2 else (bif (a0.data.toList == [114, 101, 109]) then some 2 else (bif (a0.data.toList == [101, 113]) then some 2 else (bif (a0.data.toList == [108, 116]) then some 2 else (bif (a0.data.toList == [97, 110, 100]) then some 2 else (bif (a0.data.toList == [111, 114]) then some 2 else (bif (a0.data.toList == [99, 97, 116]) then some 2 else (bif (a0.data.toList == [105, 102]) then some 3 else (bif (a0.data.toList == [116, 117, 112]) then some (-1) else some (-2)))))))))))))))))))

theorem w_f92 (n : Nat) (a0 : ByteArray) (r : Int) (hr : s_f92 n a0 = some r) : ACall Try.prog 92 [.str a0] (.int .i64 r) := by
  refine ACall.go [(0, .str a0)] Try.func92 rfl Try.ntmps92 rfl rfl (by simp [pureA, pureL, pureR, inA, inL, inR, inO, idsIn, encs_pure, enxs_pure, enys_pure, valC_pure, exC_pure, tyC_pure]) ?_
  rw [s_f92] at hr
  refine AW.seq ?_
  refine AW.region (M := fun _ => true) ?_
  refine AL.v good (d := 2) (v := .int .i64 0) rfl rfl rfl rfl ?_
  refine AW.seq ?_
  refine AW.seq ?_
  refine AW.region (M := fun _ => true) ?_
  refine AL.v good (d := 3) (v := .str a0) rfl rfl rfl rfl ?_
  refine AW.block ?_
  refine AW.seq ?_
  refine AW.seq ?_
  refine AW.region (M := fun _ => true) ?_
  refine AL.sb good (d := 5) (b := (a0.data.toList == [108, 105, 116])) rfl rfl rfl rfl rfl rfl rfl ?_
  refine AL.v good (d := 4) (v := .bool (a0.data.toList == [108, 105, 116])) rfl rfl rfl rfl ?_
  refine AW.if rfl (fun h1 => ?_) (fun h1 => ?_)
  · replace hr := cnd_t h1 hr
    refine AW.skip ?_
    refine AW.if rfl (fun h => ?_) (fun h => by cases h1.symm.trans h)
    refine AW.seq ?_
    refine AW.region (M := fun _ => true) ?_
    refine AL.v good (d := 2) (v := .int .i64 0) rfl rfl rfl rfl ?_
    refine AW.ret ?_
    obtain rfl := Option.some.inj hr
    exact RetQ.w good (.inr rfl) rfl rfl (Wv.refl _) (by simp [pureA, pureL, pureR, inA, inL, inR, inO, idsIn, encs_pure, enxs_pure, enys_pure, valC_pure, exC_pure, tyC_pure])
  · replace hr := cnd_f h1 hr
    refine AW.region (M := fun _ => true) ?_
    refine AL.sb good (d := 6) (b := (a0.data.toList == [120])) rfl rfl rfl rfl rfl rfl rfl ?_
    refine AL.v good (d := 4) (v := .bool (a0.data.toList == [120])) rfl rfl rfl rfl ?_
    refine AW.if rfl (fun h2 => ?_) (fun h2 => ?_)
    · replace hr := cnd_t h2 hr
      refine AW.seq ?_
      refine AW.region (M := fun _ => true) ?_
      refine AL.v good (d := 2) (v := .int .i64 0) rfl rfl rfl rfl ?_
      refine AW.ret ?_
      obtain rfl := Option.some.inj hr
      exact RetQ.w good (.inr rfl) rfl rfl (Wv.refl _) (by simp [pureA, pureL, pureR, inA, inL, inR, inO, idsIn, encs_pure, enxs_pure, enys_pure, valC_pure, exC_pure, tyC_pure])
    · replace hr := cnd_f h2 hr
      refine AW.seq ?_
      refine AW.seq ?_
      refine AW.region (M := fun _ => true) ?_
      refine AL.sb good (d := 8) (b := (a0.data.toList == [97, 116])) rfl rfl rfl rfl rfl rfl rfl ?_
      refine AL.v good (d := 7) (v := .bool (a0.data.toList == [97, 116])) rfl rfl rfl rfl ?_
      refine AW.if rfl (fun h3 => ?_) (fun h3 => ?_)
      · replace hr := cnd_t h3 hr
        refine AW.skip ?_
        refine AW.if rfl (fun h => ?_) (fun h => by cases h3.symm.trans h)
        refine AW.seq ?_
        refine AW.region (M := fun _ => true) ?_
        refine AL.v good (d := 2) (v := .int .i64 1) rfl rfl rfl rfl ?_
        refine AW.ret ?_
        obtain rfl := Option.some.inj hr
        exact RetQ.w good (.inr rfl) rfl rfl (Wv.refl _) (by simp [pureA, pureL, pureR, inA, inL, inR, inO, idsIn, encs_pure, enxs_pure, enys_pure, valC_pure, exC_pure, tyC_pure])
      · replace hr := cnd_f h3 hr
        refine AW.seq ?_
        refine AW.region (M := fun _ => true) ?_
        refine AL.sb good (d := 9) (b := (a0.data.toList == [110, 101, 103])) rfl rfl rfl rfl rfl rfl rfl ?_
        refine AL.v good (d := 7) (v := .bool (a0.data.toList == [110, 101, 103])) rfl rfl rfl rfl ?_
        refine AW.if rfl (fun h4 => ?_) (fun h4 => ?_)
        · replace hr := cnd_t h4 hr
          refine AW.skip ?_
          refine AW.if rfl (fun h => ?_) (fun h => by cases h4.symm.trans h)
          refine AW.seq ?_
          refine AW.region (M := fun _ => true) ?_
          refine AL.v good (d := 2) (v := .int .i64 1) rfl rfl rfl rfl ?_
          refine AW.ret ?_
          obtain rfl := Option.some.inj hr
          exact RetQ.w good (.inr rfl) rfl rfl (Wv.refl _) (by simp [pureA, pureL, pureR, inA, inL, inR, inO, idsIn, encs_pure, enxs_pure, enys_pure, valC_pure, exC_pure, tyC_pure])
        · replace hr := cnd_f h4 hr
          refine AW.seq ?_
          refine AW.region (M := fun _ => true) ?_
          refine AL.sb good (d := 10) (b := (a0.data.toList == [110, 111, 116])) rfl rfl rfl rfl rfl rfl rfl ?_
          refine AL.v good (d := 7) (v := .bool (a0.data.toList == [110, 111, 116])) rfl rfl rfl rfl ?_
          refine AW.if rfl (fun h5 => ?_) (fun h5 => ?_)
          · replace hr := cnd_t h5 hr
            refine AW.skip ?_
            refine AW.if rfl (fun h => ?_) (fun h => by cases h5.symm.trans h)
            refine AW.seq ?_
            refine AW.region (M := fun _ => true) ?_
            refine AL.v good (d := 2) (v := .int .i64 1) rfl rfl rfl rfl ?_
            refine AW.ret ?_
            obtain rfl := Option.some.inj hr
            exact RetQ.w good (.inr rfl) rfl rfl (Wv.refl _) (by simp [pureA, pureL, pureR, inA, inL, inR, inO, idsIn, encs_pure, enxs_pure, enys_pure, valC_pure, exC_pure, tyC_pure])
          · replace hr := cnd_f h5 hr
            refine AW.region (M := fun _ => true) ?_
            refine AL.sb good (d := 11) (b := (a0.data.toList == [108, 101, 110])) rfl rfl rfl rfl rfl rfl rfl ?_
            refine AL.v good (d := 7) (v := .bool (a0.data.toList == [108, 101, 110])) rfl rfl rfl rfl ?_
            refine AW.if rfl (fun h6 => ?_) (fun h6 => ?_)
            · replace hr := cnd_t h6 hr
              refine AW.seq ?_
              refine AW.region (M := fun _ => true) ?_
              refine AL.v good (d := 2) (v := .int .i64 1) rfl rfl rfl rfl ?_
              refine AW.ret ?_
              obtain rfl := Option.some.inj hr
              exact RetQ.w good (.inr rfl) rfl rfl (Wv.refl _) (by simp [pureA, pureL, pureR, inA, inL, inR, inO, idsIn, encs_pure, enxs_pure, enys_pure, valC_pure, exC_pure, tyC_pure])
            · replace hr := cnd_f h6 hr
              refine AW.seq ?_
              refine AW.seq ?_
              refine AW.region (M := fun _ => true) ?_
              refine AL.sb good (d := 13) (b := (a0.data.toList == [97, 100, 100])) rfl rfl rfl rfl rfl rfl rfl ?_
              refine AL.v good (d := 12) (v := .bool (a0.data.toList == [97, 100, 100])) rfl rfl rfl rfl ?_
              refine AW.if rfl (fun h7 => ?_) (fun h7 => ?_)
              · replace hr := cnd_t h7 hr
                refine AW.skip ?_
                refine AW.if rfl (fun h => ?_) (fun h => by cases h7.symm.trans h)
                refine AW.seq ?_
                refine AW.region (M := fun _ => true) ?_
                refine AL.v good (d := 2) (v := .int .i64 2) rfl rfl rfl rfl ?_
                refine AW.ret ?_
                obtain rfl := Option.some.inj hr
                exact RetQ.w good (.inr rfl) rfl rfl (Wv.refl _) (by simp [pureA, pureL, pureR, inA, inL, inR, inO, idsIn, encs_pure, enxs_pure, enys_pure, valC_pure, exC_pure, tyC_pure])
              · replace hr := cnd_f h7 hr
                refine AW.seq ?_
                refine AW.region (M := fun _ => true) ?_
                refine AL.sb good (d := 14) (b := (a0.data.toList == [115, 117, 98])) rfl rfl rfl rfl rfl rfl rfl ?_
                refine AL.v good (d := 12) (v := .bool (a0.data.toList == [115, 117, 98])) rfl rfl rfl rfl ?_
                refine AW.if rfl (fun h8 => ?_) (fun h8 => ?_)
                · replace hr := cnd_t h8 hr
                  refine AW.skip ?_
                  refine AW.if rfl (fun h => ?_) (fun h => by cases h8.symm.trans h)
                  refine AW.seq ?_
                  refine AW.region (M := fun _ => true) ?_
                  refine AL.v good (d := 2) (v := .int .i64 2) rfl rfl rfl rfl ?_
                  refine AW.ret ?_
                  obtain rfl := Option.some.inj hr
                  exact RetQ.w good (.inr rfl) rfl rfl (Wv.refl _) (by simp [pureA, pureL, pureR, inA, inL, inR, inO, idsIn, encs_pure, enxs_pure, enys_pure, valC_pure, exC_pure, tyC_pure])
                · replace hr := cnd_f h8 hr
                  refine AW.seq ?_
                  refine AW.region (M := fun _ => true) ?_
                  refine AL.sb good (d := 15) (b := (a0.data.toList == [109, 117, 108])) rfl rfl rfl rfl rfl rfl rfl ?_
                  refine AL.v good (d := 12) (v := .bool (a0.data.toList == [109, 117, 108])) rfl rfl rfl rfl ?_
                  refine AW.if rfl (fun h9 => ?_) (fun h9 => ?_)
                  · replace hr := cnd_t h9 hr
                    refine AW.skip ?_
                    refine AW.if rfl (fun h => ?_) (fun h => by cases h9.symm.trans h)
                    refine AW.seq ?_
                    refine AW.region (M := fun _ => true) ?_
                    refine AL.v good (d := 2) (v := .int .i64 2) rfl rfl rfl rfl ?_
                    refine AW.ret ?_
                    obtain rfl := Option.some.inj hr
                    exact RetQ.w good (.inr rfl) rfl rfl (Wv.refl _) (by simp [pureA, pureL, pureR, inA, inL, inR, inO, idsIn, encs_pure, enxs_pure, enys_pure, valC_pure, exC_pure, tyC_pure])
                  · replace hr := cnd_f h9 hr
                    refine AW.seq ?_
                    refine AW.region (M := fun _ => true) ?_
                    refine AL.sb good (d := 16) (b := (a0.data.toList == [100, 105, 118])) rfl rfl rfl rfl rfl rfl rfl ?_
                    refine AL.v good (d := 12) (v := .bool (a0.data.toList == [100, 105, 118])) rfl rfl rfl rfl ?_
                    refine AW.if rfl (fun h10 => ?_) (fun h10 => ?_)
                    · replace hr := cnd_t h10 hr
                      refine AW.skip ?_
                      refine AW.if rfl (fun h => ?_) (fun h => by cases h10.symm.trans h)
                      refine AW.seq ?_
                      refine AW.region (M := fun _ => true) ?_
                      refine AL.v good (d := 2) (v := .int .i64 2) rfl rfl rfl rfl ?_
                      refine AW.ret ?_
                      obtain rfl := Option.some.inj hr
                      exact RetQ.w good (.inr rfl) rfl rfl (Wv.refl _) (by simp [pureA, pureL, pureR, inA, inL, inR, inO, idsIn, encs_pure, enxs_pure, enys_pure, valC_pure, exC_pure, tyC_pure])
                    · replace hr := cnd_f h10 hr
                      refine AW.seq ?_
                      refine AW.region (M := fun _ => true) ?_
                      refine AL.sb good (d := 17) (b := (a0.data.toList == [114, 101, 109])) rfl rfl rfl rfl rfl rfl rfl ?_
                      refine AL.v good (d := 12) (v := .bool (a0.data.toList == [114, 101, 109])) rfl rfl rfl rfl ?_
                      refine AW.if rfl (fun h11 => ?_) (fun h11 => ?_)
                      · replace hr := cnd_t h11 hr
                        refine AW.skip ?_
                        refine AW.if rfl (fun h => ?_) (fun h => by cases h11.symm.trans h)
                        refine AW.seq ?_
                        refine AW.region (M := fun _ => true) ?_
                        refine AL.v good (d := 2) (v := .int .i64 2) rfl rfl rfl rfl ?_
                        refine AW.ret ?_
                        obtain rfl := Option.some.inj hr
                        exact RetQ.w good (.inr rfl) rfl rfl (Wv.refl _) (by simp [pureA, pureL, pureR, inA, inL, inR, inO, idsIn, encs_pure, enxs_pure, enys_pure, valC_pure, exC_pure, tyC_pure])
                      · replace hr := cnd_f h11 hr
                        refine AW.seq ?_
                        refine AW.region (M := fun _ => true) ?_
                        refine AL.sb good (d := 18) (b := (a0.data.toList == [101, 113])) rfl rfl rfl rfl rfl rfl rfl ?_
                        refine AL.v good (d := 12) (v := .bool (a0.data.toList == [101, 113])) rfl rfl rfl rfl ?_
                        refine AW.if rfl (fun h12 => ?_) (fun h12 => ?_)
                        · replace hr := cnd_t h12 hr
                          refine AW.skip ?_
                          refine AW.if rfl (fun h => ?_) (fun h => by cases h12.symm.trans h)
                          refine AW.seq ?_
                          refine AW.region (M := fun _ => true) ?_
                          refine AL.v good (d := 2) (v := .int .i64 2) rfl rfl rfl rfl ?_
                          refine AW.ret ?_
                          obtain rfl := Option.some.inj hr
                          exact RetQ.w good (.inr rfl) rfl rfl (Wv.refl _) (by simp [pureA, pureL, pureR, inA, inL, inR, inO, idsIn, encs_pure, enxs_pure, enys_pure, valC_pure, exC_pure, tyC_pure])
                        · replace hr := cnd_f h12 hr
                          refine AW.seq ?_
                          refine AW.region (M := fun _ => true) ?_
                          refine AL.sb good (d := 19) (b := (a0.data.toList == [108, 116])) rfl rfl rfl rfl rfl rfl rfl ?_
                          refine AL.v good (d := 12) (v := .bool (a0.data.toList == [108, 116])) rfl rfl rfl rfl ?_
                          refine AW.if rfl (fun h13 => ?_) (fun h13 => ?_)
                          · replace hr := cnd_t h13 hr
                            refine AW.skip ?_
                            refine AW.if rfl (fun h => ?_) (fun h => by cases h13.symm.trans h)
                            refine AW.seq ?_
                            refine AW.region (M := fun _ => true) ?_
                            refine AL.v good (d := 2) (v := .int .i64 2) rfl rfl rfl rfl ?_
                            refine AW.ret ?_
                            obtain rfl := Option.some.inj hr
                            exact RetQ.w good (.inr rfl) rfl rfl (Wv.refl _) (by simp [pureA, pureL, pureR, inA, inL, inR, inO, idsIn, encs_pure, enxs_pure, enys_pure, valC_pure, exC_pure, tyC_pure])
                          · replace hr := cnd_f h13 hr
                            refine AW.seq ?_
                            refine AW.region (M := fun _ => true) ?_
                            refine AL.sb good (d := 20) (b := (a0.data.toList == [97, 110, 100])) rfl rfl rfl rfl rfl rfl rfl ?_
                            refine AL.v good (d := 12) (v := .bool (a0.data.toList == [97, 110, 100])) rfl rfl rfl rfl ?_
                            refine AW.if rfl (fun h14 => ?_) (fun h14 => ?_)
                            · replace hr := cnd_t h14 hr
                              refine AW.skip ?_
                              refine AW.if rfl (fun h => ?_) (fun h => by cases h14.symm.trans h)
                              refine AW.seq ?_
                              refine AW.region (M := fun _ => true) ?_
                              refine AL.v good (d := 2) (v := .int .i64 2) rfl rfl rfl rfl ?_
                              refine AW.ret ?_
                              obtain rfl := Option.some.inj hr
                              exact RetQ.w good (.inr rfl) rfl rfl (Wv.refl _) (by simp [pureA, pureL, pureR, inA, inL, inR, inO, idsIn, encs_pure, enxs_pure, enys_pure, valC_pure, exC_pure, tyC_pure])
                            · replace hr := cnd_f h14 hr
                              refine AW.seq ?_
                              refine AW.region (M := fun _ => true) ?_
                              refine AL.sb good (d := 21) (b := (a0.data.toList == [111, 114])) rfl rfl rfl rfl rfl rfl rfl ?_
                              refine AL.v good (d := 12) (v := .bool (a0.data.toList == [111, 114])) rfl rfl rfl rfl ?_
                              refine AW.if rfl (fun h15 => ?_) (fun h15 => ?_)
                              · replace hr := cnd_t h15 hr
                                refine AW.skip ?_
                                refine AW.if rfl (fun h => ?_) (fun h => by cases h15.symm.trans h)
                                refine AW.seq ?_
                                refine AW.region (M := fun _ => true) ?_
                                refine AL.v good (d := 2) (v := .int .i64 2) rfl rfl rfl rfl ?_
                                refine AW.ret ?_
                                obtain rfl := Option.some.inj hr
                                exact RetQ.w good (.inr rfl) rfl rfl (Wv.refl _) (by simp [pureA, pureL, pureR, inA, inL, inR, inO, idsIn, encs_pure, enxs_pure, enys_pure, valC_pure, exC_pure, tyC_pure])
                              · replace hr := cnd_f h15 hr
                                refine AW.region (M := fun _ => true) ?_
                                refine AL.sb good (d := 22) (b := (a0.data.toList == [99, 97, 116])) rfl rfl rfl rfl rfl rfl rfl ?_
                                refine AL.v good (d := 12) (v := .bool (a0.data.toList == [99, 97, 116])) rfl rfl rfl rfl ?_
                                refine AW.if rfl (fun h16 => ?_) (fun h16 => ?_)
                                · replace hr := cnd_t h16 hr
                                  refine AW.seq ?_
                                  refine AW.region (M := fun _ => true) ?_
                                  refine AL.v good (d := 2) (v := .int .i64 2) rfl rfl rfl rfl ?_
                                  refine AW.ret ?_
                                  obtain rfl := Option.some.inj hr
                                  exact RetQ.w good (.inr rfl) rfl rfl (Wv.refl _) (by simp [pureA, pureL, pureR, inA, inL, inR, inO, idsIn, encs_pure, enxs_pure, enys_pure, valC_pure, exC_pure, tyC_pure])
                                · replace hr := cnd_f h16 hr
                                  refine AW.seq ?_
                                  refine AW.region (M := fun _ => true) ?_
                                  refine AL.sb good (d := 24) (b := (a0.data.toList == [105, 102])) rfl rfl rfl rfl rfl rfl rfl ?_
                                  refine AL.v good (d := 23) (v := .bool (a0.data.toList == [105, 102])) rfl rfl rfl rfl ?_
                                  refine AW.if rfl (fun h17 => ?_) (fun h17 => ?_)
                                  · replace hr := cnd_t h17 hr
                                    refine AW.seq ?_
                                    refine AW.region (M := fun _ => true) ?_
                                    refine AL.v good (d := 2) (v := .int .i64 3) rfl rfl rfl rfl ?_
                                    refine AW.ret ?_
                                    obtain rfl := Option.some.inj hr
                                    exact RetQ.w good (.inr rfl) rfl rfl (Wv.refl _) (by simp [pureA, pureL, pureR, inA, inL, inR, inO, idsIn, encs_pure, enxs_pure, enys_pure, valC_pure, exC_pure, tyC_pure])
                                  · replace hr := cnd_f h17 hr
                                    refine AW.seq ?_
                                    refine AW.region (M := fun _ => true) ?_
                                    refine AL.sb good (d := 26) (b := (a0.data.toList == [116, 117, 112])) rfl rfl rfl rfl rfl rfl rfl ?_
                                    refine AL.v good (d := 25) (v := .bool (a0.data.toList == [116, 117, 112])) rfl rfl rfl rfl ?_
                                    refine AW.if rfl (fun h18 => ?_) (fun h18 => ?_)
                                    · replace hr := cnd_t h18 hr
                                      refine AW.seq ?_
                                      refine AW.region (M := fun _ => true) ?_
                                      refine AL.v good (d := 2) (v := .int .i64 (-1)) rfl rfl rfl rfl ?_
                                      refine AW.ret ?_
                                      obtain rfl := Option.some.inj hr
                                      exact RetQ.w good (.inr rfl) rfl rfl (Wv.refl _) (by simp [pureA, pureL, pureR, inA, inL, inR, inO, idsIn, encs_pure, enxs_pure, enys_pure, valC_pure, exC_pure, tyC_pure])
                                    · replace hr := cnd_f h18 hr
                                      refine AW.skip ?_
                                      refine AW.seq ?_
                                      refine AW.region (M := fun _ => true) ?_
                                      refine AL.v good (d := 2) (v := .int .i64 (-2)) rfl rfl rfl rfl ?_
                                      refine AW.ret ?_
                                      obtain rfl := Option.some.inj hr
                                      exact RetQ.w good (.inr rfl) rfl rfl (Wv.refl _) (by simp [pureA, pureL, pureR, inA, inL, inR, inO, idsIn, encs_pure, enxs_pure, enys_pure, valC_pure, exC_pure, tyC_pure])

mutual
def s_f54 : Nat → Ex → Int → Int → Option Int
  | 0, _, _, _ => none
  | n + 1, a0, a1, a2 => (bif (decide (a2 ≤ 0)) then some 0 else (bif (decide (a1 ≤ 0)) then some 0 else (bif (decide ((a0.a.length : Int) > 12)) then some 0 else (bif (decide ((a0.op.size : Int) > 20)) then some 0 else ((s_f55 n a0.v).bind fun q5 => (bif (!q5) then some 0 else (s_f54_l1 n a0 a1 (IntKind.i64.wrap (a2 - 1)) 0)))))))
def s_f54_l1 : Nat → Ex → Int → Int → Int → Option Int
  | 0, _, _, _, _ => none
  | n + 1, a0, a1, v1_1, v1_2 => (bif ((decide (v1_2 < (a0.a.length : Int))) && (decide (v1_1 > 0))) then (if 0 ≤ v1_2 then ((a0.a[v1_2.toNat]?).bind fun x19 => ((s_f54 n x19 (IntKind.i64.wrap (a1 - 1)) v1_1).bind fun q22 => (s_f54_l1 n a0 a1 q22 (IntKind.i64.wrap (v1_2 + 1))))) else none) else some v1_1)
end

theorem w_f54_a (n : Nat) (ih : ∀ (m : Nat) (a0 : Ex) (a1 : Int) (a2 : Int) (r : Int), s_f54 m a0 a1 a2 = some r → m < n → ACall Try.prog 54 [.agg (exC a0), .int .i64 a1, .int .i64 a2] (.int .i64 r)) (a0 : Ex) (a1 : Int) (a2 : Int) (r : Int) (hr : s_f54 n a0 a1 a2 = some r) : ACall Try.prog 54 [.agg (exC a0), .int .i64 a1, .int .i64 a2] (.int .i64 r) := by
  refine ACall.go [(0, .agg (exC a0)), (1, .int .i64 a1), (2, .int .i64 a2)] Try.func54 rfl Try.ntmps54 rfl rfl (by simp [pureA, pureL, pureR, inA, inL, inR, inO, idsIn, encs_pure, enxs_pure, enys_pure, valC_pure, exC_pure, tyC_pure]) ?_
  cases n with
  | zero => rw [s_f54] at hr; cases hr
  | succ n =>
    rw [s_f54] at hr
    refine AW.seq ?_
    refine AW.region (M := fun _ => true) ?_
    refine AL.bx good (d := 3) (l := [.str a0.op, .int .i64 a0.v.kind, .int .i64 a0.v.i, .bool a0.v.b, .str a0.v.s, .sl .ro 5 (encs a0.v.t), .int .i64 a0.n, .sl .ro 8 (enxs a0.a)]) rfl rfl rfl rfl rfl rfl 0 rfl ?_
    refine AL.v good (d := 6) (v := .int .i64 0) rfl rfl rfl rfl ?_
    refine AW.seq ?_
    refine AW.seq ?_
    refine AW.region (M := fun _ => true) ?_
    refine AL.v good (d := 8) (v := .int .i64 a2) rfl rfl rfl rfl ?_
    refine AL.v good (d := 9) (v := .bool (decide (a2 ≤ 0))) rfl rfl rfl rfl ?_
    refine AL.v good (d := 10) (v := .bool (decide (a2 ≤ 0))) rfl rfl rfl rfl ?_
    refine AL.cs 10 rfl (fun h1 => ?_) (fun h1 => ?_)
    · replace hr := cnd_t h1 hr
      refine AL.sk good (d := 11) rfl rfl rfl ?_
      refine AL.sk good (d := 12) rfl rfl rfl ?_
      refine AL.v good (d := 13) (v := .bool true) rfl rfl rfl rfl ?_
      refine AL.v good (d := 14) (v := .bool true) rfl rfl rfl rfl ?_
      refine AL.sk good (d := 15) rfl rfl rfl ?_
      refine AL.sk good (d := 16) rfl rfl rfl ?_
      refine AL.sk good (d := 17) rfl rfl rfl ?_
      refine AL.sk good (d := 18) rfl rfl rfl ?_
      refine AL.v good (d := 19) (v := .bool true) rfl rfl rfl rfl ?_
      refine AL.v good (d := 20) (v := .bool true) rfl rfl rfl rfl ?_
      refine AL.sk good (d := 21) rfl rfl rfl ?_
      refine AL.sk good (d := 22) rfl rfl rfl ?_
      refine AL.sk good (d := 23) rfl rfl rfl ?_
      refine AL.sk good (d := 24) rfl rfl rfl ?_
      refine AL.v good (d := 25) (v := .bool true) rfl rfl rfl rfl ?_
      refine AL.v good (d := 26) (v := .bool true) rfl rfl rfl rfl ?_
      refine AL.sk good (d := 27) rfl rfl rfl ?_
      refine AL.sk good (d := 28) rfl rfl rfl ?_
      refine AL.sk good (d := 29) rfl rfl rfl ?_
      refine AL.sk good (d := 30) rfl rfl rfl ?_
      refine AL.v good (d := 31) (v := .bool true) rfl rfl rfl rfl ?_
      refine AW.if rfl (fun h => ?_) (fun h => by cases h)
      refine AW.seq ?_
      refine AW.region (M := fun _ => true) ?_
      refine AL.v good (d := 6) (v := .int .i64 0) rfl rfl rfl rfl ?_
      refine AW.ret ?_
      obtain rfl := Option.some.inj hr
      exact RetQ.w good (.inr rfl) rfl rfl (Wv.refl _) (by simp [pureA, pureL, pureR, inA, inL, inR, inO, idsIn, encs_pure, enxs_pure, enys_pure, valC_pure, exC_pure, tyC_pure])
    · replace hr := cnd_f h1 hr
      refine AL.v good (d := 11) (v := .int .i64 a1) rfl rfl rfl rfl ?_
      refine AL.v good (d := 12) (v := .bool (decide (a1 ≤ 0))) rfl rfl rfl rfl ?_
      refine AL.v good (d := 13) (v := .bool (decide (a1 ≤ 0))) rfl rfl rfl rfl ?_
      refine AL.v good (d := 14) (v := .bool (decide (a1 ≤ 0))) rfl rfl rfl rfl ?_
      refine AL.cs 14 rfl (fun h2 => ?_) (fun h2 => ?_)
      · replace hr := cnd_t h2 hr
        refine AL.sk good (d := 15) rfl rfl rfl ?_
        refine AL.sk good (d := 16) rfl rfl rfl ?_
        refine AL.sk good (d := 17) rfl rfl rfl ?_
        refine AL.sk good (d := 18) rfl rfl rfl ?_
        refine AL.v good (d := 19) (v := .bool true) rfl rfl rfl rfl ?_
        refine AL.v good (d := 20) (v := .bool true) rfl rfl rfl rfl ?_
        refine AL.sk good (d := 21) rfl rfl rfl ?_
        refine AL.sk good (d := 22) rfl rfl rfl ?_
        refine AL.sk good (d := 23) rfl rfl rfl ?_
        refine AL.sk good (d := 24) rfl rfl rfl ?_
        refine AL.v good (d := 25) (v := .bool true) rfl rfl rfl rfl ?_
        refine AL.v good (d := 26) (v := .bool true) rfl rfl rfl rfl ?_
        refine AL.sk good (d := 27) rfl rfl rfl ?_
        refine AL.sk good (d := 28) rfl rfl rfl ?_
        refine AL.sk good (d := 29) rfl rfl rfl ?_
        refine AL.sk good (d := 30) rfl rfl rfl ?_
        refine AL.v good (d := 31) (v := .bool true) rfl rfl rfl rfl ?_
        refine AW.if rfl (fun h => ?_) (fun h => by cases h)
        refine AW.seq ?_
        refine AW.region (M := fun _ => true) ?_
        refine AL.v good (d := 6) (v := .int .i64 0) rfl rfl rfl rfl ?_
        refine AW.ret ?_
        obtain rfl := Option.some.inj hr
        exact RetQ.w good (.inr rfl) rfl rfl (Wv.refl _) (by simp [pureA, pureL, pureR, inA, inL, inR, inO, idsIn, encs_pure, enxs_pure, enys_pure, valC_pure, exC_pure, tyC_pure])
      · replace hr := cnd_f h2 hr
        refine AL.v good (d := 15) (v := .ptr 0 7) rfl rfl rfl rfl ?_
        refine AL.v good (d := 16) (v := .sl .ro 8 (enxs a0.a)) rfl rfl rfl rfl ?_
        refine AL.ln good (d := 17) (m := a0.a.length) rfl rfl rfl rfl rfl rfl (enxs_length _) ?_
        refine AL.v good (d := 18) (v := .bool (decide ((a0.a.length : Int) > 12))) rfl rfl rfl rfl ?_
        refine AL.v good (d := 19) (v := .bool (decide ((a0.a.length : Int) > 12))) rfl rfl rfl rfl ?_
        refine AL.v good (d := 20) (v := .bool (decide ((a0.a.length : Int) > 12))) rfl rfl rfl rfl ?_
        refine AL.cs 20 rfl (fun h3 => ?_) (fun h3 => ?_)
        · replace hr := cnd_t h3 hr
          refine AL.sk good (d := 21) rfl rfl rfl ?_
          refine AL.sk good (d := 22) rfl rfl rfl ?_
          refine AL.sk good (d := 23) rfl rfl rfl ?_
          refine AL.sk good (d := 24) rfl rfl rfl ?_
          refine AL.v good (d := 25) (v := .bool true) rfl rfl rfl rfl ?_
          refine AL.v good (d := 26) (v := .bool true) rfl rfl rfl rfl ?_
          refine AL.sk good (d := 27) rfl rfl rfl ?_
          refine AL.sk good (d := 28) rfl rfl rfl ?_
          refine AL.sk good (d := 29) rfl rfl rfl ?_
          refine AL.sk good (d := 30) rfl rfl rfl ?_
          refine AL.v good (d := 31) (v := .bool true) rfl rfl rfl rfl ?_
          refine AW.if rfl (fun h => ?_) (fun h => by cases h)
          refine AW.seq ?_
          refine AW.region (M := fun _ => true) ?_
          refine AL.v good (d := 6) (v := .int .i64 0) rfl rfl rfl rfl ?_
          refine AW.ret ?_
          obtain rfl := Option.some.inj hr
          exact RetQ.w good (.inr rfl) rfl rfl (Wv.refl _) (by simp [pureA, pureL, pureR, inA, inL, inR, inO, idsIn, encs_pure, enxs_pure, enys_pure, valC_pure, exC_pure, tyC_pure])
        · replace hr := cnd_f h3 hr
          refine AL.v good (d := 21) (v := .ptr 0 0) rfl rfl rfl rfl ?_
          refine AL.v good (d := 22) (v := .str a0.op) rfl rfl rfl rfl ?_
          refine AL.v good (d := 23) (v := .int .i64 (a0.op.size : Int)) rfl rfl rfl rfl ?_
          refine AL.v good (d := 24) (v := .bool (decide ((a0.op.size : Int) > 20))) rfl rfl rfl rfl ?_
          refine AL.v good (d := 25) (v := .bool (decide ((a0.op.size : Int) > 20))) rfl rfl rfl rfl ?_
          refine AL.v good (d := 26) (v := .bool (decide ((a0.op.size : Int) > 20))) rfl rfl rfl rfl ?_
          refine AL.cs 26 rfl (fun h4 => ?_) (fun h4 => ?_)
          · replace hr := cnd_t h4 hr
            refine AL.sk good (d := 27) rfl rfl rfl ?_
            refine AL.sk good (d := 28) rfl rfl rfl ?_
            refine AL.sk good (d := 29) rfl rfl rfl ?_
            refine AL.sk good (d := 30) rfl rfl rfl ?_
            refine AL.v good (d := 31) (v := .bool true) rfl rfl rfl rfl ?_
            refine AW.if rfl (fun h => ?_) (fun h => by cases h)
            refine AW.seq ?_
            refine AW.region (M := fun _ => true) ?_
            refine AL.v good (d := 6) (v := .int .i64 0) rfl rfl rfl rfl ?_
            refine AW.ret ?_
            obtain rfl := Option.some.inj hr
            exact RetQ.w good (.inr rfl) rfl rfl (Wv.refl _) (by simp [pureA, pureL, pureR, inA, inL, inR, inO, idsIn, encs_pure, enxs_pure, enys_pure, valC_pure, exC_pure, tyC_pure])
          · replace hr := cnd_f h4 hr
            refine AL.v good (d := 27) (v := .ptr 0 1) rfl rfl rfl rfl ?_
            refine AL.v good (d := 28) (v := .agg [.int .i64 a0.v.kind, .int .i64 a0.v.i, .bool a0.v.b, .str a0.v.s, .sl .ro 5 (encs a0.v.t)]) rfl rfl rfl rfl ?_
            obtain ⟨q5, h6, hr⟩ := bnd1 hr
            refine AL.cw good (d := 29) (xs := [.agg (valC a0.v)]) (res := .bool q5) rfl rfl rfl rfl rfl rfl rfl (w_f55 _ _ _ h6) ⟨(Wv.refl _), trivial⟩ (by simp [pureA, pureL, pureR, inA, inL, inR, inO, idsIn, encs_pure, enxs_pure, enys_pure, valC_pure, exC_pure, tyC_pure]) ?_
            refine AL.v good (d := 30) (v := .bool (!q5)) rfl rfl rfl rfl ?_
            refine AL.v good (d := 31) (v := .bool (!q5)) rfl rfl rfl rfl ?_
            refine AW.if rfl (fun h7 => ?_) (fun h7 => ?_)
            · replace hr := cnd_t h7 hr
              refine AW.seq ?_
              refine AW.region (M := fun _ => true) ?_
              refine AL.v good (d := 6) (v := .int .i64 0) rfl rfl rfl rfl ?_
              refine AW.ret ?_
              obtain rfl := Option.some.inj hr
              exact RetQ.w good (.inr rfl) rfl rfl (Wv.refl _) (by simp [pureA, pureL, pureR, inA, inL, inR, inO, idsIn, encs_pure, enxs_pure, enys_pure, valC_pure, exC_pure, tyC_pure])
            · replace hr := cnd_f h7 hr
              refine AW.skip ?_
              refine AW.seq ?_
              refine AW.region (M := fun _ => true) ?_
              refine AL.v good (d := 32) (v := .int .i64 a2) rfl rfl rfl rfl ?_
              refine AL.v good (d := 33) (v := .int .i64 (IntKind.i64.wrap (a2 - 1))) rfl rfl rfl rfl ?_
              refine AL.v good (d := 2) (v := .int .i64 (IntKind.i64.wrap (a2 - 1))) rfl rfl rfl rfl ?_
              refine AW.seq ?_
              refine AW.seq ?_
              refine AW.region (M := fun _ => true) ?_
              refine AL.v good (d := 7) (v := .int .i64 0) rfl rfl rfl rfl ?_
              refine AW.block ?_
              refine AW.lpw (fun x : Nat × Int × Int => [(1, .int .i64 a1), (2, .int .i64 x.2.1), (3, .ptr 0 0), (7, .int .i64 x.2.2)]) (fun x => [(0, .box 27 [.str a0.op, .int .i64 a0.v.kind, .int .i64 a0.v.i, .bool a0.v.b, .str a0.v.s, .sl .ro 5 (encs a0.v.t), .int .i64 a0.n, .sl .ro 8 (enxs a0.a)])]) (fun x => s_f54_l1 x.1 a0 a1 x.2.1 x.2.2 = some r ∧ x.1 ≤ n) (fun x => x.1) (n, (IntKind.i64.wrap (a2 - 1)), 0) ⟨(fun _ h => by cases h), List.forall_mem_cons.2 ⟨⟨⟨_, rfl, Wv.refl _⟩, (by simp [pureA, pureL, pureR, inA, inL, inR, inO, idsIn, encs_pure, enxs_pure, enys_pure, valC_pure, exC_pure, tyC_pure])⟩, List.forall_mem_cons.2 ⟨⟨⟨_, rfl, Wv.refl _⟩, (by simp [pureA, pureL, pureR, inA, inL, inR, inO, idsIn, encs_pure, enxs_pure, enys_pure, valC_pure, exC_pure, tyC_pure])⟩, List.forall_mem_cons.2 ⟨⟨⟨_, rfl, Wv.refl _⟩, (by simp [pureA, pureL, pureR, inA, inL, inR, inO, idsIn, encs_pure, enxs_pure, enys_pure, valC_pure, exC_pure, tyC_pure])⟩, List.forall_mem_cons.2 ⟨⟨⟨_, rfl, Wv.refl _⟩, (by simp [pureA, pureL, pureR, inA, inL, inR, inO, idsIn, encs_pure, enxs_pure, enys_pure, valC_pure, exC_pure, tyC_pure])⟩, (fun _ h => by cases h)⟩⟩⟩⟩, List.forall_mem_cons.2 ⟨⟨⟨_, rfl, ⟨rfl, ⟨Wv.refl _, Wv.refl _, Wv.refl _, Wv.refl _, Wv.refl _, Wv.refl _, Wv.refl _, Wv.refl _, trivial⟩⟩⟩, (by simp [pureA, pureL, pureR, inA, inL, inR, inO, idsIn, encs_pure, enxs_pure, enys_pure, valC_pure, exC_pure, tyC_pure])⟩, (fun _ h => by cases h)⟩⟩ ⟨hr, Nat.le_refl _⟩ (fun ⟨m, v1_1, v1_2⟩ hx => ?_)
              obtain ⟨hr, hm⟩ := hx
              dsimp only at hr hm
              cases m with
              | zero => rw [s_f54_l1] at hr; cases hr
              | succ m =>
                rw [s_f54_l1] at hr
                show AW Try.prog _ _ _ (mkS 55 [(1, .int .i64 a1), (2, .int .i64 v1_1), (3, .ptr 0 0), (7, .int .i64 v1_2)] [(0, .box 27 [.str a0.op, .int .i64 a0.v.kind, .int .i64 a0.v.i, .bool a0.v.b, .str a0.v.s, .sl .ro 5 (encs a0.v.t), .int .i64 a0.n, .sl .ro 8 (enxs a0.a)])])
                refine AW.seq ?_
                refine AW.seq ?_
                refine AW.region (M := fun _ => true) ?_
                refine AL.v good (d := 34) (v := .int .i64 v1_2) rfl rfl rfl rfl ?_
                refine AL.v good (d := 35) (v := .ptr 0 7) rfl rfl rfl rfl ?_
                refine AL.v good (d := 36) (v := .sl .ro 8 (enxs a0.a)) rfl rfl rfl rfl ?_
                refine AL.ln good (d := 37) (m := a0.a.length) rfl rfl rfl rfl rfl rfl (enxs_length _) ?_
                refine AL.v good (d := 38) (v := .bool (decide (v1_2 < (a0.a.length : Int)))) rfl rfl rfl rfl ?_
                refine AL.vb good (d := 39) (b := (decide (v1_2 < (a0.a.length : Int)))) rfl rfl rfl rfl (fun g16 h17 => ?_)
                refine AL.gv good (d := 40) (c := g16) (v := .int .i64 v1_1) (rd := []) rfl rfl (by cases g16 <;> rfl) (fun h => by cases g16 <;> first | rfl | exact absurd h (by decide)) ?_
                refine AL.gv good (d := 41) (c := g16) (v := .bool (decide (v1_1 > 0))) (rd := []) rfl rfl (by cases g16 <;> rfl) (fun h => by cases g16 <;> first | rfl | exact absurd h (by decide)) ?_
                refine AL.v good (d := 42) (v := .bool (g16 && (decide (v1_1 > 0)))) (rd := []) rfl rfl rfl (by cases g16 <;> rfl) ?_
                subst h17
                refine AW.if rfl (fun h18 => ?_) (fun h18 => ?_)
                · replace hr := cnd_t h18 hr
                  refine AW.skip ?_
                  refine AW.seq ?_
                  refine AW.block ?_
                  refine AW.region (M := fun _ => true) ?_
                  refine AL.v good (d := 45) (v := .ptr 0 7) rfl rfl rfl rfl ?_
                  refine AL.v good (d := 46) (v := .sl .ro 8 (enxs a0.a)) rfl rfl rfl rfl ?_
                  refine AL.v good (d := 47) (v := .int .i64 v1_2) rfl rfl rfl rfl ?_
                  obtain ⟨h21, hr⟩ := grd hr
                  obtain ⟨x19, h20, hr⟩ := bnd1 hr
                  refine AL.ix good (d := 48) (r := [.str x19.op, .int .i64 x19.v.kind, .int .i64 x19.v.i, .bool x19.v.b, .str x19.v.s, .sl .ro 5 (encs x19.v.t), .int .i64 x19.n, .sl .ro 8 (enxs x19.a)]) rfl rfl rfl rfl rfl rfl rfl h21 (enxs_get h20) ?_
                  refine AL.v good (d := 49) (v := .agg [.str x19.op, .int .i64 x19.v.kind, .int .i64 x19.v.i, .bool x19.v.b, .str x19.v.s, .sl .ro 5 (encs x19.v.t), .int .i64 x19.n, .sl .ro 8 (enxs x19.a)]) rfl rfl rfl rfl ?_
                  refine AL.v good (d := 50) (v := .int .i64 a1) rfl rfl rfl rfl ?_
                  refine AL.v good (d := 51) (v := .int .i64 (IntKind.i64.wrap (a1 - 1))) rfl rfl rfl rfl ?_
                  refine AL.v good (d := 52) (v := .int .i64 v1_1) rfl rfl rfl rfl ?_
                  obtain ⟨q22, h23, hr⟩ := bnd1 hr
                  refine AL.cw good (d := 53) (xs := [.agg (exC x19), .int .i64 (IntKind.i64.wrap (a1 - 1)), .int .i64 v1_1]) (res := .int .i64 q22) rfl rfl rfl rfl rfl rfl rfl (ih _ _ _ _ _ h23 (by omega)) ⟨(Wv.refl _), (Wv.refl _), (Wv.refl _), trivial⟩ (by simp [pureA, pureL, pureR, inA, inL, inR, inO, idsIn, encs_pure, enxs_pure, enys_pure, valC_pure, exC_pure, tyC_pure]) ?_
                  refine AL.v good (d := 2) (v := .int .i64 q22) rfl rfl rfl rfl ?_
                  refine AW.region (M := fun _ => true) ?_
                  refine AL.v good (d := 43) (v := .int .i64 v1_2) rfl rfl rfl rfl ?_
                  refine AL.v good (d := 44) (v := .int .i64 (IntKind.i64.wrap (v1_2 + 1))) rfl rfl rfl rfl ?_
                  refine AL.v good (d := 7) (v := .int .i64 (IntKind.i64.wrap (v1_2 + 1))) rfl rfl rfl rfl ?_
                  exact ⟨(m, q22, (IntKind.i64.wrap (v1_2 + 1))), _, _, rfl, ⟨(fun _ h => by cases h), List.forall_mem_cons.2 ⟨⟨⟨_, rfl, Wv.refl _⟩, (by simp [pureA, pureL, pureR, inA, inL, inR, inO, idsIn, encs_pure, enxs_pure, enys_pure, valC_pure, exC_pure, tyC_pure])⟩, List.forall_mem_cons.2 ⟨⟨⟨_, rfl, Wv.refl _⟩, (by simp [pureA, pureL, pureR, inA, inL, inR, inO, idsIn, encs_pure, enxs_pure, enys_pure, valC_pure, exC_pure, tyC_pure])⟩, List.forall_mem_cons.2 ⟨⟨⟨_, rfl, Wv.refl _⟩, (by simp [pureA, pureL, pureR, inA, inL, inR, inO, idsIn, encs_pure, enxs_pure, enys_pure, valC_pure, exC_pure, tyC_pure])⟩, List.forall_mem_cons.2 ⟨⟨⟨_, rfl, Wv.refl _⟩, (by simp [pureA, pureL, pureR, inA, inL, inR, inO, idsIn, encs_pure, enxs_pure, enys_pure, valC_pure, exC_pure, tyC_pure])⟩, (fun _ h => by cases h)⟩⟩⟩⟩, List.forall_mem_cons.2 ⟨⟨⟨_, rfl, ⟨rfl, ⟨Wv.refl _, Wv.refl _, Wv.refl _, Wv.refl _, Wv.refl _, Wv.refl _, Wv.refl _, Wv.refl _, trivial⟩⟩⟩, (by simp [pureA, pureL, pureR, inA, inL, inR, inO, idsIn, encs_pure, enxs_pure, enys_pure, valC_pure, exC_pure, tyC_pure])⟩, (fun _ h => by cases h)⟩⟩, ⟨hr, Nat.le_of_succ_le hm⟩, Nat.lt_succ_self _⟩
                · replace hr := cnd_f h18 hr
                  refine AW.exit ?_
                  refine AW.seq ?_
                  refine AW.region (M := fun _ => true) ?_
                  refine AL.v good (d := 54) (v := .int .i64 v1_1) rfl rfl rfl rfl ?_
                  refine AL.v good (d := 6) (v := .int .i64 v1_1) rfl rfl rfl rfl ?_
                  refine AW.ret ?_
                  obtain rfl := Option.some.inj hr
                  exact RetQ.w good (.inr rfl) rfl rfl (Wv.refl _) (by simp [pureA, pureL, pureR, inA, inL, inR, inO, idsIn, encs_pure, enxs_pure, enys_pure, valC_pure, exC_pure, tyC_pure])
theorem w_f54 (n : Nat) : ∀ (a0 : Ex) (a1 : Int) (a2 : Int) (r : Int) (hr : s_f54 n a0 a1 a2 = some r), ACall Try.prog 54 [.agg (exC a0), .int .i64 a1, .int .i64 a2] (.int .i64 r) := by
  induction n using Nat.strongRecOn with
  | _ n ih =>
    intro a0 a1 a2 r hr
    exact w_f54_a n (fun m a0 a1 a2 r h hm => ih m hm a0 a1 a2 r h) a0 a1 a2 r hr

def s_f17 (n : Nat) (a0 : Ex) : Option Bool :=
  ((s_f54 n a0 20 400).bind fun q1 => some (decide (q1 > 0)))

theorem w_f17 (n : Nat) (a0 : Ex) (r : Bool) (hr : s_f17 n a0 = some r) : ACall Try.prog 17 [.agg (exC a0)] (.bool r) := by
  refine ACall.go [(0, .agg (exC a0))] Try.func17 rfl Try.ntmps17 rfl rfl (by simp [pureA, pureL, pureR, inA, inL, inR, inO, idsIn, encs_pure, enxs_pure, enys_pure, valC_pure, exC_pure, tyC_pure]) ?_
  rw [s_f17] at hr
  refine AW.seq ?_
  refine AW.region (M := fun _ => true) ?_
  refine AL.bx good (d := 1) (l := [.str a0.op, .int .i64 a0.v.kind, .int .i64 a0.v.i, .bool a0.v.b, .str a0.v.s, .sl .ro 5 (encs a0.v.t), .int .i64 a0.n, .sl .ro 8 (enxs a0.a)]) rfl rfl rfl rfl rfl rfl 0 rfl ?_
  refine AL.v good (d := 2) (v := .bool false) rfl rfl rfl rfl ?_
  refine AW.seq ?_
  refine AW.region (M := fun _ => true) ?_
  refine AL.v good (d := 3) (v := .agg [.str a0.op, .int .i64 a0.v.kind, .int .i64 a0.v.i, .bool a0.v.b, .str a0.v.s, .sl .ro 5 (encs a0.v.t), .int .i64 a0.n, .sl .ro 8 (enxs a0.a)]) rfl rfl rfl rfl ?_
  obtain ⟨q1, h2, hr⟩ := bnd1 hr
  refine AL.cw good (d := 4) (xs := [.agg (exC a0), .int .i64 20, .int .i64 400]) (res := .int .i64 q1) rfl rfl rfl rfl rfl rfl rfl (w_f54 _ _ _ _ _ h2) ⟨(Wv.refl _), (Wv.refl _), (Wv.refl _), trivial⟩ (by simp [pureA, pureL, pureR, inA, inL, inR, inO, idsIn, encs_pure, enxs_pure, enys_pure, valC_pure, exC_pure, tyC_pure]) ?_
  refine AL.v good (d := 5) (v := .bool (decide (q1 > 0))) rfl rfl rfl rfl ?_
  refine AL.v good (d := 2) (v := .bool (decide (q1 > 0))) rfl rfl rfl rfl ?_
  refine AW.ret ?_
  obtain rfl := Option.some.inj hr
  exact RetQ.w good (.inr rfl) rfl rfl (Wv.refl _) (by simp [pureA, pureL, pureR, inA, inL, inR, inO, idsIn, encs_pure, enxs_pure, enys_pure, valC_pure, exC_pure, tyC_pure])

mutual
def s_f19 : Nat → Ex → Option Ex
  | 0, _ => none
  | n + 1, a0 => ((s_f22 n a0.v).bind fun q1 => (s_f19_l1 n a0 q1 0 []))
def s_f19_l1 : Nat → Ex → Val → Nat → (List Ex) → Option Ex
  | 0, _, _, _, _ => none
  | n + 1, a0, q1, v1_1, v1_2 => (bif (decide ((v1_1 : Int) < (a0.a.length : Int))) then ((a0.a[v1_1]?).bind fun x12 => ((s_f19 n x12).bind fun q14 => (if v1_2.length + 1 ≤ 1000000 then (s_f19_l1 n a0 q1 (v1_1 + 1) (v1_2 ++ [q14])) else none))) else some (Ex.mk a0.op q1 a0.n v1_2))
end

theorem w_f19_a (n : Nat) (ih : ∀ (m : Nat) (a0 : Ex) (r : Ex), s_f19 m a0 = some r → m < n → ACall Try.prog 19 [.agg (exC a0)] (.agg (exC r))) (a0 : Ex) (r : Ex) (hr : s_f19 n a0 = some r) : ACall Try.prog 19 [.agg (exC a0)] (.agg (exC r)) := by
  refine ACall.go [(0, .agg (exC a0))] Try.func19 rfl Try.ntmps19 rfl rfl (by simp [pureA, pureL, pureR, inA, inL, inR, inO, idsIn, encs_pure, enxs_pure, enys_pure, valC_pure, exC_pure, tyC_pure]) ?_
  cases n with
  | zero => rw [s_f19] at hr; cases hr
  | succ n =>
    rw [s_f19] at hr
    refine AW.seq ?_
    refine AW.region (M := fun _ => true) ?_
    refine AL.bx good (d := 1) (l := [.str a0.op, .int .i64 a0.v.kind, .int .i64 a0.v.i, .bool a0.v.b, .str a0.v.s, .sl .ro 5 (encs a0.v.t), .int .i64 a0.n, .sl .ro 8 (enxs a0.a)]) rfl rfl rfl rfl rfl rfl 0 rfl ?_
    refine AL.alc good (d := 2) rfl rfl rfl rfl rfl 1 rfl ?_
    refine AW.seq ?_
    refine AW.draw (M := fun i => Nat.beq i 9) good.wide (by kernel_rfl) ?_
    refine AL.v good (d := 5) (v := .ptr 0 0) rfl rfl rfl rfl ?_
    refine AL.v good (d := 6) (v := .str a0.op) rfl rfl rfl rfl ?_
    refine AL.v good (d := 7) (v := .ptr 0 1) rfl rfl rfl rfl ?_
    refine AL.v good (d := 8) (v := .agg [.int .i64 a0.v.kind, .int .i64 a0.v.i, .bool a0.v.b, .str a0.v.s, .sl .ro 5 (encs a0.v.t)]) rfl rfl rfl rfl ?_
    obtain ⟨q1, h2, hr⟩ := bnd1 hr
    refine AL.cw good (d := 9) (xs := [.agg (valC a0.v)]) (res := .agg [.int .i64 q1.kind, .int .i64 q1.i, .bool q1.b, .str q1.s, .sl .ro 5 (encs q1.t)]) rfl rfl rfl rfl rfl rfl rfl (w_f22 _ _ _ h2) ⟨(Wv.refl _), trivial⟩ (by simp [pureA, pureL, pureR, inA, inL, inR, inO, idsIn, encs_pure, enxs_pure, enys_pure, valC_pure, exC_pure, tyC_pure]) ?_
    refine AL.v good (d := 10) (v := .ptr 0 6) rfl rfl rfl rfl ?_
    refine AL.v good (d := 11) (v := .int .i64 a0.n) rfl rfl rfl rfl ?_
    refine AL.bld good (d := 12) (l := [.str a0.op, .int .i64 q1.kind, .int .i64 q1.i, .bool q1.b, .str q1.s, .sl .ro 5 (encs q1.t), .int .i64 a0.n, .sl .nil 0 []]) rfl rfl rfl rfl rfl rfl rfl ?_
    refine AL.alc good (d := 3) rfl rfl rfl rfl rfl 2 rfl ?_
    refine AL.st2 good (c2 := [.str a0.op, .int .i64 q1.kind, .int .i64 q1.i, .bool q1.b, .str q1.s, .sl .ro 5 (encs q1.t), .int .i64 a0.n, .sl .nil 0 []]) rfl rfl rfl rfl rfl rfl rfl rfl rfl rfl rfl rfl ?_
    refine AW.seq ?_
    refine AW.seq ?_
    refine AW.region (M := fun _ => true) ?_
    refine AL.v good (d := 4) (v := .int .i64 0) rfl rfl rfl rfl ?_
    refine AW.block ?_
    refine AW.adoptB 2 rfl 7 rfl 3 8 36 rfl rfl ?_
    refine AW.lensB 0 rfl (fun hl10 => ?_)
    replace hl10 : a0.a.length ≤ 9223372036854775807 := by rw [← enxs_length a0.a]; exact hl10.2.2.2.2.2.2.2.1
    refine AW.lpw (fun x : Nat × Nat × (List Ex) => [(1, .ptr 0 0), (2, .ptr 1 0), (3, .ptr 2 0), (4, .int .i64 (x.2.1 : Int))]) (fun x => [(0, .box 27 [.str a0.op, .int .i64 a0.v.kind, .int .i64 a0.v.i, .bool a0.v.b, .str a0.v.s, .sl .ro 5 (encs a0.v.t), .int .i64 a0.n, .sl .ro 8 (enxs a0.a)]), (1, .box 36 [.str ⟨#[]⟩, .int .i64 0, .int .i64 0, .bool false, .str ⟨#[]⟩, .sl .nil 0 [], .int .i64 0, .sl .nil 0 []]), (2, .box 36 [.str a0.op, .int .i64 q1.kind, .int .i64 q1.i, .bool q1.b, .str q1.s, .sl .ro 5 (encs q1.t), .int .i64 a0.n, .sl (.own 3) 8 (enxs x.2.2)]), (3, .row 36 8 (enxs x.2.2).length)]) (fun x => s_f19_l1 x.1 a0 q1 x.2.1 x.2.2 = some r ∧ x.1 ≤ n) (fun x => x.1) (n, 0, []) ⟨(fun _ h => by cases h), List.forall_mem_cons.2 ⟨⟨⟨_, rfl, Wv.refl _⟩, (by simp [pureA, pureL, pureR, inA, inL, inR, inO, idsIn, encs_pure, enxs_pure, enys_pure, valC_pure, exC_pure, tyC_pure])⟩, List.forall_mem_cons.2 ⟨⟨⟨_, rfl, Wv.refl _⟩, (by simp [pureA, pureL, pureR, inA, inL, inR, inO, idsIn, encs_pure, enxs_pure, enys_pure, valC_pure, exC_pure, tyC_pure])⟩, List.forall_mem_cons.2 ⟨⟨⟨_, rfl, Wv.refl _⟩, (by simp [pureA, pureL, pureR, inA, inL, inR, inO, idsIn, encs_pure, enxs_pure, enys_pure, valC_pure, exC_pure, tyC_pure])⟩, List.forall_mem_cons.2 ⟨⟨⟨_, rfl, Wv.refl _⟩, (by simp [pureA, pureL, pureR, inA, inL, inR, inO, idsIn, encs_pure, enxs_pure, enys_pure, valC_pure, exC_pure, tyC_pure])⟩, (fun _ h => by cases h)⟩⟩⟩⟩, List.forall_mem_cons.2 ⟨⟨⟨_, rfl, ⟨rfl, ⟨Wv.refl _, Wv.refl _, Wv.refl _, Wv.refl _, Wv.refl _, Wv.refl _, Wv.refl _, Wv.refl _, trivial⟩⟩⟩, (by simp [pureA, pureL, pureR, inA, inL, inR, inO, idsIn, encs_pure, enxs_pure, enys_pure, valC_pure, exC_pure, tyC_pure])⟩, List.forall_mem_cons.2 ⟨⟨⟨_, rfl, ⟨rfl, ⟨Wv.refl _, Wv.refl _, Wv.refl _, Wv.refl _, Wv.refl _, Wv.refl _, Wv.refl _, Wv.refl _, trivial⟩⟩⟩, (by simp [pureA, pureL, pureR, inA, inL, inR, inO, idsIn, encs_pure, enxs_pure, enys_pure, valC_pure, exC_pure, tyC_pure])⟩, List.forall_mem_cons.2 ⟨⟨⟨_, rfl, ⟨rfl, ⟨Wv.refl _, Wv.refl _, Wv.refl _, Wv.refl _, Wv.refl _, Wv.refl _, Wv.refl _, Wv.refl _, trivial⟩⟩⟩, (by simp [pureA, pureL, pureR, inA, inL, inR, inO, idsIn, encs_pure, enxs_pure, enys_pure, valC_pure, exC_pure, tyC_pure])⟩, List.forall_mem_cons.2 ⟨⟨⟨_, rfl, ⟨rfl, rfl, rfl⟩⟩, (by simp [pureA, pureL, pureR, inA, inL, inR, inO, idsIn, encs_pure, enxs_pure, enys_pure, valC_pure, exC_pure, tyC_pure])⟩, (fun _ h => by cases h)⟩⟩⟩⟩⟩ ⟨hr, Nat.le_refl _⟩ (fun ⟨m, v1_1, v1_2⟩ hx => ?_)
    obtain ⟨hr, hm⟩ := hx
    dsimp only at hr hm
    cases m with
    | zero => rw [s_f19_l1] at hr; cases hr
    | succ m =>
      rw [s_f19_l1] at hr
      show AW Try.prog _ _ _ (mkS 32 [(1, .ptr 0 0), (2, .ptr 1 0), (3, .ptr 2 0), (4, .int .i64 (v1_1 : Int))] [(0, .box 27 [.str a0.op, .int .i64 a0.v.kind, .int .i64 a0.v.i, .bool a0.v.b, .str a0.v.s, .sl .ro 5 (encs a0.v.t), .int .i64 a0.n, .sl .ro 8 (enxs a0.a)]), (1, .box 36 [.str ⟨#[]⟩, .int .i64 0, .int .i64 0, .bool false, .str ⟨#[]⟩, .sl .nil 0 [], .int .i64 0, .sl .nil 0 []]), (2, .box 36 [.str a0.op, .int .i64 q1.kind, .int .i64 q1.i, .bool q1.b, .str q1.s, .sl .ro 5 (encs q1.t), .int .i64 a0.n, .sl (.own 3) 8 (enxs v1_2)]), (3, .row 36 8 (enxs v1_2).length)])
      refine AW.seq ?_
      refine AW.seq ?_
      refine AW.region (M := fun _ => true) ?_
      refine AL.v good (d := 13) (v := .int .i64 (v1_1 : Int)) rfl rfl rfl rfl ?_
      refine AL.v good (d := 14) (v := .ptr 0 7) rfl rfl rfl rfl ?_
      refine AL.v good (d := 15) (v := .sl .ro 8 (enxs a0.a)) rfl rfl rfl rfl ?_
      refine AL.ln good (d := 16) (m := a0.a.length) rfl rfl rfl rfl rfl rfl (enxs_length _) ?_
      refine AL.v good (d := 17) (v := .bool (decide ((v1_1 : Int) < (a0.a.length : Int)))) rfl rfl rfl rfl ?_
      refine AW.if rfl (fun h11 => ?_) (fun h11 => ?_)
      · replace hr := cnd_t h11 hr
        refine AW.skip ?_
        refine AW.seq ?_
        refine AW.block ?_
        refine AW.draw (M := fun i => Nat.beq i 9 || Nat.beq i 11) good.wide (by kernel_rfl) ?_
        refine AL.v good (d := 20) (v := .ptr 2 7) rfl rfl rfl rfl ?_
        refine AL.v good (d := 21) (v := .sl (.own 3) 8 (enxs v1_2)) rfl rfl rfl rfl ?_
        refine AL.v good (d := 22) (v := .ptr 0 7) rfl rfl rfl rfl ?_
        refine AL.v good (d := 23) (v := .sl .ro 8 (enxs a0.a)) rfl rfl rfl rfl ?_
        refine AL.v good (d := 24) (v := .int .i64 (v1_1 : Int)) rfl rfl rfl rfl ?_
        obtain ⟨x12, h13, hr⟩ := bnd1 hr
        refine AL.ix good (d := 25) (r := [.str x12.op, .int .i64 x12.v.kind, .int .i64 x12.v.i, .bool x12.v.b, .str x12.v.s, .sl .ro 5 (encs x12.v.t), .int .i64 x12.n, .sl .ro 8 (enxs x12.a)]) rfl rfl rfl rfl rfl rfl rfl (Int.natCast_nonneg _) (enxs_get h13) ?_
        refine AL.v good (d := 26) (v := .agg [.str x12.op, .int .i64 x12.v.kind, .int .i64 x12.v.i, .bool x12.v.b, .str x12.v.s, .sl .ro 5 (encs x12.v.t), .int .i64 x12.n, .sl .ro 8 (enxs x12.a)]) rfl rfl rfl rfl ?_
        obtain ⟨q14, h15, hr⟩ := bnd1 hr
        refine AL.cw good (d := 27) (xs := [.agg (exC x12)]) (res := .agg [.str q14.op, .int .i64 q14.v.kind, .int .i64 q14.v.i, .bool q14.v.b, .str q14.v.s, .sl .ro 5 (encs q14.v.t), .int .i64 q14.n, .sl .ro 8 (enxs q14.a)]) rfl rfl rfl rfl rfl rfl rfl (ih _ _ _ h15 (by omega)) ⟨(Wv.refl _), trivial⟩ (by simp [pureA, pureL, pureR, inA, inL, inR, inO, idsIn, encs_pure, enxs_pure, enys_pure, valC_pure, exC_pure, tyC_pure]) ?_
        refine AL.lit good (d := 28) (rows := [[.str q14.op, .int .i64 q14.v.kind, .int .i64 q14.v.i, .bool q14.v.b, .str q14.v.s, .sl .ro 5 (encs q14.v.t), .int .i64 q14.n, .sl .ro 8 (enxs q14.a)]]) rfl rfl rfl rfl rfl rfl rfl rfl rfl 4 rfl ?_
        obtain ⟨h16, hr⟩ := grd hr
        refine AL.aw2 good (d := 29) (rows := enxs v1_2) (news := [(exC q14)]) (rows2 := enxs (v1_2 ++ [q14])) rfl rfl rfl rfl rfl rfl rfl rfl rfl (by simp) rfl rfl rfl ⟨⟨Wv.refl _, Wv.refl _, Wv.refl _, Wv.refl _, Wv.refl _, Wv.refl _, Wv.refl _, Wv.refl _, trivial⟩, trivial⟩ (by simp [enxs_map]) (by rw [enxs_length, List.length_append]; exact h16) rfl ?_
        refine AL.v good (d := 30) (v := .ptr 2 7) rfl rfl rfl rfl ?_
        refine AL.st2 good (c2 := [.str a0.op, .int .i64 q1.kind, .int .i64 q1.i, .bool q1.b, .str q1.s, .sl .ro 5 (encs q1.t), .int .i64 a0.n, .sl (.own 3) 8 (enxs (v1_2 ++ [q14]))]) rfl rfl rfl rfl rfl rfl rfl rfl rfl rfl rfl rfl ?_
        refine AW.region (M := fun _ => true) ?_
        refine AL.v good (d := 18) (v := .int .i64 (v1_1 : Int)) rfl rfl rfl rfl ?_
        refine AL.v good (d := 19) (v := .int .i64 (IntKind.i64.wrap ((v1_1 : Int) + 1))) rfl rfl rfl rfl ?_
        refine AL.v good (d := 4) (v := .int .i64 (IntKind.i64.wrap ((v1_1 : Int) + 1))) rfl rfl rfl rfl ?_
        exact ⟨(m, (v1_1 + 1), (v1_2 ++ [q14])), _, _, rfl, ⟨(fun _ h => by cases h), List.forall_mem_cons.2 ⟨⟨⟨_, rfl, Wv.refl _⟩, (by simp [pureA, pureL, pureR, inA, inL, inR, inO, idsIn, encs_pure, enxs_pure, enys_pure, valC_pure, exC_pure, tyC_pure])⟩, List.forall_mem_cons.2 ⟨⟨⟨_, rfl, Wv.refl _⟩, (by simp [pureA, pureL, pureR, inA, inL, inR, inO, idsIn, encs_pure, enxs_pure, enys_pure, valC_pure, exC_pure, tyC_pure])⟩, List.forall_mem_cons.2 ⟨⟨⟨_, rfl, Wv.refl _⟩, (by simp [pureA, pureL, pureR, inA, inL, inR, inO, idsIn, encs_pure, enxs_pure, enys_pure, valC_pure, exC_pure, tyC_pure])⟩, List.forall_mem_cons.2 ⟨⟨⟨_, rfl, (wnx h11 hl10)⟩, (by simp [pureA, pureL, pureR, inA, inL, inR, inO, idsIn, encs_pure, enxs_pure, enys_pure, valC_pure, exC_pure, tyC_pure])⟩, (fun _ h => by cases h)⟩⟩⟩⟩, List.forall_mem_cons.2 ⟨⟨⟨_, rfl, ⟨rfl, ⟨Wv.refl _, Wv.refl _, Wv.refl _, Wv.refl _, Wv.refl _, Wv.refl _, Wv.refl _, Wv.refl _, trivial⟩⟩⟩, (by simp [pureA, pureL, pureR, inA, inL, inR, inO, idsIn, encs_pure, enxs_pure, enys_pure, valC_pure, exC_pure, tyC_pure])⟩, List.forall_mem_cons.2 ⟨⟨⟨_, rfl, ⟨rfl, ⟨Wv.refl _, Wv.refl _, Wv.refl _, Wv.refl _, Wv.refl _, Wv.refl _, Wv.refl _, Wv.refl _, trivial⟩⟩⟩, (by simp [pureA, pureL, pureR, inA, inL, inR, inO, idsIn, encs_pure, enxs_pure, enys_pure, valC_pure, exC_pure, tyC_pure])⟩, List.forall_mem_cons.2 ⟨⟨⟨_, rfl, ⟨rfl, ⟨Wv.refl _, Wv.refl _, Wv.refl _, Wv.refl _, Wv.refl _, Wv.refl _, Wv.refl _, Wv.refl _, trivial⟩⟩⟩, (by simp [pureA, pureL, pureR, inA, inL, inR, inO, idsIn, encs_pure, enxs_pure, enys_pure, valC_pure, exC_pure, tyC_pure])⟩, List.forall_mem_cons.2 ⟨⟨⟨_, rfl, ⟨rfl, rfl, rfl⟩⟩, (by simp [pureA, pureL, pureR, inA, inL, inR, inO, idsIn, encs_pure, enxs_pure, enys_pure, valC_pure, exC_pure, tyC_pure])⟩, (fun _ h => by cases h)⟩⟩⟩⟩⟩, ⟨hr, Nat.le_of_succ_le hm⟩, Nat.lt_succ_self _⟩
      · replace hr := cnd_f h11 hr
        refine AW.exit ?_
        refine AW.seq ?_
        refine AW.region (M := fun _ => true) ?_
        refine AL.v good (d := 31) (v := .agg [.str a0.op, .int .i64 q1.kind, .int .i64 q1.i, .bool q1.b, .str q1.s, .sl .ro 5 (encs q1.t), .int .i64 a0.n, .sl (.own 3) 8 (enxs v1_2)]) rfl rfl rfl rfl ?_
        refine AL.st2 good (c2 := [.str a0.op, .int .i64 q1.kind, .int .i64 q1.i, .bool q1.b, .str q1.s, .sl .ro 5 (encs q1.t), .int .i64 a0.n, .sl (.own 3) 8 (enxs v1_2)]) rfl rfl rfl rfl rfl rfl rfl rfl rfl rfl rfl rfl ?_
        refine AW.ret ?_
        obtain rfl := Option.some.inj hr
        exact RetQ.w good (.inr rfl) rfl rfl ⟨Wv.refl _, Wv.refl _, Wv.refl _, Wv.refl _, Wv.refl _, Wv.refl _, Wv.refl _, ⟨.inr rfl, WvR.refl _, .inl rfl⟩, trivial⟩ (by simp [pureA, pureL, pureR, inA, inL, inR, inO, idsIn, encs_pure, enxs_pure, enys_pure, valC_pure, exC_pure, tyC_pure])
theorem w_f19 (n : Nat) : ∀ (a0 : Ex) (r : Ex) (hr : s_f19 n a0 = some r), ACall Try.prog 19 [.agg (exC a0)] (.agg (exC r)) := by
  induction n using Nat.strongRecOn with
  | _ n ih =>
    intro a0 r hr
    exact w_f19_a n (fun m a0 r h hm => ih m hm a0 r h) a0 r hr

end Go.Proofs.Ytbcjcekoonebiaa.Tl
