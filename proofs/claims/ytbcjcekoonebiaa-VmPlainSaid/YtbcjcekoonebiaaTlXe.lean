/- Definitions and walks: values of the document compared. Conditions: none. -/
import Derived.Test.YtbcjcekoonebiaaTlXa
set_option linter.unusedVariables false
set_option linter.unusedSimpArgs false
namespace Go.Proofs.Ytbcjcekoonebiaa.Tl
open Go Go.RowKit



mutual
def s_f64 : Nat → Val → Val → Option Int
  | 0, _, _ => none
  | n + 1, a0, a1 => (bif (a0.kind != a1.kind) then ((s_f100 n (decide (a0.kind < a1.kind))).bind fun q2 => some q2) else (bif (a0.i != a1.i) then ((s_f100 n (decide (a0.i < a1.i))).bind fun q5 => some q5) else (bif (a0.b != a1.b) then ((s_f100 n a1.b).bind fun q8 => some q8) else (bif (a0.s.data.toList != a1.s.data.toList) then ((s_f100 n (Op.bytesLess a0.s.data.toList a1.s.data.toList)).bind fun q11 => some q11) else (s_f64_l1 n a0 a1 0)))))
def s_f64_l1 : Nat → Val → Val → Int → Option Int
  | 0, _, _, _ => none
  | n + 1, a0, a1, v1_1 => (bif ((decide (v1_1 < (a0.t.length : Int))) && (decide (v1_1 < (a1.t.length : Int)))) then (if 0 ≤ v1_1 then ((a0.t[v1_1.toNat]?).bind fun x28 => (if 0 ≤ v1_1 then ((a1.t[v1_1.toNat]?).bind fun x31 => ((s_f64 n x28 x31).bind fun q34 => (bif (q34 != 0) then some q34 else (s_f64_l1 n a0 a1 (IntKind.i64.wrap (v1_1 + 1)))))) else none)) else none) else (bif ((a0.t.length : Int) != (a1.t.length : Int)) then ((s_f100 n (decide ((a0.t.length : Int) < (a1.t.length : Int)))).bind fun q38 => some q38) else some 0))
end

theorem w_f64_a (n : Nat) (ih : ∀ (m : Nat) (a0 : Val) (a1 : Val) (r : Int), s_f64 m a0 a1 = some r → m < n → ACall Try.prog 64 [.agg (valC a0), .agg (valC a1)] (.int .i64 r)) (a0 : Val) (a1 : Val) (r : Int) (hr : s_f64 n a0 a1 = some r) : ACall Try.prog 64 [.agg (valC a0), .agg (valC a1)] (.int .i64 r) := by
  refine ACall.go [(0, .agg (valC a0)), (1, .agg (valC a1))] Try.func64 rfl Try.ntmps64 rfl rfl (by simp [pureA, pureL, pureR, inA, inL, inR, inO, idsIn, encs_pure, enxs_pure, enys_pure, valC_pure, exC_pure, tyC_pure]) ?_
  cases n with
  | zero => rw [s_f64] at hr; cases hr
  | succ n =>
    rw [s_f64] at hr
    refine AW.seq ?_
    refine AW.region (M := fun _ => true) ?_
    refine AL.bx good (d := 2) (l := [.int .i64 a0.kind, .int .i64 a0.i, .bool a0.b, .str a0.s, .sl .ro 5 (encs a0.t)]) rfl rfl rfl rfl rfl rfl 0 rfl ?_
    refine AL.bx good (d := 3) (l := [.int .i64 a1.kind, .int .i64 a1.i, .bool a1.b, .str a1.s, .sl .ro 5 (encs a1.t)]) rfl rfl rfl rfl rfl rfl 1 rfl ?_
    refine AL.v good (d := 4) (v := .int .i64 0) rfl rfl rfl rfl ?_
    refine AW.seq ?_
    refine AW.block ?_
    refine AW.seq ?_
    refine AW.region (M := fun _ => true) ?_
    refine AL.v good (d := 8) (v := .ptr 0 0) rfl rfl rfl rfl ?_
    refine AL.v good (d := 9) (v := .int .i64 a0.kind) rfl rfl rfl rfl ?_
    refine AL.v good (d := 10) (v := .ptr 1 0) rfl rfl rfl rfl ?_
    refine AL.v good (d := 11) (v := .int .i64 a1.kind) rfl rfl rfl rfl ?_
    refine AL.v good (d := 12) (v := .bool (a0.kind != a1.kind)) rfl rfl rfl rfl ?_
    refine AL.v good (d := 7) (v := .bool (a0.kind != a1.kind)) rfl rfl rfl rfl ?_
    refine AW.if rfl (fun h1 => ?_) (fun h1 => ?_)
    · replace hr := cnd_t h1 hr
      refine AW.seq ?_
      refine AW.region (M := fun _ => true) ?_
      refine AL.v good (d := 13) (v := .ptr 0 0) rfl rfl rfl rfl ?_
      refine AL.v good (d := 14) (v := .int .i64 a0.kind) rfl rfl rfl rfl ?_
      refine AL.v good (d := 15) (v := .ptr 1 0) rfl rfl rfl rfl ?_
      refine AL.v good (d := 16) (v := .int .i64 a1.kind) rfl rfl rfl rfl ?_
      refine AL.v good (d := 17) (v := .bool (decide (a0.kind < a1.kind))) rfl rfl rfl rfl ?_
      obtain ⟨q2, h3, hr⟩ := bnd1 hr
      refine AL.cw good (d := 18) (xs := [.bool (decide (a0.kind < a1.kind))]) (res := .int .i64 q2) rfl rfl rfl rfl rfl rfl rfl (w_f100 _ _ _ h3) ⟨(Wv.refl _), trivial⟩ (by simp [pureA, pureL, pureR, inA, inL, inR, inO, idsIn, encs_pure, enxs_pure, enys_pure, valC_pure, exC_pure, tyC_pure]) ?_
      refine AL.v good (d := 4) (v := .int .i64 q2) rfl rfl rfl rfl ?_
      refine AW.ret ?_
      obtain rfl := Option.some.inj hr
      exact RetQ.w good (.inr rfl) rfl rfl (Wv.refl _) (by simp [pureA, pureL, pureR, inA, inL, inR, inO, idsIn, encs_pure, enxs_pure, enys_pure, valC_pure, exC_pure, tyC_pure])
    · replace hr := cnd_f h1 hr
      refine AW.seq ?_
      refine AW.region (M := fun _ => true) ?_
      refine AL.v good (d := 20) (v := .ptr 0 1) rfl rfl rfl rfl ?_
      refine AL.v good (d := 21) (v := .int .i64 a0.i) rfl rfl rfl rfl ?_
      refine AL.v good (d := 22) (v := .ptr 1 1) rfl rfl rfl rfl ?_
      refine AL.v good (d := 23) (v := .int .i64 a1.i) rfl rfl rfl rfl ?_
      refine AL.v good (d := 24) (v := .bool (a0.i != a1.i)) rfl rfl rfl rfl ?_
      refine AL.v good (d := 19) (v := .bool (a0.i != a1.i)) rfl rfl rfl rfl ?_
      refine AW.if rfl (fun h4 => ?_) (fun h4 => ?_)
      · replace hr := cnd_t h4 hr
        refine AW.seq ?_
        refine AW.region (M := fun _ => true) ?_
        refine AL.v good (d := 25) (v := .ptr 0 1) rfl rfl rfl rfl ?_
        refine AL.v good (d := 26) (v := .int .i64 a0.i) rfl rfl rfl rfl ?_
        refine AL.v good (d := 27) (v := .ptr 1 1) rfl rfl rfl rfl ?_
        refine AL.v good (d := 28) (v := .int .i64 a1.i) rfl rfl rfl rfl ?_
        refine AL.v good (d := 29) (v := .bool (decide (a0.i < a1.i))) rfl rfl rfl rfl ?_
        obtain ⟨q5, h6, hr⟩ := bnd1 hr
        refine AL.cw good (d := 30) (xs := [.bool (decide (a0.i < a1.i))]) (res := .int .i64 q5) rfl rfl rfl rfl rfl rfl rfl (w_f100 _ _ _ h6) ⟨(Wv.refl _), trivial⟩ (by simp [pureA, pureL, pureR, inA, inL, inR, inO, idsIn, encs_pure, enxs_pure, enys_pure, valC_pure, exC_pure, tyC_pure]) ?_
        refine AL.v good (d := 4) (v := .int .i64 q5) rfl rfl rfl rfl ?_
        refine AW.ret ?_
        obtain rfl := Option.some.inj hr
        exact RetQ.w good (.inr rfl) rfl rfl (Wv.refl _) (by simp [pureA, pureL, pureR, inA, inL, inR, inO, idsIn, encs_pure, enxs_pure, enys_pure, valC_pure, exC_pure, tyC_pure])
      · replace hr := cnd_f h4 hr
        refine AW.seq ?_
        refine AW.region (M := fun _ => true) ?_
        refine AL.v good (d := 32) (v := .ptr 0 2) rfl rfl rfl rfl ?_
        refine AL.v good (d := 33) (v := .bool a0.b) rfl rfl rfl rfl ?_
        refine AL.v good (d := 34) (v := .ptr 1 2) rfl rfl rfl rfl ?_
        refine AL.v good (d := 35) (v := .bool a1.b) rfl rfl rfl rfl ?_
        refine AL.v good (d := 36) (v := .bool (a0.b != a1.b)) rfl rfl rfl rfl ?_
        refine AL.v good (d := 31) (v := .bool (a0.b != a1.b)) rfl rfl rfl rfl ?_
        refine AW.if rfl (fun h7 => ?_) (fun h7 => ?_)
        · replace hr := cnd_t h7 hr
          refine AW.seq ?_
          refine AW.region (M := fun _ => true) ?_
          refine AL.v good (d := 37) (v := .ptr 1 2) rfl rfl rfl rfl ?_
          refine AL.v good (d := 38) (v := .bool a1.b) rfl rfl rfl rfl ?_
          obtain ⟨q8, h9, hr⟩ := bnd1 hr
          refine AL.cw good (d := 39) (xs := [.bool a1.b]) (res := .int .i64 q8) rfl rfl rfl rfl rfl rfl rfl (w_f100 _ _ _ h9) ⟨(Wv.refl _), trivial⟩ (by simp [pureA, pureL, pureR, inA, inL, inR, inO, idsIn, encs_pure, enxs_pure, enys_pure, valC_pure, exC_pure, tyC_pure]) ?_
          refine AL.v good (d := 4) (v := .int .i64 q8) rfl rfl rfl rfl ?_
          refine AW.ret ?_
          obtain rfl := Option.some.inj hr
          exact RetQ.w good (.inr rfl) rfl rfl (Wv.refl _) (by simp [pureA, pureL, pureR, inA, inL, inR, inO, idsIn, encs_pure, enxs_pure, enys_pure, valC_pure, exC_pure, tyC_pure])
        · replace hr := cnd_f h7 hr
          refine AW.seq ?_
          refine AW.region (M := fun _ => true) ?_
          refine AL.v good (d := 41) (v := .ptr 0 3) rfl rfl rfl rfl ?_
          refine AL.v good (d := 42) (v := .str a0.s) rfl rfl rfl rfl ?_
          refine AL.v good (d := 43) (v := .ptr 1 3) rfl rfl rfl rfl ?_
          refine AL.v good (d := 44) (v := .str a1.s) rfl rfl rfl rfl ?_
          refine AL.sb good (d := 45) (b := (a0.s.data.toList != a1.s.data.toList)) rfl rfl rfl rfl rfl rfl rfl ?_
          refine AL.v good (d := 40) (v := .bool (a0.s.data.toList != a1.s.data.toList)) rfl rfl rfl rfl ?_
          refine AW.if rfl (fun h10 => ?_) (fun h10 => ?_)
          · replace hr := cnd_t h10 hr
            refine AW.seq ?_
            refine AW.region (M := fun _ => true) ?_
            refine AL.v good (d := 46) (v := .ptr 0 3) rfl rfl rfl rfl ?_
            refine AL.v good (d := 47) (v := .str a0.s) rfl rfl rfl rfl ?_
            refine AL.v good (d := 48) (v := .ptr 1 3) rfl rfl rfl rfl ?_
            refine AL.v good (d := 49) (v := .str a1.s) rfl rfl rfl rfl ?_
            refine AL.sb good (d := 50) (b := (Op.bytesLess a0.s.data.toList a1.s.data.toList)) rfl rfl rfl rfl rfl rfl rfl ?_
            obtain ⟨q11, h12, hr⟩ := bnd1 hr
            refine AL.cw good (d := 51) (xs := [.bool (Op.bytesLess a0.s.data.toList a1.s.data.toList)]) (res := .int .i64 q11) rfl rfl rfl rfl rfl rfl rfl (w_f100 _ _ _ h12) ⟨(Wv.refl _), trivial⟩ (by simp [pureA, pureL, pureR, inA, inL, inR, inO, idsIn, encs_pure, enxs_pure, enys_pure, valC_pure, exC_pure, tyC_pure]) ?_
            refine AL.v good (d := 4) (v := .int .i64 q11) rfl rfl rfl rfl ?_
            refine AW.ret ?_
            obtain rfl := Option.some.inj hr
            exact RetQ.w good (.inr rfl) rfl rfl (Wv.refl _) (by simp [pureA, pureL, pureR, inA, inL, inR, inO, idsIn, encs_pure, enxs_pure, enys_pure, valC_pure, exC_pure, tyC_pure])
          · replace hr := cnd_f h10 hr
            refine AW.skip ?_
            refine AW.seq ?_
            refine AW.seq ?_
            refine AW.region (M := fun _ => true) ?_
            refine AL.v good (d := 5) (v := .int .i64 0) rfl rfl rfl rfl ?_
            refine AW.block ?_
            refine AW.lpw (fun x : Nat × Int => [(2, .ptr 0 0), (3, .ptr 1 0), (5, .int .i64 x.2)]) (fun x => [(0, .box 33 [.int .i64 a0.kind, .int .i64 a0.i, .bool a0.b, .str a0.s, .sl .ro 5 (encs a0.t)]), (1, .box 33 [.int .i64 a1.kind, .int .i64 a1.i, .bool a1.b, .str a1.s, .sl .ro 5 (encs a1.t)])]) (fun x => s_f64_l1 x.1 a0 a1 x.2 = some r ∧ x.1 ≤ n) (fun x => x.1) (n, 0) ⟨(fun _ h => by cases h), List.forall_mem_cons.2 ⟨⟨⟨_, rfl, Wv.refl _⟩, (by simp [pureA, pureL, pureR, inA, inL, inR, inO, idsIn, encs_pure, enxs_pure, enys_pure, valC_pure, exC_pure, tyC_pure])⟩, List.forall_mem_cons.2 ⟨⟨⟨_, rfl, Wv.refl _⟩, (by simp [pureA, pureL, pureR, inA, inL, inR, inO, idsIn, encs_pure, enxs_pure, enys_pure, valC_pure, exC_pure, tyC_pure])⟩, List.forall_mem_cons.2 ⟨⟨⟨_, rfl, Wv.refl _⟩, (by simp [pureA, pureL, pureR, inA, inL, inR, inO, idsIn, encs_pure, enxs_pure, enys_pure, valC_pure, exC_pure, tyC_pure])⟩, (fun _ h => by cases h)⟩⟩⟩, List.forall_mem_cons.2 ⟨⟨⟨_, rfl, ⟨rfl, ⟨Wv.refl _, Wv.refl _, Wv.refl _, Wv.refl _, Wv.refl _, trivial⟩⟩⟩, (by simp [pureA, pureL, pureR, inA, inL, inR, inO, idsIn, encs_pure, enxs_pure, enys_pure, valC_pure, exC_pure, tyC_pure])⟩, List.forall_mem_cons.2 ⟨⟨⟨_, rfl, ⟨rfl, ⟨Wv.refl _, Wv.refl _, Wv.refl _, Wv.refl _, Wv.refl _, trivial⟩⟩⟩, (by simp [pureA, pureL, pureR, inA, inL, inR, inO, idsIn, encs_pure, enxs_pure, enys_pure, valC_pure, exC_pure, tyC_pure])⟩, (fun _ h => by cases h)⟩⟩⟩ ⟨hr, Nat.le_refl _⟩ (fun ⟨m, v1_1⟩ hx => ?_)
            obtain ⟨hr, hm⟩ := hx
            try dsimp only at hr hm
            cases m with
            | zero => rw [s_f64_l1] at hr; cases hr
            | succ m =>
              rw [s_f64_l1] at hr
              show AW Try.prog _ _ _ (mkS 95 [(2, .ptr 0 0), (3, .ptr 1 0), (5, .int .i64 v1_1)] [(0, .box 33 [.int .i64 a0.kind, .int .i64 a0.i, .bool a0.b, .str a0.s, .sl .ro 5 (encs a0.t)]), (1, .box 33 [.int .i64 a1.kind, .int .i64 a1.i, .bool a1.b, .str a1.s, .sl .ro 5 (encs a1.t)])])
              refine AW.seq ?_
              refine AW.seq ?_
              refine AW.region (M := fun _ => true) ?_
              refine AL.v good (d := 52) (v := .int .i64 v1_1) rfl rfl rfl rfl ?_
              refine AL.v good (d := 53) (v := .ptr 0 4) rfl rfl rfl rfl ?_
              refine AL.v good (d := 54) (v := .sl .ro 5 (encs a0.t)) rfl rfl rfl rfl ?_
              refine AL.ln good (d := 55) (m := a0.t.length) rfl rfl rfl rfl rfl rfl (encs_length _) ?_
              refine AL.v good (d := 56) (v := .bool (decide (v1_1 < (a0.t.length : Int)))) rfl rfl rfl rfl ?_
              refine AL.vb good (d := 57) (b := (decide (v1_1 < (a0.t.length : Int)))) rfl rfl rfl rfl (fun g25 h26 => ?_)
              refine AL.gv good (d := 58) (c := g25) (v := .int .i64 v1_1) (rd := []) rfl rfl (by cases g25 <;> rfl) (fun h => by cases g25 <;> first | rfl | exact absurd h (by decide)) ?_
              refine AL.gv good (d := 59) (c := g25) (v := .ptr 1 4) (rd := []) rfl rfl (by cases g25 <;> rfl) (fun h => by cases g25 <;> first | rfl | exact absurd h (by decide)) ?_
              refine AL.gv good (d := 60) (c := g25) (v := .sl .ro 5 (encs a1.t)) (rd := [(1, .box 33 [.int .i64 a1.kind, .int .i64 a1.i, .bool a1.b, .str a1.s, .sl .ro 5 (encs a1.t)])]) rfl rfl (by cases g25 <;> rfl) (fun h => by cases g25 <;> first | rfl | exact absurd h (by decide)) ?_
              refine AL.gln good (d := 61) (c := g25) (m := a1.t.length) rfl rfl (by cases g25 <;> rfl) rfl rfl (fun h => by cases g25 <;> first | rfl | exact absurd h (by decide)) (encs_length _) ?_
              refine AL.gv good (d := 62) (c := g25) (v := .bool (decide (v1_1 < (a1.t.length : Int)))) (rd := []) rfl rfl (by cases g25 <;> rfl) (fun h => by cases g25 <;> first | rfl | exact absurd h (by decide)) ?_
              refine AL.v good (d := 63) (v := .bool (g25 && (decide (v1_1 < (a1.t.length : Int))))) (rd := []) rfl rfl rfl (by cases g25 <;> rfl) ?_
              subst h26
              refine AW.if rfl (fun h27 => ?_) (fun h27 => ?_)
              · replace hr := cnd_t h27 hr
                refine AW.skip ?_
                refine AW.seq ?_
                refine AW.block ?_
                refine AW.seq ?_
                refine AW.draw (M := fun i => false) good.wide (by kernel_rfl) ?_
                refine AL.v good (d := 66) (v := .ptr 0 4) rfl rfl rfl rfl ?_
                refine AL.v good (d := 67) (v := .sl .ro 5 (encs a0.t)) rfl rfl rfl rfl ?_
                refine AL.v good (d := 68) (v := .int .i64 v1_1) rfl rfl rfl rfl ?_
                obtain ⟨h30, hr⟩ := grd hr
                obtain ⟨x28, h29, hr⟩ := bnd1 hr
                refine AL.ix good (d := 69) (r := [.int .i64 x28.kind, .int .i64 x28.i, .bool x28.b, .str x28.s, .sl .ro 5 (encs x28.t)]) rfl rfl rfl rfl rfl rfl rfl h30 (encs_get h29) ?_
                refine AL.v good (d := 70) (v := .agg [.int .i64 x28.kind, .int .i64 x28.i, .bool x28.b, .str x28.s, .sl .ro 5 (encs x28.t)]) rfl rfl rfl rfl ?_
                refine AL.v good (d := 71) (v := .ptr 1 4) rfl rfl rfl rfl ?_
                refine AL.v good (d := 72) (v := .sl .ro 5 (encs a1.t)) rfl rfl rfl rfl ?_
                refine AL.v good (d := 73) (v := .int .i64 v1_1) rfl rfl rfl rfl ?_
                obtain ⟨h33, hr⟩ := grd hr
                obtain ⟨x31, h32, hr⟩ := bnd1 hr
                refine AL.ix good (d := 74) (r := [.int .i64 x31.kind, .int .i64 x31.i, .bool x31.b, .str x31.s, .sl .ro 5 (encs x31.t)]) rfl rfl rfl rfl rfl rfl rfl h33 (encs_get h32) ?_
                refine AL.v good (d := 75) (v := .agg [.int .i64 x31.kind, .int .i64 x31.i, .bool x31.b, .str x31.s, .sl .ro 5 (encs x31.t)]) rfl rfl rfl rfl ?_
                obtain ⟨q34, h35, hr⟩ := bnd1 hr
                refine AL.cw good (d := 76) (xs := [.agg (valC x28), .agg (valC x31)]) (res := .int .i64 q34) rfl rfl rfl rfl rfl rfl rfl (ih _ _ _ _ h35 (by omega)) ⟨(Wv.refl _), (Wv.refl _), trivial⟩ (by simp [pureA, pureL, pureR, inA, inL, inR, inO, idsIn, encs_pure, enxs_pure, enys_pure, valC_pure, exC_pure, tyC_pure]) ?_
                refine AL.v good (d := 6) (v := .int .i64 q34) rfl rfl rfl rfl ?_
                refine AW.seq ?_
                refine AW.region (M := fun _ => true) ?_
                refine AL.v good (d := 77) (v := .int .i64 q34) rfl rfl rfl rfl ?_
                refine AL.v good (d := 78) (v := .bool (q34 != 0)) rfl rfl rfl rfl ?_
                refine AW.if rfl (fun h36 => ?_) (fun h36 => ?_)
                · replace hr := cnd_t h36 hr
                  refine AW.seq ?_
                  refine AW.region (M := fun _ => true) ?_
                  refine AL.v good (d := 79) (v := .int .i64 q34) rfl rfl rfl rfl ?_
                  refine AL.v good (d := 4) (v := .int .i64 q34) rfl rfl rfl rfl ?_
                  refine AW.ret ?_
                  obtain rfl := Option.some.inj hr
                  exact RetQ.w good (.inr rfl) rfl rfl (Wv.refl _) (by simp [pureA, pureL, pureR, inA, inL, inR, inO, idsIn, encs_pure, enxs_pure, enys_pure, valC_pure, exC_pure, tyC_pure])
                · replace hr := cnd_f h36 hr
                  refine AW.skip ?_
                  refine AW.region (M := fun _ => true) ?_
                  refine AL.v good (d := 64) (v := .int .i64 v1_1) rfl rfl rfl rfl ?_
                  refine AL.v good (d := 65) (v := .int .i64 (IntKind.i64.wrap (v1_1 + 1))) rfl rfl rfl rfl ?_
                  refine AL.v good (d := 5) (v := .int .i64 (IntKind.i64.wrap (v1_1 + 1))) rfl rfl rfl rfl ?_
                  exact ⟨(m, (IntKind.i64.wrap (v1_1 + 1))), _, _, rfl, ⟨(fun _ h => by cases h), List.forall_mem_cons.2 ⟨⟨⟨_, rfl, Wv.refl _⟩, (by simp [pureA, pureL, pureR, inA, inL, inR, inO, idsIn, encs_pure, enxs_pure, enys_pure, valC_pure, exC_pure, tyC_pure])⟩, List.forall_mem_cons.2 ⟨⟨⟨_, rfl, Wv.refl _⟩, (by simp [pureA, pureL, pureR, inA, inL, inR, inO, idsIn, encs_pure, enxs_pure, enys_pure, valC_pure, exC_pure, tyC_pure])⟩, List.forall_mem_cons.2 ⟨⟨⟨_, rfl, Wv.refl _⟩, (by simp [pureA, pureL, pureR, inA, inL, inR, inO, idsIn, encs_pure, enxs_pure, enys_pure, valC_pure, exC_pure, tyC_pure])⟩, (fun _ h => by cases h)⟩⟩⟩, List.forall_mem_cons.2 ⟨⟨⟨_, rfl, ⟨rfl, ⟨Wv.refl _, Wv.refl _, Wv.refl _, Wv.refl _, Wv.refl _, trivial⟩⟩⟩, (by simp [pureA, pureL, pureR, inA, inL, inR, inO, idsIn, encs_pure, enxs_pure, enys_pure, valC_pure, exC_pure, tyC_pure])⟩, List.forall_mem_cons.2 ⟨⟨⟨_, rfl, ⟨rfl, ⟨Wv.refl _, Wv.refl _, Wv.refl _, Wv.refl _, Wv.refl _, trivial⟩⟩⟩, (by simp [pureA, pureL, pureR, inA, inL, inR, inO, idsIn, encs_pure, enxs_pure, enys_pure, valC_pure, exC_pure, tyC_pure])⟩, (fun _ h => by cases h)⟩⟩⟩, ⟨hr, Nat.le_of_succ_le hm⟩, Nat.lt_succ_self _⟩
              · replace hr := cnd_f h27 hr
                refine AW.exit ?_
                refine AW.seq ?_
                refine AW.seq ?_
                refine AW.region (M := fun _ => true) ?_
                refine AL.v good (d := 80) (v := .ptr 0 4) rfl rfl rfl rfl ?_
                refine AL.v good (d := 81) (v := .sl .ro 5 (encs a0.t)) rfl rfl rfl rfl ?_
                refine AL.ln good (d := 82) (m := a0.t.length) rfl rfl rfl rfl rfl rfl (encs_length _) ?_
                refine AL.v good (d := 83) (v := .ptr 1 4) rfl rfl rfl rfl ?_
                refine AL.v good (d := 84) (v := .sl .ro 5 (encs a1.t)) rfl rfl rfl rfl ?_
                refine AL.ln good (d := 85) (m := a1.t.length) rfl rfl rfl rfl rfl rfl (encs_length _) ?_
                refine AL.v good (d := 86) (v := .bool ((a0.t.length : Int) != (a1.t.length : Int))) rfl rfl rfl rfl ?_
                refine AW.if rfl (fun h37 => ?_) (fun h37 => ?_)
                · replace hr := cnd_t h37 hr
                  refine AW.seq ?_
                  refine AW.region (M := fun _ => true) ?_
                  refine AL.v good (d := 87) (v := .ptr 0 4) rfl rfl rfl rfl ?_
                  refine AL.v good (d := 88) (v := .sl .ro 5 (encs a0.t)) rfl rfl rfl rfl ?_
                  refine AL.ln good (d := 89) (m := a0.t.length) rfl rfl rfl rfl rfl rfl (encs_length _) ?_
                  refine AL.v good (d := 90) (v := .ptr 1 4) rfl rfl rfl rfl ?_
                  refine AL.v good (d := 91) (v := .sl .ro 5 (encs a1.t)) rfl rfl rfl rfl ?_
                  refine AL.ln good (d := 92) (m := a1.t.length) rfl rfl rfl rfl rfl rfl (encs_length _) ?_
                  refine AL.v good (d := 93) (v := .bool (decide ((a0.t.length : Int) < (a1.t.length : Int)))) rfl rfl rfl rfl ?_
                  obtain ⟨q38, h39, hr⟩ := bnd1 hr
                  refine AL.cw good (d := 94) (xs := [.bool (decide ((a0.t.length : Int) < (a1.t.length : Int)))]) (res := .int .i64 q38) rfl rfl rfl rfl rfl rfl rfl (w_f100 _ _ _ h39) ⟨(Wv.refl _), trivial⟩ (by simp [pureA, pureL, pureR, inA, inL, inR, inO, idsIn, encs_pure, enxs_pure, enys_pure, valC_pure, exC_pure, tyC_pure]) ?_
                  refine AL.v good (d := 4) (v := .int .i64 q38) rfl rfl rfl rfl ?_
                  refine AW.ret ?_
                  obtain rfl := Option.some.inj hr
                  exact RetQ.w good (.inr rfl) rfl rfl (Wv.refl _) (by simp [pureA, pureL, pureR, inA, inL, inR, inO, idsIn, encs_pure, enxs_pure, enys_pure, valC_pure, exC_pure, tyC_pure])
                · replace hr := cnd_f h37 hr
                  refine AW.skip ?_
                  refine AW.seq ?_
                  refine AW.region (M := fun _ => true) ?_
                  refine AL.v good (d := 4) (v := .int .i64 0) rfl rfl rfl rfl ?_
                  refine AW.ret ?_
                  obtain rfl := Option.some.inj hr
                  exact RetQ.w good (.inr rfl) rfl rfl (Wv.refl _) (by simp [pureA, pureL, pureR, inA, inL, inR, inO, idsIn, encs_pure, enxs_pure, enys_pure, valC_pure, exC_pure, tyC_pure])
theorem w_f64 (n : Nat) : ∀ (a0 : Val) (a1 : Val) (r : Int) (hr : s_f64 n a0 a1 = some r), ACall Try.prog 64 [.agg (valC a0), .agg (valC a1)] (.int .i64 r) := by
  induction n using Nat.strongRecOn with
  | _ n ih =>
    intro a0 a1 r hr
    exact w_f64_a n (fun m a0 a1 r h hm => ih m hm a0 a1 r h) a0 a1 r hr

def s_f25 (n : Nat) (a0 : Val) (a1 : Val) : Option Bool :=
  ((s_f64 n a0 a1).bind fun q1 => some (q1 == 0))

theorem w_f25 (n : Nat) (a0 : Val) (a1 : Val) (r : Bool) (hr : s_f25 n a0 a1 = some r) : ACall Try.prog 25 [.agg (valC a0), .agg (valC a1)] (.bool r) := by
  refine ACall.go [(0, .agg (valC a0)), (1, .agg (valC a1))] Try.func25 rfl Try.ntmps25 rfl rfl (by simp [pureA, pureL, pureR, inA, inL, inR, inO, idsIn, encs_pure, enxs_pure, enys_pure, valC_pure, exC_pure, tyC_pure]) ?_
  rw [s_f25] at hr
  refine AW.seq ?_
  refine AW.region (M := fun _ => true) ?_
  refine AL.bx good (d := 2) (l := [.int .i64 a0.kind, .int .i64 a0.i, .bool a0.b, .str a0.s, .sl .ro 5 (encs a0.t)]) rfl rfl rfl rfl rfl rfl 0 rfl ?_
  refine AL.bx good (d := 3) (l := [.int .i64 a1.kind, .int .i64 a1.i, .bool a1.b, .str a1.s, .sl .ro 5 (encs a1.t)]) rfl rfl rfl rfl rfl rfl 1 rfl ?_
  refine AL.v good (d := 4) (v := .bool false) rfl rfl rfl rfl ?_
  refine AW.seq ?_
  refine AW.region (M := fun _ => true) ?_
  refine AL.v good (d := 5) (v := .agg [.int .i64 a0.kind, .int .i64 a0.i, .bool a0.b, .str a0.s, .sl .ro 5 (encs a0.t)]) rfl rfl rfl rfl ?_
  refine AL.v good (d := 6) (v := .agg [.int .i64 a1.kind, .int .i64 a1.i, .bool a1.b, .str a1.s, .sl .ro 5 (encs a1.t)]) rfl rfl rfl rfl ?_
  obtain ⟨q1, h2, hr⟩ := bnd1 hr
  refine AL.cw good (d := 7) (xs := [.agg (valC a0), .agg (valC a1)]) (res := .int .i64 q1) rfl rfl rfl rfl rfl rfl rfl (w_f64 _ _ _ _ h2) ⟨(Wv.refl _), (Wv.refl _), trivial⟩ (by simp [pureA, pureL, pureR, inA, inL, inR, inO, idsIn, encs_pure, enxs_pure, enys_pure, valC_pure, exC_pure, tyC_pure]) ?_
  refine AL.v good (d := 8) (v := .bool (q1 == 0)) rfl rfl rfl rfl ?_
  refine AL.v good (d := 4) (v := .bool (q1 == 0)) rfl rfl rfl rfl ?_
  refine AW.ret ?_
  obtain rfl := Option.some.inj hr
  exact RetQ.w good (.inr rfl) rfl rfl (Wv.refl _) (by simp [pureA, pureL, pureR, inA, inL, inR, inO, idsIn, encs_pure, enxs_pure, enys_pure, valC_pure, exC_pure, tyC_pure])

end Go.Proofs.Ytbcjcekoonebiaa.Tl
