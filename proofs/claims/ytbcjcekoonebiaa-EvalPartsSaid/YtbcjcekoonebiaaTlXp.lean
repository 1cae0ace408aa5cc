/- Definitions and walks: EvalParts. Conditions: none. -/
import Derived.Test.YtbcjcekoonebiaaTlXa
import Derived.Test.YtbcjcekoonebiaaTlXt
set_option linter.unusedVariables false
set_option linter.unusedSimpArgs false
namespace Go.Proofs.Ytbcjcekoonebiaa.Tl
open Go Go.RowKit



mutual
def s_f7_l2 : Nat → (List Val) → Val → Nat → (List Ex) → Option Bool
  | 0, _, _, _, _ => none
  | n + 1, a0, q19, v2_1, v2_2 => (bif (decide ((v2_1 : Int) < (a0.length : Int))) then ((evalS (Ex.mk ⟨#[97, 116]⟩ (Val.mk 0 0 false ⟨#[]⟩ []) (v2_1 : Int) [(Ex.mk ⟨#[120]⟩ (Val.mk 0 0 false ⟨#[]⟩ []) 0 [])]) q19).bind fun q37 => (bif (q37.2 != 0) then some false else ((a0[v2_1]?).bind fun x40 => (bif (!(cmpV q37.1 x40 == 0)) then some false else (if v2_2.length + 1 ≤ 1000000 then (s_f7_l2 n a0 q19 (v2_1 + 1) (v2_2 ++ [(Ex.mk ⟨#[97, 116]⟩ (Val.mk 0 0 false ⟨#[]⟩ []) (v2_1 : Int) [(Ex.mk ⟨#[120]⟩ (Val.mk 0 0 false ⟨#[]⟩ []) 0 [])])])) else none))))) else ((evalS (Ex.mk ⟨#[116, 117, 112]⟩ (Val.mk 0 0 false ⟨#[]⟩ []) 0 v2_2) q19).bind fun q44 => ((evalS (Ex.mk ⟨#[101, 113]⟩ (Val.mk 0 0 false ⟨#[]⟩ []) 0 [(Ex.mk ⟨#[116, 117, 112]⟩ (Val.mk 0 0 false ⟨#[]⟩ []) 0 v2_2), (Ex.mk ⟨#[120]⟩ (Val.mk 0 0 false ⟨#[]⟩ []) 0 [])]) q19).bind fun q46 => some ((((IntKind.i64.wrap (q44.2 + q46.2)) == 0) && (cmpV q44.1 q19 == 0)) && q46.1.b))))
def s_f7_l1 : Nat → (List Val) → Nat → Option Bool
  | 0, _, _ => none
  | n + 1, a0, v1_1 => (bif (decide ((v1_1 : Int) < (a0.length : Int))) then ((a0[v1_1]?).bind fun x14 => ((s_f18 n x14).bind fun q16 => (bif (!q16) then some true else (s_f7_l1 n a0 (v1_1 + 1))))) else ((tupS a0).bind fun q19 => ((s_f22 n q19).bind fun q21 => ((s_f34 n q21).bind fun q23 => (bif (q23 != 0) then some true else (s_f7_l2 n a0 q19 0 []))))))
end
def s_f7 (n : Nat) (a0 : List Val) : Option Bool :=
  (bif (!true) then some false else (bif ((decide ((a0.length : Int) < 1)) || (decide ((a0.length : Int) > 8))) then some true else (s_f7_l1 n a0 0)))

theorem w_f7 (n : Nat) (a0 : List Val) (r : Bool) (hr : s_f7 n a0 = some r) : ACall Try.prog 7 [.sl .ro 5 (encs a0)] (.bool r) := by
  refine ACall.go [(0, .sl .ro 5 (encs a0))] Try.func7 rfl Try.ntmps7 rfl rfl (by simp [pureA, pureL, pureR, inA, inL, inR, inO, idsIn, encs_pure, enxs_pure, enys_pure, valC_pure, exC_pure, tyC_pure]) ?_
  rw [s_f7] at hr
  refine AW.seq ?_
  refine AW.region (M := fun _ => true) ?_
  refine AL.v good (d := 2) (v := .bool false) rfl rfl rfl rfl ?_
  refine AW.seq ?_
  refine AW.seq ?_
  refine AW.region (M := fun _ => true) ?_
  refine AL.cw good (d := 14) (xs := []) (res := .bool true) rfl rfl rfl rfl rfl rfl rfl (w16) trivial (by simp [pureA, pureL, pureR, inA, inL, inR, inO, idsIn, encs_pure, enxs_pure, enys_pure, valC_pure, exC_pure, tyC_pure]) ?_
  refine AL.v good (d := 15) (v := .bool (!true)) rfl rfl rfl rfl ?_
  refine AW.if rfl (fun h1 => ?_) (fun h1 => ?_)
  · replace hr := cnd_t h1 hr
    refine AW.seq ?_
    refine AW.region (M := fun _ => true) ?_
    refine AL.v good (d := 2) (v := .bool false) rfl rfl rfl rfl ?_
    refine AW.ret ?_
    obtain rfl := Option.some.inj hr
    exact RetQ.w good (.inr rfl) rfl rfl (Wv.refl _) (by simp [pureA, pureL, pureR, inA, inL, inR, inO, idsIn, encs_pure, enxs_pure, enys_pure, valC_pure, exC_pure, tyC_pure])
  · replace hr := cnd_f h1 hr
    refine AW.skip ?_
    refine AW.seq ?_
    refine AW.seq ?_
    refine AW.region (M := fun _ => true) ?_
    refine AL.v good (d := 16) (v := .sl .ro 5 (encs a0)) rfl rfl rfl rfl ?_
    refine AL.ln good (d := 17) (m := a0.length) rfl rfl rfl rfl rfl rfl (encs_length _) ?_
    refine AL.v good (d := 18) (v := .bool (decide ((a0.length : Int) < 1))) rfl rfl rfl rfl ?_
    refine AL.vb good (d := 19) (b := (decide ((a0.length : Int) < 1))) rfl rfl rfl rfl (fun g2 h3 => ?_)
    refine AL.gv good (d := 20) (c := (!g2)) (v := .sl .ro 5 (encs a0)) (rd := []) rfl rfl (by cases g2 <;> rfl) (fun h => by cases g2 <;> first | rfl | exact absurd h (by decide)) ?_
    refine AL.gln good (d := 21) (c := (!g2)) (m := a0.length) rfl rfl (by cases g2 <;> rfl) rfl rfl (fun h => by cases g2 <;> first | rfl | exact absurd h (by decide)) (encs_length _) ?_
    refine AL.gv good (d := 22) (c := (!g2)) (v := .bool (decide ((a0.length : Int) > 8))) (rd := []) rfl rfl (by cases g2 <;> rfl) (fun h => by cases g2 <;> first | rfl | exact absurd h (by decide)) ?_
    refine AL.v good (d := 23) (v := .bool (g2 || (decide ((a0.length : Int) > 8)))) (rd := []) rfl rfl rfl (by cases g2 <;> rfl) ?_
    subst h3
    refine AW.if rfl (fun h4 => ?_) (fun h4 => ?_)
    · replace hr := cnd_t h4 hr
      refine AW.seq ?_
      refine AW.region (M := fun _ => true) ?_
      refine AL.v good (d := 2) (v := .bool true) rfl rfl rfl rfl ?_
      refine AW.ret ?_
      obtain rfl := Option.some.inj hr
      exact RetQ.w good (.inr rfl) rfl rfl (Wv.refl _) (by simp [pureA, pureL, pureR, inA, inL, inR, inO, idsIn, encs_pure, enxs_pure, enys_pure, valC_pure, exC_pure, tyC_pure])
    · replace hr := cnd_f h4 hr
      refine AW.skip ?_
      refine AW.seq ?_
      refine AW.seq ?_
      refine AW.region (M := fun _ => true) ?_
      refine AL.v good (d := 3) (v := .int .i64 0) rfl rfl rfl rfl ?_
      refine AW.block ?_
      refine AW.lens 0 rfl (fun hl12 => ?_)
      replace hl12 : a0.length ≤ 9223372036854775807 := by rw [← encs_length a0]; exact hl12
      refine AW.lpw (fun x : Nat × Nat => [(0, .sl .ro 5 (encs a0)), (3, .int .i64 (x.2 : Int))]) (fun x => []) (fun x => s_f7_l1 x.1 a0 x.2 = some r ∧ x.1 ≤ n) (fun x => x.1) (n, 0) ⟨(fun _ h => by cases h), List.forall_mem_cons.2 ⟨⟨⟨_, rfl, Wv.refl _⟩, (by simp [pureA, pureL, pureR, inA, inL, inR, inO, idsIn, encs_pure, enxs_pure, enys_pure, valC_pure, exC_pure, tyC_pure])⟩, List.forall_mem_cons.2 ⟨⟨⟨_, rfl, Wv.refl _⟩, (by simp [pureA, pureL, pureR, inA, inL, inR, inO, idsIn, encs_pure, enxs_pure, enys_pure, valC_pure, exC_pure, tyC_pure])⟩, (fun _ h => by cases h)⟩⟩, (fun _ h => by cases h)⟩ ⟨hr, Nat.le_refl _⟩ (fun ⟨m, v1_1⟩ hx => ?_)
      obtain ⟨hr, hm⟩ := hx
      dsimp only at hr hm
      cases m with
      | zero => rw [s_f7_l1] at hr; cases hr
      | succ m =>
        rw [s_f7_l1] at hr
        show AW Try.prog _ _ _ (mkS 104 [(0, .sl .ro 5 (encs a0)), (3, .int .i64 (v1_1 : Int))] [])
        refine AW.seq ?_
        refine AW.seq ?_
        refine AW.region (M := fun _ => true) ?_
        refine AL.v good (d := 24) (v := .int .i64 (v1_1 : Int)) rfl rfl rfl rfl ?_
        refine AL.v good (d := 25) (v := .sl .ro 5 (encs a0)) rfl rfl rfl rfl ?_
        refine AL.ln good (d := 26) (m := a0.length) rfl rfl rfl rfl rfl rfl (encs_length _) ?_
        refine AL.v good (d := 27) (v := .bool (decide ((v1_1 : Int) < (a0.length : Int)))) rfl rfl rfl rfl ?_
        refine AW.if rfl (fun h13 => ?_) (fun h13 => ?_)
        · replace hr := cnd_t h13 hr
          refine AW.skip ?_
          refine AW.seq ?_
          refine AW.block ?_
          refine AW.seq ?_
          refine AW.region (M := fun _ => true) ?_
          refine AL.v good (d := 30) (v := .sl .ro 5 (encs a0)) rfl rfl rfl rfl ?_
          refine AL.v good (d := 31) (v := .int .i64 (v1_1 : Int)) rfl rfl rfl rfl ?_
          obtain ⟨x14, h15, hr⟩ := bnd1 hr
          refine AL.ix good (d := 32) (r := [.int .i64 x14.kind, .int .i64 x14.i, .bool x14.b, .str x14.s, .sl .ro 5 (encs x14.t)]) rfl rfl rfl rfl rfl rfl rfl (Int.natCast_nonneg _) (encs_get h15) ?_
          refine AL.v good (d := 33) (v := .agg [.int .i64 x14.kind, .int .i64 x14.i, .bool x14.b, .str x14.s, .sl .ro 5 (encs x14.t)]) rfl rfl rfl rfl ?_
          obtain ⟨q16, h17, hr⟩ := bnd1 hr
          refine AL.cw good (d := 34) (xs := [.agg (valC x14)]) (res := .bool q16) rfl rfl rfl rfl rfl rfl rfl (w_f18 _ _ _ h17) ⟨(Wv.refl _), trivial⟩ (by simp [pureA, pureL, pureR, inA, inL, inR, inO, idsIn, encs_pure, enxs_pure, enys_pure, valC_pure, exC_pure, tyC_pure]) ?_
          refine AL.v good (d := 35) (v := .bool (!q16)) rfl rfl rfl rfl ?_
          refine AW.if rfl (fun h18 => ?_) (fun h18 => ?_)
          · replace hr := cnd_t h18 hr
            refine AW.seq ?_
            refine AW.region (M := fun _ => true) ?_
            refine AL.v good (d := 2) (v := .bool true) rfl rfl rfl rfl ?_
            refine AW.ret ?_
            obtain rfl := Option.some.inj hr
            exact RetQ.w good (.inr rfl) rfl rfl (Wv.refl _) (by simp [pureA, pureL, pureR, inA, inL, inR, inO, idsIn, encs_pure, enxs_pure, enys_pure, valC_pure, exC_pure, tyC_pure])
          · replace hr := cnd_f h18 hr
            refine AW.skip ?_
            refine AW.region (M := fun _ => true) ?_
            refine AL.v good (d := 28) (v := .int .i64 (v1_1 : Int)) rfl rfl rfl rfl ?_
            refine AL.v good (d := 29) (v := .int .i64 (IntKind.i64.wrap ((v1_1 : Int) + 1))) rfl rfl rfl rfl ?_
            refine AL.v good (d := 3) (v := .int .i64 (IntKind.i64.wrap ((v1_1 : Int) + 1))) rfl rfl rfl rfl ?_
            exact ⟨(m, (v1_1 + 1)), _, _, rfl, ⟨(fun _ h => by cases h), List.forall_mem_cons.2 ⟨⟨⟨_, rfl, Wv.refl _⟩, (by simp [pureA, pureL, pureR, inA, inL, inR, inO, idsIn, encs_pure, enxs_pure, enys_pure, valC_pure, exC_pure, tyC_pure])⟩, List.forall_mem_cons.2 ⟨⟨⟨_, rfl, (wnx h13 hl12)⟩, (by simp [pureA, pureL, pureR, inA, inL, inR, inO, idsIn, encs_pure, enxs_pure, enys_pure, valC_pure, exC_pure, tyC_pure])⟩, (fun _ h => by cases h)⟩⟩, (fun _ h => by cases h)⟩, ⟨hr, Nat.le_of_succ_le hm⟩, Nat.lt_succ_self _⟩
        · replace hr := cnd_f h13 hr
          refine AW.exit ?_
          refine AW.seq ?_
          refine AW.region (M := fun _ => true) ?_
          refine AL.v good (d := 36) (v := .sl .ro 5 (encs a0)) rfl rfl rfl rfl ?_
          obtain ⟨q19, h20, hr⟩ := bnd1 hr
          refine AL.cw good (d := 37) (xs := [.sl .ro 5 (encs a0)]) (res := .agg [.int .i64 q19.kind, .int .i64 q19.i, .bool q19.b, .str q19.s, .sl .ro 5 (encs q19.t)]) rfl rfl rfl rfl rfl rfl rfl (w_tup h20) ⟨(Wv.refl _), trivial⟩ (by simp [pureA, pureL, pureR, inA, inL, inR, inO, idsIn, encs_pure, enxs_pure, enys_pure, valC_pure, exC_pure, tyC_pure]) ?_
          refine AL.alc good (d := 4) rfl rfl rfl rfl rfl 0 rfl ?_
          refine AL.st2 good (c2 := [.int .i64 q19.kind, .int .i64 q19.i, .bool q19.b, .str q19.s, .sl .ro 5 (encs q19.t)]) rfl rfl rfl rfl rfl rfl rfl rfl rfl rfl rfl rfl ?_
          refine AW.seq ?_
          refine AW.seq ?_
          refine AW.region (M := fun _ => true) ?_
          refine AL.v good (d := 38) (v := .agg [.int .i64 q19.kind, .int .i64 q19.i, .bool q19.b, .str q19.s, .sl .ro 5 (encs q19.t)]) rfl rfl rfl rfl ?_
          obtain ⟨q21, h22, hr⟩ := bnd1 hr
          refine AL.cw good (d := 39) (xs := [.agg (valC q19)]) (res := .agg [.int .i64 q21.kind, .int .i64 q21.i, .bool q21.b, .str q21.s, .sl .ro 5 (encs q21.t)]) rfl rfl rfl rfl rfl rfl rfl (w_f22 _ _ _ h22) ⟨(Wv.refl _), trivial⟩ (by simp [pureA, pureL, pureR, inA, inL, inR, inO, idsIn, encs_pure, enxs_pure, enys_pure, valC_pure, exC_pure, tyC_pure]) ?_
          obtain ⟨q23, h24, hr⟩ := bnd1 hr
          refine AL.cw good (d := 40) (xs := [.agg (valC q21)]) (res := .int .i64 q23) rfl rfl rfl rfl rfl rfl rfl (w_f34 _ _ _ h24) ⟨(Wv.refl _), trivial⟩ (by simp [pureA, pureL, pureR, inA, inL, inR, inO, idsIn, encs_pure, enxs_pure, enys_pure, valC_pure, exC_pure, tyC_pure]) ?_
          refine AL.v good (d := 41) (v := .bool (q23 != 0)) rfl rfl rfl rfl ?_
          refine AW.if rfl (fun h25 => ?_) (fun h25 => ?_)
          · replace hr := cnd_t h25 hr
            refine AW.seq ?_
            refine AW.region (M := fun _ => true) ?_
            refine AL.v good (d := 2) (v := .bool true) rfl rfl rfl rfl ?_
            refine AW.ret ?_
            obtain rfl := Option.some.inj hr
            exact RetQ.w good (.inr rfl) rfl rfl (Wv.refl _) (by simp [pureA, pureL, pureR, inA, inL, inR, inO, idsIn, encs_pure, enxs_pure, enys_pure, valC_pure, exC_pure, tyC_pure])
          · replace hr := cnd_f h25 hr
            refine AW.skip ?_
            refine AW.seq ?_
            refine AW.region (M := fun _ => true) ?_
            refine AL.bld good (d := 42) (l := [.str ⟨#[116, 117, 112]⟩, .int .i64 0, .int .i64 0, .bool false, .str ⟨#[]⟩, .sl .nil 0 [], .int .i64 0, .sl .nil 0 []]) rfl rfl rfl rfl rfl rfl rfl ?_
            refine AL.alc good (d := 5) rfl rfl rfl rfl rfl 1 rfl ?_
            refine AL.st2 good (c2 := [.str ⟨#[116, 117, 112]⟩, .int .i64 0, .int .i64 0, .bool false, .str ⟨#[]⟩, .sl .nil 0 [], .int .i64 0, .sl .nil 0 []]) rfl rfl rfl rfl rfl rfl rfl rfl rfl rfl rfl rfl ?_
            refine AW.seq ?_
            refine AW.seq ?_
            refine AW.region (M := fun _ => true) ?_
            refine AL.v good (d := 6) (v := .int .i64 0) rfl rfl rfl rfl ?_
            refine AW.block ?_
            refine AW.adoptB 1 rfl 7 rfl 2 8 27 rfl rfl ?_
            refine AW.lens 0 rfl (fun hl35 => ?_)
            replace hl35 : a0.length ≤ 9223372036854775807 := by rw [← encs_length a0]; exact hl35
            refine AW.lpw (fun x : Nat × Nat × (List Ex) => [(0, .sl .ro 5 (encs a0)), (4, .ptr 0 0), (5, .ptr 1 0), (6, .int .i64 (x.2.1 : Int))]) (fun x => [(0, .box 24 [.int .i64 q19.kind, .int .i64 q19.i, .bool q19.b, .str q19.s, .sl .ro 5 (encs q19.t)]), (1, .box 27 [.str ⟨#[116, 117, 112]⟩, .int .i64 0, .int .i64 0, .bool false, .str ⟨#[]⟩, .sl .nil 0 [], .int .i64 0, .sl (.own 2) 8 (enxs x.2.2)]), (2, .row 27 8 (enxs x.2.2).length)]) (fun x => s_f7_l2 x.1 a0 q19 x.2.1 x.2.2 = some r ∧ x.1 ≤ m) (fun x => x.1) (m, 0, []) ⟨(fun _ h => by cases h), List.forall_mem_cons.2 ⟨⟨⟨_, rfl, Wv.refl _⟩, (by simp [pureA, pureL, pureR, inA, inL, inR, inO, idsIn, encs_pure, enxs_pure, enys_pure, valC_pure, exC_pure, tyC_pure])⟩, List.forall_mem_cons.2 ⟨⟨⟨_, rfl, Wv.refl _⟩, (by simp [pureA, pureL, pureR, inA, inL, inR, inO, idsIn, encs_pure, enxs_pure, enys_pure, valC_pure, exC_pure, tyC_pure])⟩, List.forall_mem_cons.2 ⟨⟨⟨_, rfl, Wv.refl _⟩, (by simp [pureA, pureL, pureR, inA, inL, inR, inO, idsIn, encs_pure, enxs_pure, enys_pure, valC_pure, exC_pure, tyC_pure])⟩, List.forall_mem_cons.2 ⟨⟨⟨_, rfl, Wv.refl _⟩, (by simp [pureA, pureL, pureR, inA, inL, inR, inO, idsIn, encs_pure, enxs_pure, enys_pure, valC_pure, exC_pure, tyC_pure])⟩, (fun _ h => by cases h)⟩⟩⟩⟩, List.forall_mem_cons.2 ⟨⟨⟨_, rfl, ⟨rfl, ⟨Wv.refl _, Wv.refl _, Wv.refl _, Wv.refl _, Wv.refl _, trivial⟩⟩⟩, (by simp [pureA, pureL, pureR, inA, inL, inR, inO, idsIn, encs_pure, enxs_pure, enys_pure, valC_pure, exC_pure, tyC_pure])⟩, List.forall_mem_cons.2 ⟨⟨⟨_, rfl, ⟨rfl, ⟨Wv.refl _, Wv.refl _, Wv.refl _, Wv.refl _, Wv.refl _, Wv.refl _, Wv.refl _, Wv.refl _, trivial⟩⟩⟩, (by simp [pureA, pureL, pureR, inA, inL, inR, inO, idsIn, encs_pure, enxs_pure, enys_pure, valC_pure, exC_pure, tyC_pure])⟩, List.forall_mem_cons.2 ⟨⟨⟨_, rfl, ⟨rfl, rfl, rfl⟩⟩, (by simp [pureA, pureL, pureR, inA, inL, inR, inO, idsIn, encs_pure, enxs_pure, enys_pure, valC_pure, exC_pure, tyC_pure])⟩, (fun _ h => by cases h)⟩⟩⟩⟩ ⟨hr, Nat.le_refl _⟩ (fun ⟨m, v2_1, v2_2⟩ hx => ?_)
            obtain ⟨hr, hm⟩ := hx
            dsimp only at hr hm
            cases m with
            | zero => rw [s_f7_l2] at hr; cases hr
            | succ m =>
              rw [s_f7_l2] at hr
              show AW Try.prog _ _ _ (mkS 104 [(0, .sl .ro 5 (encs a0)), (4, .ptr 0 0), (5, .ptr 1 0), (6, .int .i64 (v2_1 : Int))] [(0, .box 24 [.int .i64 q19.kind, .int .i64 q19.i, .bool q19.b, .str q19.s, .sl .ro 5 (encs q19.t)]), (1, .box 27 [.str ⟨#[116, 117, 112]⟩, .int .i64 0, .int .i64 0, .bool false, .str ⟨#[]⟩, .sl .nil 0 [], .int .i64 0, .sl (.own 2) 8 (enxs v2_2)]), (2, .row 27 8 (enxs v2_2).length)])
              refine AW.seq ?_
              refine AW.seq ?_
              refine AW.region (M := fun _ => true) ?_
              refine AL.v good (d := 43) (v := .int .i64 (v2_1 : Int)) rfl rfl rfl rfl ?_
              refine AL.v good (d := 44) (v := .sl .ro 5 (encs a0)) rfl rfl rfl rfl ?_
              refine AL.ln good (d := 45) (m := a0.length) rfl rfl rfl rfl rfl rfl (encs_length _) ?_
              refine AL.v good (d := 46) (v := .bool (decide ((v2_1 : Int) < (a0.length : Int)))) rfl rfl rfl rfl ?_
              refine AW.if rfl (fun h36 => ?_) (fun h36 => ?_)
              · replace hr := cnd_t h36 hr
                refine AW.skip ?_
                refine AW.seq ?_
                refine AW.block ?_
                refine AW.seq ?_
                refine AW.region (M := fun _ => true) ?_
                refine AL.v good (d := 49) (v := .int .i64 (v2_1 : Int)) rfl rfl rfl rfl ?_
                refine AL.cw good (d := 50) (xs := []) (res := .agg [.str ⟨#[120]⟩, .int .i64 0, .int .i64 0, .bool false, .str ⟨#[]⟩, .sl .ro 5 (encs []), .int .i64 0, .sl .ro 8 (enxs [])]) rfl rfl rfl rfl rfl rfl rfl (w_f29) trivial (by simp [pureA, pureL, pureR, inA, inL, inR, inO, idsIn, encs_pure, enxs_pure, enys_pure, valC_pure, exC_pure, tyC_pure]) ?_
                refine AL.lit good (d := 51) (rows := [[.str ⟨#[120]⟩, .int .i64 0, .int .i64 0, .bool false, .str ⟨#[]⟩, .sl .ro 5 (encs []), .int .i64 0, .sl .ro 8 (enxs [])]]) rfl rfl rfl rfl rfl rfl rfl rfl rfl 3 rfl ?_
                refine AL.bld good (d := 52) (l := [.str ⟨#[97, 116]⟩, .int .i64 0, .int .i64 0, .bool false, .str ⟨#[]⟩, .sl .nil 0 [], .int .i64 (v2_1 : Int), .sl (.own 3) 8 [[.str ⟨#[120]⟩, .int .i64 0, .int .i64 0, .bool false, .str ⟨#[]⟩, .sl .ro 5 (encs []), .int .i64 0, .sl .ro 8 (enxs [])]]]) rfl rfl rfl rfl rfl rfl rfl ?_
                refine AL.alc good (d := 7) rfl rfl rfl rfl rfl 4 rfl ?_
                refine AL.st2 good (c2 := [.str ⟨#[97, 116]⟩, .int .i64 0, .int .i64 0, .bool false, .str ⟨#[]⟩, .sl .nil 0 [], .int .i64 (v2_1 : Int), .sl (.own 3) 8 [[.str ⟨#[120]⟩, .int .i64 0, .int .i64 0, .bool false, .str ⟨#[]⟩, .sl .ro 5 (encs []), .int .i64 0, .sl .ro 8 (enxs [])]]]) rfl rfl rfl rfl rfl rfl rfl rfl rfl rfl rfl rfl ?_
                refine AW.seq ?_
                refine AW.region (M := fun _ => true) ?_
                refine AL.v good (d := 54) (v := .agg [.str ⟨#[97, 116]⟩, .int .i64 0, .int .i64 0, .bool false, .str ⟨#[]⟩, .sl .nil 0 [], .int .i64 (v2_1 : Int), .sl (.own 3) 8 [[.str ⟨#[120]⟩, .int .i64 0, .int .i64 0, .bool false, .str ⟨#[]⟩, .sl .ro 5 (encs []), .int .i64 0, .sl .ro 8 (enxs [])]]]) rfl rfl rfl rfl ?_
                refine AL.v good (d := 55) (v := .agg [.int .i64 q19.kind, .int .i64 q19.i, .bool q19.b, .str q19.s, .sl .ro 5 (encs q19.t)]) rfl rfl rfl rfl ?_
                obtain ⟨q37, h38, hr⟩ := bnd1 hr
                refine AL.cw good (d := 56) (xs := [.agg (exC (Ex.mk ⟨#[97, 116]⟩ (Val.mk 0 0 false ⟨#[]⟩ []) (v2_1 : Int) [(Ex.mk ⟨#[120]⟩ (Val.mk 0 0 false ⟨#[]⟩ []) 0 [])])), .agg (valC q19)]) (res := .tup [.agg [.int .i64 q37.1.kind, .int .i64 q37.1.i, .bool q37.1.b, .str q37.1.s, .sl .ro 5 (encs q37.1.t)], .int .i64 q37.2]) rfl rfl rfl rfl rfl rfl rfl (w23 _ _ _ h38) ⟨⟨Wv.refl _, Wv.refl _, Wv.refl _, Wv.refl _, Wv.refl _, ⟨.inr rfl, trivial, .inr rfl⟩, Wv.refl _, ⟨.inr rfl, (WvR_enxs ⟨⟨Wv.refl _, Wv.refl _, Wv.refl _, Wv.refl _, Wv.refl _, Wv.refl _, Wv.refl _, Wv.refl _, trivial⟩, trivial⟩), .inl rfl⟩, trivial⟩, (Wv.refl _), trivial⟩ (by simp [pureA, pureL, pureR, inA, inL, inR, inO, idsIn, encs_pure, enxs_pure, enys_pure, valC_pure, exC_pure, tyC_pure]) ?_
                refine AL.v good (d := 53) (v := .tup [.agg [.int .i64 q37.1.kind, .int .i64 q37.1.i, .bool q37.1.b, .str q37.1.s, .sl .ro 5 (encs q37.1.t)], .int .i64 q37.2]) rfl rfl rfl rfl ?_
                refine AL.v good (d := 57) (v := .agg [.int .i64 q37.1.kind, .int .i64 q37.1.i, .bool q37.1.b, .str q37.1.s, .sl .ro 5 (encs q37.1.t)]) rfl rfl rfl rfl ?_
                refine AL.v good (d := 58) (v := .int .i64 q37.2) rfl rfl rfl rfl ?_
                refine AL.alc good (d := 8) rfl rfl rfl rfl rfl 5 rfl ?_
                refine AL.st2 good (c2 := [.int .i64 q37.1.kind, .int .i64 q37.1.i, .bool q37.1.b, .str q37.1.s, .sl .ro 5 (encs q37.1.t)]) rfl rfl rfl rfl rfl rfl rfl rfl rfl rfl rfl rfl ?_
                refine AL.v good (d := 9) (v := .int .i64 q37.2) rfl rfl rfl rfl ?_
                refine AW.seq ?_
                refine AW.seq ?_
                refine AW.draw (M := fun i => false) good.wide (by kernel_rfl) ?_
                refine AL.v good (d := 59) (v := .int .i64 q37.2) rfl rfl rfl rfl ?_
                refine AL.v good (d := 60) (v := .bool (q37.2 != 0)) rfl rfl rfl rfl ?_
                refine AL.v good (d := 61) (v := .bool (q37.2 != 0)) rfl rfl rfl rfl ?_
                refine AL.cs 61 rfl (fun h39 => ?_) (fun h39 => ?_)
                · replace hr := cnd_t h39 hr
                  refine AL.sk good (d := 62) rfl rfl rfl ?_
                  refine AL.sk good (d := 63) rfl rfl rfl ?_
                  refine AL.sk good (d := 64) rfl rfl rfl ?_
                  refine AL.sk good (d := 65) rfl rfl rfl ?_
                  refine AL.sk good (d := 66) rfl rfl rfl ?_
                  refine AL.sk good (d := 67) rfl rfl rfl ?_
                  refine AL.sk good (d := 68) rfl rfl rfl ?_
                  refine AL.v good (d := 69) (v := .bool true) rfl rfl rfl rfl ?_
                  refine AW.if rfl (fun h => ?_) (fun h => by cases h)
                  refine AW.seq ?_
                  refine AW.region (M := fun _ => true) ?_
                  refine AL.v good (d := 2) (v := .bool false) rfl rfl rfl rfl ?_
                  refine AW.ret ?_
                  obtain rfl := Option.some.inj hr
                  exact RetQ.w good (.inr rfl) rfl rfl (Wv.refl _) (by simp [pureA, pureL, pureR, inA, inL, inR, inO, idsIn, encs_pure, enxs_pure, enys_pure, valC_pure, exC_pure, tyC_pure])
                · replace hr := cnd_f h39 hr
                  refine AL.v good (d := 62) (v := .agg [.int .i64 q37.1.kind, .int .i64 q37.1.i, .bool q37.1.b, .str q37.1.s, .sl .ro 5 (encs q37.1.t)]) rfl rfl rfl rfl ?_
                  refine AL.v good (d := 63) (v := .sl .ro 5 (encs a0)) rfl rfl rfl rfl ?_
                  refine AL.v good (d := 64) (v := .int .i64 (v2_1 : Int)) rfl rfl rfl rfl ?_
                  obtain ⟨x40, h41, hr⟩ := bnd1 hr
                  refine AL.ix good (d := 65) (r := [.int .i64 x40.kind, .int .i64 x40.i, .bool x40.b, .str x40.s, .sl .ro 5 (encs x40.t)]) rfl rfl rfl rfl rfl rfl rfl (Int.natCast_nonneg _) (encs_get h41) ?_
                  refine AL.v good (d := 66) (v := .agg [.int .i64 x40.kind, .int .i64 x40.i, .bool x40.b, .str x40.s, .sl .ro 5 (encs x40.t)]) rfl rfl rfl rfl ?_
                  refine AL.cw good (d := 67) (xs := [.agg (valC q37.1), .agg (valC x40)]) (res := .bool (cmpV q37.1 x40 == 0)) rfl rfl rfl rfl rfl rfl rfl (w35 q37.1 x40) ⟨(Wv.refl _), (Wv.refl _), trivial⟩ (by simp [pureA, pureL, pureR, inA, inL, inR, inO, idsIn, encs_pure, enxs_pure, enys_pure, valC_pure, exC_pure, tyC_pure]) ?_
                  refine AL.v good (d := 68) (v := .bool (!(cmpV q37.1 x40 == 0))) rfl rfl rfl rfl ?_
                  refine AL.v good (d := 69) (v := .bool (!(cmpV q37.1 x40 == 0))) rfl rfl rfl rfl ?_
                  refine AW.if rfl (fun h42 => ?_) (fun h42 => ?_)
                  · replace hr := cnd_t h42 hr
                    refine AW.seq ?_
                    refine AW.region (M := fun _ => true) ?_
                    refine AL.v good (d := 2) (v := .bool false) rfl rfl rfl rfl ?_
                    refine AW.ret ?_
                    obtain rfl := Option.some.inj hr
                    exact RetQ.w good (.inr rfl) rfl rfl (Wv.refl _) (by simp [pureA, pureL, pureR, inA, inL, inR, inO, idsIn, encs_pure, enxs_pure, enys_pure, valC_pure, exC_pure, tyC_pure])
                  · replace hr := cnd_f h42 hr
                    refine AW.skip ?_
                    refine AW.region (M := fun _ => true) ?_
                    refine AL.v good (d := 70) (v := .ptr 1 7) rfl rfl rfl rfl ?_
                    refine AL.v good (d := 71) (v := .sl (.own 2) 8 (enxs v2_2)) rfl rfl rfl rfl ?_
                    refine AL.v good (d := 72) (v := .agg [.str ⟨#[97, 116]⟩, .int .i64 0, .int .i64 0, .bool false, .str ⟨#[]⟩, .sl .nil 0 [], .int .i64 (v2_1 : Int), .sl (.own 3) 8 [[.str ⟨#[120]⟩, .int .i64 0, .int .i64 0, .bool false, .str ⟨#[]⟩, .sl .ro 5 (encs []), .int .i64 0, .sl .ro 8 (enxs [])]]]) rfl rfl rfl rfl ?_
                    refine AL.lit good (d := 73) (rows := [[.str ⟨#[97, 116]⟩, .int .i64 0, .int .i64 0, .bool false, .str ⟨#[]⟩, .sl .nil 0 [], .int .i64 (v2_1 : Int), .sl (.own 3) 8 [[.str ⟨#[120]⟩, .int .i64 0, .int .i64 0, .bool false, .str ⟨#[]⟩, .sl .ro 5 (encs []), .int .i64 0, .sl .ro 8 (enxs [])]]]]) rfl rfl rfl rfl rfl rfl rfl rfl rfl 6 rfl ?_
                    obtain ⟨h43, hr⟩ := grd hr
                    refine AL.aw2 good (d := 74) (rows := enxs v2_2) (news := [(exC (Ex.mk ⟨#[97, 116]⟩ (Val.mk 0 0 false ⟨#[]⟩ []) (v2_1 : Int) [(Ex.mk ⟨#[120]⟩ (Val.mk 0 0 false ⟨#[]⟩ []) 0 [])]))]) (rows2 := enxs (v2_2 ++ [(Ex.mk ⟨#[97, 116]⟩ (Val.mk 0 0 false ⟨#[]⟩ []) (v2_1 : Int) [(Ex.mk ⟨#[120]⟩ (Val.mk 0 0 false ⟨#[]⟩ []) 0 [])])])) rfl rfl rfl rfl rfl rfl rfl rfl rfl (by simp) rfl rfl rfl ⟨⟨Wv.refl _, Wv.refl _, Wv.refl _, Wv.refl _, Wv.refl _, ⟨.inr rfl, trivial, .inr rfl⟩, Wv.refl _, ⟨.inr rfl, (WvR_enxs ⟨⟨Wv.refl _, Wv.refl _, Wv.refl _, Wv.refl _, Wv.refl _, Wv.refl _, Wv.refl _, Wv.refl _, trivial⟩, trivial⟩), .inl rfl⟩, trivial⟩, trivial⟩ (by simp [enxs_map]) (by rw [enxs_length, List.length_append]; exact h43) rfl ?_
                    refine AL.v good (d := 75) (v := .ptr 1 7) rfl rfl rfl rfl ?_
                    refine AL.st2 good (c2 := [.str ⟨#[116, 117, 112]⟩, .int .i64 0, .int .i64 0, .bool false, .str ⟨#[]⟩, .sl .nil 0 [], .int .i64 0, .sl (.own 2) 8 (enxs (v2_2 ++ [(Ex.mk ⟨#[97, 116]⟩ (Val.mk 0 0 false ⟨#[]⟩ []) (v2_1 : Int) [(Ex.mk ⟨#[120]⟩ (Val.mk 0 0 false ⟨#[]⟩ []) 0 [])])]))]) rfl rfl rfl rfl rfl rfl rfl rfl rfl rfl rfl rfl ?_
                    refine AW.region (M := fun _ => true) ?_
                    refine AL.v good (d := 47) (v := .int .i64 (v2_1 : Int)) rfl rfl rfl rfl ?_
                    refine AL.v good (d := 48) (v := .int .i64 (IntKind.i64.wrap ((v2_1 : Int) + 1))) rfl rfl rfl rfl ?_
                    refine AL.v good (d := 6) (v := .int .i64 (IntKind.i64.wrap ((v2_1 : Int) + 1))) rfl rfl rfl rfl ?_
                    exact ⟨(m, (v2_1 + 1), (v2_2 ++ [(Ex.mk ⟨#[97, 116]⟩ (Val.mk 0 0 false ⟨#[]⟩ []) (v2_1 : Int) [(Ex.mk ⟨#[120]⟩ (Val.mk 0 0 false ⟨#[]⟩ []) 0 [])])])), _, _, rfl, ⟨(fun _ h => by cases h), List.forall_mem_cons.2 ⟨⟨⟨_, rfl, Wv.refl _⟩, (by simp [pureA, pureL, pureR, inA, inL, inR, inO, idsIn, encs_pure, enxs_pure, enys_pure, valC_pure, exC_pure, tyC_pure])⟩, List.forall_mem_cons.2 ⟨⟨⟨_, rfl, Wv.refl _⟩, (by simp [pureA, pureL, pureR, inA, inL, inR, inO, idsIn, encs_pure, enxs_pure, enys_pure, valC_pure, exC_pure, tyC_pure])⟩, List.forall_mem_cons.2 ⟨⟨⟨_, rfl, Wv.refl _⟩, (by simp [pureA, pureL, pureR, inA, inL, inR, inO, idsIn, encs_pure, enxs_pure, enys_pure, valC_pure, exC_pure, tyC_pure])⟩, List.forall_mem_cons.2 ⟨⟨⟨_, rfl, (wnx h36 hl35)⟩, (by simp [pureA, pureL, pureR, inA, inL, inR, inO, idsIn, encs_pure, enxs_pure, enys_pure, valC_pure, exC_pure, tyC_pure])⟩, (fun _ h => by cases h)⟩⟩⟩⟩, List.forall_mem_cons.2 ⟨⟨⟨_, rfl, ⟨rfl, ⟨Wv.refl _, Wv.refl _, Wv.refl _, Wv.refl _, Wv.refl _, trivial⟩⟩⟩, (by simp [pureA, pureL, pureR, inA, inL, inR, inO, idsIn, encs_pure, enxs_pure, enys_pure, valC_pure, exC_pure, tyC_pure])⟩, List.forall_mem_cons.2 ⟨⟨⟨_, rfl, ⟨rfl, ⟨Wv.refl _, Wv.refl _, Wv.refl _, Wv.refl _, Wv.refl _, Wv.refl _, Wv.refl _, Wv.refl _, trivial⟩⟩⟩, (by simp [pureA, pureL, pureR, inA, inL, inR, inO, idsIn, encs_pure, enxs_pure, enys_pure, valC_pure, exC_pure, tyC_pure])⟩, List.forall_mem_cons.2 ⟨⟨⟨_, rfl, ⟨rfl, rfl, rfl⟩⟩, (by simp [pureA, pureL, pureR, inA, inL, inR, inO, idsIn, encs_pure, enxs_pure, enys_pure, valC_pure, exC_pure, tyC_pure])⟩, (fun _ h => by cases h)⟩⟩⟩⟩, ⟨hr, Nat.le_of_succ_le hm⟩, Nat.lt_succ_self _⟩
              · replace hr := cnd_f h36 hr
                refine AW.exit ?_
                refine AW.seq ?_
                refine AW.region (M := fun _ => true) ?_
                refine AL.v good (d := 77) (v := .agg [.str ⟨#[116, 117, 112]⟩, .int .i64 0, .int .i64 0, .bool false, .str ⟨#[]⟩, .sl .nil 0 [], .int .i64 0, .sl (.own 2) 8 (enxs v2_2)]) rfl rfl rfl rfl ?_
                refine AL.v good (d := 78) (v := .agg [.int .i64 q19.kind, .int .i64 q19.i, .bool q19.b, .str q19.s, .sl .ro 5 (encs q19.t)]) rfl rfl rfl rfl ?_
                obtain ⟨q44, h45, hr⟩ := bnd1 hr
                refine AL.cw good (d := 79) (xs := [.agg (exC (Ex.mk ⟨#[116, 117, 112]⟩ (Val.mk 0 0 false ⟨#[]⟩ []) 0 v2_2)), .agg (valC q19)]) (res := .tup [.agg [.int .i64 q44.1.kind, .int .i64 q44.1.i, .bool q44.1.b, .str q44.1.s, .sl .ro 5 (encs q44.1.t)], .int .i64 q44.2]) rfl rfl rfl rfl rfl rfl rfl (w23 _ _ _ h45) ⟨⟨Wv.refl _, Wv.refl _, Wv.refl _, Wv.refl _, Wv.refl _, ⟨.inr rfl, trivial, .inr rfl⟩, Wv.refl _, ⟨.inr rfl, WvR.refl _, .inl rfl⟩, trivial⟩, (Wv.refl _), trivial⟩ (by simp [pureA, pureL, pureR, inA, inL, inR, inO, idsIn, encs_pure, enxs_pure, enys_pure, valC_pure, exC_pure, tyC_pure]) ?_
                refine AL.v good (d := 76) (v := .tup [.agg [.int .i64 q44.1.kind, .int .i64 q44.1.i, .bool q44.1.b, .str q44.1.s, .sl .ro 5 (encs q44.1.t)], .int .i64 q44.2]) rfl rfl rfl rfl ?_
                refine AL.v good (d := 80) (v := .agg [.int .i64 q44.1.kind, .int .i64 q44.1.i, .bool q44.1.b, .str q44.1.s, .sl .ro 5 (encs q44.1.t)]) rfl rfl rfl rfl ?_
                refine AL.v good (d := 81) (v := .int .i64 q44.2) rfl rfl rfl rfl ?_
                refine AL.alc good (d := 10) rfl rfl rfl rfl rfl 3 rfl ?_
                refine AL.st2 good (c2 := [.int .i64 q44.1.kind, .int .i64 q44.1.i, .bool q44.1.b, .str q44.1.s, .sl .ro 5 (encs q44.1.t)]) rfl rfl rfl rfl rfl rfl rfl rfl rfl rfl rfl rfl ?_
                refine AL.v good (d := 11) (v := .int .i64 q44.2) rfl rfl rfl rfl ?_
                refine AW.seq ?_
                refine AW.draw (M := fun i => Nat.beq i 10) good.wide (by kernel_rfl) ?_
                refine AL.v good (d := 83) (v := .agg [.str ⟨#[116, 117, 112]⟩, .int .i64 0, .int .i64 0, .bool false, .str ⟨#[]⟩, .sl .nil 0 [], .int .i64 0, .sl (.own 2) 8 (enxs v2_2)]) rfl rfl rfl rfl ?_
                refine AL.cw good (d := 84) (xs := []) (res := .agg [.str ⟨#[120]⟩, .int .i64 0, .int .i64 0, .bool false, .str ⟨#[]⟩, .sl .ro 5 (encs []), .int .i64 0, .sl .ro 8 (enxs [])]) rfl rfl rfl rfl rfl rfl rfl (w_f29) trivial (by simp [pureA, pureL, pureR, inA, inL, inR, inO, idsIn, encs_pure, enxs_pure, enys_pure, valC_pure, exC_pure, tyC_pure]) ?_
                refine AL.lit good (d := 85) (rows := [[.str ⟨#[116, 117, 112]⟩, .int .i64 0, .int .i64 0, .bool false, .str ⟨#[]⟩, .sl .nil 0 [], .int .i64 0, .sl (.own 2) 8 (enxs v2_2)], [.str ⟨#[120]⟩, .int .i64 0, .int .i64 0, .bool false, .str ⟨#[]⟩, .sl .ro 5 (encs []), .int .i64 0, .sl .ro 8 (enxs [])]]) rfl rfl rfl rfl rfl rfl rfl rfl rfl 4 rfl ?_
                refine AL.cw good (d := 86) (xs := [.str ⟨#[101, 113]⟩, .sl .ro 8 (enxs [(Ex.mk ⟨#[116, 117, 112]⟩ (Val.mk 0 0 false ⟨#[]⟩ []) 0 v2_2), (Ex.mk ⟨#[120]⟩ (Val.mk 0 0 false ⟨#[]⟩ []) 0 [])])]) (res := .agg [.str ⟨#[101, 113]⟩, .int .i64 0, .int .i64 0, .bool false, .str ⟨#[]⟩, .sl .ro 5 (encs []), .int .i64 0, .sl .ro 8 (enxs [(Ex.mk ⟨#[116, 117, 112]⟩ (Val.mk 0 0 false ⟨#[]⟩ []) 0 v2_2), (Ex.mk ⟨#[120]⟩ (Val.mk 0 0 false ⟨#[]⟩ []) 0 [])])]) rfl rfl rfl rfl rfl rfl rfl (w_f30 ⟨#[101, 113]⟩ [(Ex.mk ⟨#[116, 117, 112]⟩ (Val.mk 0 0 false ⟨#[]⟩ []) 0 v2_2), (Ex.mk ⟨#[120]⟩ (Val.mk 0 0 false ⟨#[]⟩ []) 0 [])]) ⟨(Wv.refl _), ⟨.inr rfl, (WvR_enxs ⟨⟨Wv.refl _, Wv.refl _, Wv.refl _, Wv.refl _, Wv.refl _, ⟨.inr rfl, trivial, .inr rfl⟩, Wv.refl _, ⟨.inr rfl, WvR.refl _, .inl rfl⟩, trivial⟩, ⟨Wv.refl _, Wv.refl _, Wv.refl _, Wv.refl _, Wv.refl _, Wv.refl _, Wv.refl _, Wv.refl _, trivial⟩, trivial⟩), .inl rfl⟩, trivial⟩ (by simp [pureA, pureL, pureR, inA, inL, inR, inO, idsIn, encs_pure, enxs_pure, enys_pure, valC_pure, exC_pure, tyC_pure]) ?_
                refine AL.v good (d := 87) (v := .agg [.int .i64 q19.kind, .int .i64 q19.i, .bool q19.b, .str q19.s, .sl .ro 5 (encs q19.t)]) rfl rfl rfl rfl ?_
                obtain ⟨q46, h47, hr⟩ := bnd1 hr
                refine AL.cw good (d := 88) (xs := [.agg (exC (Ex.mk ⟨#[101, 113]⟩ (Val.mk 0 0 false ⟨#[]⟩ []) 0 [(Ex.mk ⟨#[116, 117, 112]⟩ (Val.mk 0 0 false ⟨#[]⟩ []) 0 v2_2), (Ex.mk ⟨#[120]⟩ (Val.mk 0 0 false ⟨#[]⟩ []) 0 [])])), .agg (valC q19)]) (res := .tup [.agg [.int .i64 q46.1.kind, .int .i64 q46.1.i, .bool q46.1.b, .str q46.1.s, .sl .ro 5 (encs q46.1.t)], .int .i64 q46.2]) rfl rfl rfl rfl rfl rfl rfl (w23 _ _ _ h47) ⟨(Wv.refl _), (Wv.refl _), trivial⟩ (by simp [pureA, pureL, pureR, inA, inL, inR, inO, idsIn, encs_pure, enxs_pure, enys_pure, valC_pure, exC_pure, tyC_pure]) ?_
                refine AL.v good (d := 82) (v := .tup [.agg [.int .i64 q46.1.kind, .int .i64 q46.1.i, .bool q46.1.b, .str q46.1.s, .sl .ro 5 (encs q46.1.t)], .int .i64 q46.2]) rfl rfl rfl rfl ?_
                refine AL.v good (d := 89) (v := .agg [.int .i64 q46.1.kind, .int .i64 q46.1.i, .bool q46.1.b, .str q46.1.s, .sl .ro 5 (encs q46.1.t)]) rfl rfl rfl rfl ?_
                refine AL.v good (d := 90) (v := .int .i64 q46.2) rfl rfl rfl rfl ?_
                refine AL.alc good (d := 12) rfl rfl rfl rfl rfl 5 rfl ?_
                refine AL.st2 good (c2 := [.int .i64 q46.1.kind, .int .i64 q46.1.i, .bool q46.1.b, .str q46.1.s, .sl .ro 5 (encs q46.1.t)]) rfl rfl rfl rfl rfl rfl rfl rfl rfl rfl rfl rfl ?_
                refine AL.v good (d := 13) (v := .int .i64 q46.2) rfl rfl rfl rfl ?_
                refine AW.seq ?_
                refine AW.region (M := fun _ => true) ?_
                refine AL.v good (d := 91) (v := .int .i64 q44.2) rfl rfl rfl rfl ?_
                refine AL.v good (d := 92) (v := .int .i64 q46.2) rfl rfl rfl rfl ?_
                refine AL.v good (d := 93) (v := .int .i64 (IntKind.i64.wrap (q44.2 + q46.2))) rfl rfl rfl rfl ?_
                refine AL.v good (d := 94) (v := .bool ((IntKind.i64.wrap (q44.2 + q46.2)) == 0)) rfl rfl rfl rfl ?_
                refine AL.vb good (d := 95) (b := ((IntKind.i64.wrap (q44.2 + q46.2)) == 0)) rfl rfl rfl rfl (fun g48 h49 => ?_)
                refine AL.gv good (d := 96) (c := g48) (v := .agg [.int .i64 q44.1.kind, .int .i64 q44.1.i, .bool q44.1.b, .str q44.1.s, .sl .ro 5 (encs q44.1.t)]) (rd := [(3, .box 24 [.int .i64 q44.1.kind, .int .i64 q44.1.i, .bool q44.1.b, .str q44.1.s, .sl .ro 5 (encs q44.1.t)])]) rfl rfl (by cases g48 <;> rfl) (fun h => by cases g48 <;> first | rfl | exact absurd h (by decide)) ?_
                refine AL.gv good (d := 97) (c := g48) (v := .agg [.int .i64 q19.kind, .int .i64 q19.i, .bool q19.b, .str q19.s, .sl .ro 5 (encs q19.t)]) (rd := [(0, .box 24 [.int .i64 q19.kind, .int .i64 q19.i, .bool q19.b, .str q19.s, .sl .ro 5 (encs q19.t)])]) rfl rfl (by cases g48 <;> rfl) (fun h => by cases g48 <;> first | rfl | exact absurd h (by decide)) ?_
                refine AL.gcw good (d := 98) (c := g48) (aw := [.agg [.int .i64 q44.1.kind, .int .i64 q44.1.i, .bool q44.1.b, .str q44.1.s, .sl .ro 5 (encs q44.1.t)], .agg [.int .i64 q19.kind, .int .i64 q19.i, .bool q19.b, .str q19.s, .sl .ro 5 (encs q19.t)]]) (xs := [.agg (valC q44.1), .agg (valC q19)]) (res := .bool (cmpV q44.1 q19 == 0)) rfl rfl (by cases g48 <;> rfl) rfl rfl rfl (fun h => by cases g48 <;> first | rfl | exact absurd h (by decide)) (w35 q44.1 q19) ⟨(Wv.refl _), (Wv.refl _), trivial⟩ (by simp [pureA, pureL, pureR, inA, inL, inR, inO, idsIn, encs_pure, enxs_pure, enys_pure, valC_pure, exC_pure, tyC_pure]) ?_
                refine AL.v good (d := 99) (v := .bool (g48 && (cmpV q44.1 q19 == 0))) (rd := []) rfl rfl rfl (by cases g48 <;> rfl) ?_
                refine AL.vb good (d := 100) (b := (g48 && (cmpV q44.1 q19 == 0))) rfl rfl rfl rfl (fun g50 h51 => ?_)
                refine AL.gv good (d := 101) (c := g50) (v := .ptr 5 2) (rd := []) rfl rfl (by cases g50 <;> rfl) (fun h => by cases g50 <;> first | rfl | exact absurd h (by decide)) ?_
                refine AL.gv good (d := 102) (c := g50) (v := .bool q46.1.b) (rd := [(5, .box 24 [.int .i64 q46.1.kind, .int .i64 q46.1.i, .bool q46.1.b, .str q46.1.s, .sl .ro 5 (encs q46.1.t)])]) rfl rfl (by cases g50 <;> rfl) (fun h => by cases g50 <;> first | rfl | exact absurd h (by decide)) ?_
                refine AL.v good (d := 103) (v := .bool (g50 && q46.1.b)) (rd := []) rfl rfl rfl (by cases g50 <;> rfl) ?_
                refine AL.v good (d := 2) (v := .bool (g50 && q46.1.b)) rfl rfl rfl rfl ?_
                subst h49 h51
                refine AW.ret ?_
                obtain rfl := Option.some.inj hr
                exact RetQ.w good (.inr rfl) rfl rfl (Wv.refl _) (by simp [pureA, pureL, pureR, inA, inL, inR, inO, idsIn, encs_pure, enxs_pure, enys_pure, valC_pure, exC_pure, tyC_pure])

end Go.Proofs.Ytbcjcekoonebiaa.Tl
