/- Definitions and walks: types. Definitions and walks: the types of expressions. Definitions and walks: values of the document compared. Definitions and walks: the document comes to values. Definitions and walks: programs of expressions. Conditions: none. -/
import Derived.Test.YtbcjcekoonebiaaGreatTlZVmApply3
set_option linter.unusedVariables false
set_option linter.unusedSimpArgs false
namespace Go.Proofs.YtbcjcekoonebiaaGreat.Tl
open Go Go.RowKit
mutual
def s_f91 : Nat → Ty → Int → Option Int
  | 0, _, _ => none
  | n + 1, a0, a1 => (bif (((decide (a0.kind < 1)) || (decide (a0.kind > 4))) || ((a0.kind != 4) && (decide ((a0.of.length : Int) > 0)))) then some 5 else (bif (a0.kind != 4) then some 0 else (bif ((a0.of.length : Int) == 0) then some 1 else (bif (decide ((a0.of.length : Int) > 8)) then some 10 else (bif (decide (a1 > 4)) then some 9 else (s_f91_l1 n a0 a1 0))))))
def s_f91_l1 : Nat → Ty → Int → Nat → Option Int
  | 0, _, _, _ => none
  | n + 1, a0, a1, v1_1 => (bif (decide ((v1_1 : Int) < (a0.of.length : Int))) then ((a0.of[v1_1]?).bind fun x21 => ((s_f91 n x21 (IntKind.i64.wrap (a1 + 1))).bind fun q23 => (bif (q23 != 0) then some q23 else (s_f91_l1 n a0 a1 (v1_1 + 1))))) else some 0)
end

section
attribute [local simp] pureA pureL pureR inA inL inR inO idsIn encs_pure enxs_pure enys_pure valC_pure exC_pure tyC_pure r_int_u8_pure r_st_GInst_pure r_sl_st_GInst_pure r_st_GMiss_pure
theorem w_f91_a (n : Nat) (ih : ∀ (m : Nat) (a0 : Ty) (a1 : Int) (r : Int), s_f91 m a0 a1 = some r → m < n → ACall Tryz.prog 48 [.agg (tyC a0), .int .i64 a1] (.int .i64 r)) (a0 : Ty) (a1 : Int) (r : Int) (hr : s_f91 n a0 a1 = some r) : ACall Tryz.prog 48 [.agg (tyC a0), .int .i64 a1] (.int .i64 r) := by
 refine ACall.go [(0, .agg (tyC a0)), (1, .int .i64 a1)] Tryz.func48 rfl Tryz.ntmps48 rfl rfl (by simp) ?_
 cases n with
 | zero => rw [s_f91] at hr; cases hr
 | succ n =>
  rw [s_f91] at hr
  refine AW.seq (Rg ?_)
  refine AL.bx good (d := 2) (l := [.int .i64 a0.kind, .sl .ro 2 (enys a0.of)]) rfl rfl rfl rfl rfl rfl 0 rfl ?_
  refine Av (.int .i64 0) rfl ?_
  refine AW.seq ?_
  refine AW.block ?_
  refine AW.seq (Rg ?_)
  refine Av (.ptr 0 0) rfl ?_
  refine Av (.int .i64 a0.kind) rfl ?_
  refine Av (.bool (decide (a0.kind < 1))) rfl ?_
  refine AL.vb good (d := 11) (b := (decide (a0.kind < 1))) rfl rfl rfl rfl (fun g1 h2 => ?_)
  refine Gv ((!g1)) (.ptr 0 0) rfl (by cases g1 <;> exact ⟨rfl, fun h => by first | rfl | cases h⟩) ?_
  refine Gv ((!g1)) (.int .i64 a0.kind) rfl (by cases g1 <;> exact ⟨rfl, fun h => by first | rfl | cases h⟩) ?_
  refine Gv ((!g1)) (.bool (decide (a0.kind > 4))) rfl (by cases g1 <;> exact ⟨rfl, fun h => by first | rfl | cases h⟩) ?_
  refine AL.v good (d := 15) (v := .bool (g1 || (decide (a0.kind > 4)))) (rd := []) rfl rfl rfl (by cases g1 <;> rfl) ?_
  refine AL.vb good (d := 16) (b := (g1 || (decide (a0.kind > 4)))) rfl rfl rfl rfl (fun g3 h4 => ?_)
  refine Gv ((!g3)) (.ptr 0 0) rfl (by cases g3 <;> exact ⟨rfl, fun h => by first | rfl | cases h⟩) ?_
  refine Gv ((!g3)) (.int .i64 a0.kind) rfl (by cases g3 <;> exact ⟨rfl, fun h => by first | rfl | cases h⟩) ?_
  refine Gv ((!g3)) (.bool (a0.kind != 4)) rfl (by cases g3 <;> exact ⟨rfl, fun h => by first | rfl | cases h⟩) ?_
  refine AL.gvb good (d := 20) (c := (!g3)) (r := (a0.kind != 4)) (rd := []) rfl rfl (by cases g3 <;> rfl) (fun h => by cases g3 <;> first | rfl | exact absurd h (by decide)) (fun g5 h6 => ?_)
  refine Gv (((!g3) && g5)) (.ptr 0 1) rfl (by cases g3 <;> cases g5 <;> exact ⟨rfl, fun h => by first | rfl | cases h⟩) ?_
  refine Gv (((!g3) && g5)) (.sl .ro 2 (enys a0.of)) rfl (by cases g3 <;> cases g5 <;> exact ⟨rfl, fun h => by first | rfl | cases h⟩) ?_
  refine AL.gln good (d := 23) (c := ((!g3) && g5)) (m := a0.of.length) rfl rfl (by cases g3 <;> cases g5 <;> rfl) rfl rfl (fun h => by cases g3 <;> cases g5 <;> first | rfl | exact absurd h (by decide)) (enys_length _) ?_
  refine Gv (((!g3) && g5)) (.bool (decide ((a0.of.length : Int) > 0))) rfl (by cases g3 <;> cases g5 <;> exact ⟨rfl, fun h => by first | rfl | cases h⟩) ?_
  refine Gv ((!g3)) (.bool (g5 && (decide ((a0.of.length : Int) > 0)))) rfl (by cases g3 <;> cases g5 <;> exact ⟨rfl, fun h => by first | rfl | cases h⟩) ?_
  refine AL.v good (d := 26) (v := .bool (g3 || (g5 && (decide ((a0.of.length : Int) > 0))))) (rd := []) rfl rfl rfl (by cases g3 <;> rfl) ?_
  refine Av (.bool (g3 || (g5 && (decide ((a0.of.length : Int) > 0))))) rfl ?_
  subst h2 h4 h6
  refine AW.if rfl (fun h7 => ?_) (fun h7 => ?_)
  ·replace hr := cnd_t h7 hr
   refine AW.seq (Rg ?_)
   refine Av (.int .i64 5) rfl ?_
   refine AW.ret ?_
   obtain rfl := Option.some.inj hr
   exact RetQ.w good (.inr rfl) rfl rfl (Wv.refl _) (by simp)
  ·replace hr := cnd_f h7 hr
   refine AW.seq (Rg ?_)
   refine Av (.ptr 0 0) rfl ?_
   refine Av (.int .i64 a0.kind) rfl ?_
   refine Av (.bool (a0.kind != 4)) rfl ?_
   refine Av (.bool (a0.kind != 4)) rfl ?_
   refine AW.if rfl (fun h8 => ?_) (fun h8 => ?_)
   ·replace hr := cnd_t h8 hr
    refine AW.seq (Rg ?_)
    refine Av (.int .i64 0) rfl ?_
    refine AW.ret ?_
    obtain rfl := Option.some.inj hr
    exact RetQ.w good (.inr rfl) rfl rfl (Wv.refl _) (by simp)
   ·replace hr := cnd_f h8 hr
    refine AW.seq (Rg ?_)
    refine Av (.ptr 0 1) rfl ?_
    refine Av (.sl .ro 2 (enys a0.of)) rfl ?_
    refine AL.ln good (d := 34) (m := a0.of.length) rfl rfl rfl rfl rfl rfl (enys_length _) ?_
    refine Av (.bool ((a0.of.length : Int) == 0)) rfl ?_
    refine Av (.bool ((a0.of.length : Int) == 0)) rfl ?_
    refine AW.if rfl (fun h9 => ?_) (fun h9 => ?_)
    ·replace hr := cnd_t h9 hr
     refine AW.seq (Rg ?_)
     refine Av (.int .i64 1) rfl ?_
     refine AW.ret ?_
     obtain rfl := Option.some.inj hr
     exact RetQ.w good (.inr rfl) rfl rfl (Wv.refl _) (by simp)
    ·replace hr := cnd_f h9 hr
     refine AW.seq (Rg ?_)
     refine Av (.ptr 0 1) rfl ?_
     refine Av (.sl .ro 2 (enys a0.of)) rfl ?_
     refine AL.ln good (d := 39) (m := a0.of.length) rfl rfl rfl rfl rfl rfl (enys_length _) ?_
     refine Av (.bool (decide ((a0.of.length : Int) > 8))) rfl ?_
     refine Av (.bool (decide ((a0.of.length : Int) > 8))) rfl ?_
     refine AW.if rfl (fun h10 => ?_) (fun h10 => ?_)
     ·replace hr := cnd_t h10 hr
      refine AW.seq (Rg ?_)
      refine Av (.int .i64 10) rfl ?_
      refine AW.ret ?_
      obtain rfl := Option.some.inj hr
      exact RetQ.w good (.inr rfl) rfl rfl (Wv.refl _) (by simp)
     ·replace hr := cnd_f h10 hr
      refine AW.seq (Rg ?_)
      refine Av (.int .i64 a1) rfl ?_
      refine Av (.bool (decide (a1 > 4))) rfl ?_
      refine Av (.bool (decide (a1 > 4))) rfl ?_
      refine AW.if rfl (fun h11 => ?_) (fun h11 => ?_)
      ·replace hr := cnd_t h11 hr
       refine AW.seq (Rg ?_)
       refine Av (.int .i64 9) rfl ?_
       refine AW.ret ?_
       obtain rfl := Option.some.inj hr
       exact RetQ.w good (.inr rfl) rfl rfl (Wv.refl _) (by simp)
      ·replace hr := cnd_f h11 hr
       refine AW.skip ?_
       refine AW.seq ?_
       refine AW.seq (Rg ?_)
       refine Av (.int .i64 0) rfl ?_
       refine AW.block ?_
       refine AW.lensB 0 rfl (fun hl19 => ?_)
       replace hl19 : a0.of.length ≤ 9223372036854775807 := by rw [← enys_length a0.of]; exact hl19.2.1
       refine AW.lpw (fun x : Nat × Nat => [(1, .int .i64 a1), (2, .ptr 0 0), (5, .int .i64 (x.2 : Int))]) (fun x => [(0, .box 38 [.int .i64 a0.kind, .sl .ro 2 (enys a0.of)])]) (fun x => s_f91_l1 x.1 a0 a1 x.2 = some r ∧ x.1 ≤ n) (fun x => x.1) (n, 0) ⟨(fun _ h => by cases h), fmc ⟨⟨⟨_, rfl, Wv.refl _⟩, (by simp)⟩, fmc ⟨⟨⟨_, rfl, Wv.refl _⟩, (by simp)⟩, fmc ⟨⟨⟨_, rfl, Wv.refl _⟩, (by simp)⟩, (fun _ h => by cases h)⟩⟩⟩, fmc ⟨⟨⟨_, rfl, ⟨rfl, ⟨Wv.refl _, Wv.refl _, trivial⟩⟩⟩, (by simp)⟩, (fun _ h => by cases h)⟩⟩ ⟨hr, Nat.le_refl _⟩ (fun ⟨m, v1_1⟩ hx => ?_)
       obtain ⟨hr, hm⟩ := hx
       try dsimp only at hr hm
       cases m with
       | zero => rw [s_f91_l1] at hr; cases hr
       | succ m =>
        rw [s_f91_l1] at hr
        show AW Tryz.prog _ _ _ (mkS 62 [(1, .int .i64 a1), (2, .ptr 0 0), (5, .int .i64 (v1_1 : Int))] [(0, .box 38 [.int .i64 a0.kind, .sl .ro 2 (enys a0.of)])])
        refine AW.seq ?_
        refine AW.seq (Rg ?_)
        refine Av (.int .i64 (v1_1 : Int)) rfl ?_
        refine Av (.ptr 0 1) rfl ?_
        refine Av (.sl .ro 2 (enys a0.of)) rfl ?_
        refine AL.ln good (d := 47) (m := a0.of.length) rfl rfl rfl rfl rfl rfl (enys_length _) ?_
        refine Av (.bool (decide ((v1_1 : Int) < (a0.of.length : Int)))) rfl ?_
        refine AW.if rfl (fun h20 => ?_) (fun h20 => ?_)
        ·replace hr := cnd_t h20 hr
         refine AW.skip ?_
         refine AW.seq ?_
         refine AW.block ?_
         refine AW.seq (Rg ?_)
         refine Av (.ptr 0 1) rfl ?_
         refine Av (.sl .ro 2 (enys a0.of)) rfl ?_
         refine Av (.int .i64 (v1_1 : Int)) rfl ?_
         obtain ⟨x21, h22, hr⟩ := bnd1 hr
         refine AL.ix good (d := 54) (r := [.int .i64 x21.kind, .sl .ro 2 (enys x21.of)]) rfl rfl rfl rfl rfl rfl rfl (Int.natCast_nonneg _) (enys_get h22) ?_
         refine Av (.agg [.int .i64 x21.kind, .sl .ro 2 (enys x21.of)]) rfl ?_
         refine Av (.int .i64 a1) rfl ?_
         refine Av (.int .i64 (IntKind.i64.wrap (a1 + 1))) rfl ?_
         obtain ⟨q23, h24, hr⟩ := bnd1 hr
         refine AL.cw good (d := 58) (xs := [.agg (tyC x21), .int .i64 (IntKind.i64.wrap (a1 + 1))]) (res := .int .i64 q23) rfl rfl rfl rfl rfl rfl rfl (ih _ _ _ _ h24 (by omega)) ⟨(Wv.refl _), (Wv.refl _), trivial⟩ (by simp) ?_
         refine Av (.int .i64 q23) rfl ?_
         refine AW.seq (Rg ?_)
         refine Av (.int .i64 q23) rfl ?_
         refine Av (.bool (q23 != 0)) rfl ?_
         refine AW.if rfl (fun h25 => ?_) (fun h25 => ?_)
         ·replace hr := cnd_t h25 hr
          refine AW.seq (Rg ?_)
          refine Av (.int .i64 q23) rfl ?_
          refine Av (.int .i64 q23) rfl ?_
          refine AW.ret ?_
          obtain rfl := Option.some.inj hr
          exact RetQ.w good (.inr rfl) rfl rfl (Wv.refl _) (by simp)
         ·replace hr := cnd_f h25 hr
          refine AW.skip ?_
          refine Rg ?_
          refine Av (.int .i64 (v1_1 : Int)) rfl ?_
          refine Av (.int .i64 (IntKind.i64.wrap ((v1_1 : Int) + 1))) rfl ?_
          refine Av (.int .i64 (IntKind.i64.wrap ((v1_1 : Int) + 1))) rfl ?_
          exact ⟨(m, (v1_1 + 1)), _, _, rfl, ⟨(fun _ h => by cases h), fmc ⟨⟨⟨_, rfl, Wv.refl _⟩, (by simp)⟩, fmc ⟨⟨⟨_, rfl, Wv.refl _⟩, (by simp)⟩, fmc ⟨⟨⟨_, rfl, (wnx h20 hl19)⟩, (by simp)⟩, (fun _ h => by cases h)⟩⟩⟩, fmc ⟨⟨⟨_, rfl, ⟨rfl, ⟨Wv.refl _, Wv.refl _, trivial⟩⟩⟩, (by simp)⟩, (fun _ h => by cases h)⟩⟩, ⟨hr, Nat.le_of_succ_le hm⟩, Nat.lt_succ_self _⟩
        ·replace hr := cnd_f h20 hr
         refine AW.exit ?_
         refine AW.seq (Rg ?_)
         refine Av (.int .i64 0) rfl ?_
         refine AW.ret ?_
         obtain rfl := Option.some.inj hr
         exact RetQ.w good (.inr rfl) rfl rfl (Wv.refl _) (by simp)
theorem w_f91 (n : Nat) : ∀ (a0 : Ty) (a1 : Int) (r : Int) (hr : s_f91 n a0 a1 = some r), ACall Tryz.prog 48 [.agg (tyC a0), .int .i64 a1] (.int .i64 r) := by
 induction n using Nat.strongRecOn with
 | _ n ih =>
  intro a0 a1 r hr
  exact w_f91_a n (fun m a0 a1 r h hm => ih m hm a0 a1 r h) a0 a1 r hr

def s_f56 (n : Nat) (a0 : Ty) : Option Int :=
  ((s_f91 n a0 0).bind fun q1 => some q1)

theorem w_f56 (n : Nat) (a0 : Ty) (r : Int) (hr : s_f56 n a0 = some r) : ACall Tryz.prog 31 [.agg (tyC a0)] (.int .i64 r) := by
 refine ACall.go [(0, .agg (tyC a0))] Tryz.func31 rfl Tryz.ntmps31 rfl rfl (by simp) ?_
 rw [s_f56] at hr
 refine AW.seq (Rg ?_)
 refine AL.bx good (d := 1) (l := [.int .i64 a0.kind, .sl .ro 2 (enys a0.of)]) rfl rfl rfl rfl rfl rfl 0 rfl ?_
 refine Av (.int .i64 0) rfl ?_
 refine AW.seq (Rg ?_)
 refine Av (.agg [.int .i64 a0.kind, .sl .ro 2 (enys a0.of)]) rfl ?_
 obtain ⟨q1, h2, hr⟩ := bnd1 hr
 refine AL.cw good (d := 4) (xs := [.agg (tyC a0), .int .i64 0]) (res := .int .i64 q1) rfl rfl rfl rfl rfl rfl rfl (w_f91 _ _ _ _ h2) ⟨(Wv.refl _), (Wv.refl _), trivial⟩ (by simp) ?_
 refine Av (.int .i64 q1) rfl ?_
 refine AW.ret ?_
 obtain rfl := Option.some.inj hr
 exact RetQ.w good (.inr rfl) rfl rfl (Wv.refl _) (by simp)

mutual
def s_f57 : Nat → Ex → Option Int
  | 0, _ => none
  | n + 1, a0 => (s_f57_l1 n a0 1 0)
def s_f57_l1 : Nat → Ex → Int → Nat → Option Int
  | 0, _, _, _ => none
  | n + 1, a0, v1_1, v1_2 => (bif (decide ((v1_2 : Int) < (a0.a.length : Int))) then ((a0.a[v1_2]?).bind fun x9 => ((s_f57 n x9).bind fun q11 => (s_f57_l1 n a0 (IntKind.i64.wrap (v1_1 + q11)) (v1_2 + 1)))) else some v1_1)
end

theorem w_f57_a (n : Nat) (ih : ∀ (m : Nat) (a0 : Ex) (r : Int), s_f57 m a0 = some r → m < n → ACall Tryz.prog 49 [.agg (exC a0)] (.int .i64 r)) (a0 : Ex) (r : Int) (hr : s_f57 n a0 = some r) : ACall Tryz.prog 49 [.agg (exC a0)] (.int .i64 r) := by
 refine ACall.go [(0, .agg (exC a0))] Tryz.func49 rfl Tryz.ntmps49 rfl rfl (by simp) ?_
 cases n with
 | zero => rw [s_f57] at hr; cases hr
 | succ n =>
  rw [s_f57] at hr
  refine AW.seq (Rg ?_)
  refine AL.bx good (d := 1) (l := [.str a0.op, .int .i64 a0.v.kind, .int .i64 a0.v.i, .bool a0.v.b, .str a0.v.s, .sl .ro 5 (encs a0.v.t), .int .i64 a0.n, .sl .ro 8 (enxs a0.a)]) rfl rfl rfl rfl rfl rfl 0 rfl ?_
  refine Av (.int .i64 0) rfl ?_
  refine AW.seq (Rg ?_)
  refine Av (.int .i64 1) rfl ?_
  refine AW.seq ?_
  refine AW.seq (Rg ?_)
  refine Av (.int .i64 0) rfl ?_
  refine AW.block ?_
  refine AW.lensB 0 rfl (fun hl7 => ?_)
  replace hl7 : a0.a.length ≤ 9223372036854775807 := by rw [← enxs_length a0.a]; exact hl7.2.2.2.2.2.2.2.1
  refine AW.lpw (fun x : Nat × Int × Nat => [(1, .ptr 0 0), (3, .int .i64 x.2.1), (4, .int .i64 (x.2.2 : Int))]) (fun x => [(0, .box 44 [.str a0.op, .int .i64 a0.v.kind, .int .i64 a0.v.i, .bool a0.v.b, .str a0.v.s, .sl .ro 5 (encs a0.v.t), .int .i64 a0.n, .sl .ro 8 (enxs a0.a)])]) (fun x => s_f57_l1 x.1 a0 x.2.1 x.2.2 = some r ∧ x.1 ≤ n) (fun x => x.1) (n, 1, 0) ⟨(fun _ h => by cases h), fmc ⟨⟨⟨_, rfl, Wv.refl _⟩, (by simp)⟩, fmc ⟨⟨⟨_, rfl, Wv.refl _⟩, (by simp)⟩, fmc ⟨⟨⟨_, rfl, Wv.refl _⟩, (by simp)⟩, (fun _ h => by cases h)⟩⟩⟩, fmc ⟨⟨⟨_, rfl, ⟨rfl, ⟨Wv.refl _, Wv.refl _, Wv.refl _, Wv.refl _, Wv.refl _, Wv.refl _, Wv.refl _, Wv.refl _, trivial⟩⟩⟩, (by simp)⟩, (fun _ h => by cases h)⟩⟩ ⟨hr, Nat.le_refl _⟩ (fun ⟨m, v1_1, v1_2⟩ hx => ?_)
  obtain ⟨hr, hm⟩ := hx
  try dsimp only at hr hm
  cases m with
  | zero => rw [s_f57_l1] at hr; cases hr
  | succ m =>
   rw [s_f57_l1] at hr
   show AW Tryz.prog _ _ _ (mkS 21 [(1, .ptr 0 0), (3, .int .i64 v1_1), (4, .int .i64 (v1_2 : Int))] [(0, .box 44 [.str a0.op, .int .i64 a0.v.kind, .int .i64 a0.v.i, .bool a0.v.b, .str a0.v.s, .sl .ro 5 (encs a0.v.t), .int .i64 a0.n, .sl .ro 8 (enxs a0.a)])])
   refine AW.seq ?_
   refine AW.seq (Rg ?_)
   refine Av (.int .i64 (v1_2 : Int)) rfl ?_
   refine Av (.ptr 0 7) rfl ?_
   refine Av (.sl .ro 8 (enxs a0.a)) rfl ?_
   refine AL.ln good (d := 8) (m := a0.a.length) rfl rfl rfl rfl rfl rfl (enxs_length _) ?_
   refine Av (.bool (decide ((v1_2 : Int) < (a0.a.length : Int)))) rfl ?_
   refine AW.if rfl (fun h8 => ?_) (fun h8 => ?_)
   ·replace hr := cnd_t h8 hr
    refine AW.skip ?_
    refine AW.seq ?_
    refine AW.block ?_
    refine Rg ?_
    refine Av (.int .i64 v1_1) rfl ?_
    refine Av (.ptr 0 7) rfl ?_
    refine Av (.sl .ro 8 (enxs a0.a)) rfl ?_
    refine Av (.int .i64 (v1_2 : Int)) rfl ?_
    obtain ⟨x9, h10, hr⟩ := bnd1 hr
    refine AL.ix good (d := 16) (r := [.str x9.op, .int .i64 x9.v.kind, .int .i64 x9.v.i, .bool x9.v.b, .str x9.v.s, .sl .ro 5 (encs x9.v.t), .int .i64 x9.n, .sl .ro 8 (enxs x9.a)]) rfl rfl rfl rfl rfl rfl rfl (Int.natCast_nonneg _) (enxs_get h10) ?_
    refine Av (.agg [.str x9.op, .int .i64 x9.v.kind, .int .i64 x9.v.i, .bool x9.v.b, .str x9.v.s, .sl .ro 5 (encs x9.v.t), .int .i64 x9.n, .sl .ro 8 (enxs x9.a)]) rfl ?_
    obtain ⟨q11, h12, hr⟩ := bnd1 hr
    refine AL.cw good (d := 18) (xs := [.agg (exC x9)]) (res := .int .i64 q11) rfl rfl rfl rfl rfl rfl rfl (ih _ _ _ h12 (by omega)) ⟨(Wv.refl _), trivial⟩ (by simp) ?_
    refine Av (.int .i64 (IntKind.i64.wrap (v1_1 + q11))) rfl ?_
    refine Av (.int .i64 (IntKind.i64.wrap (v1_1 + q11))) rfl ?_
    refine Rg ?_
    refine Av (.int .i64 (v1_2 : Int)) rfl ?_
    refine Av (.int .i64 (IntKind.i64.wrap ((v1_2 : Int) + 1))) rfl ?_
    refine Av (.int .i64 (IntKind.i64.wrap ((v1_2 : Int) + 1))) rfl ?_
    exact ⟨(m, (IntKind.i64.wrap (v1_1 + q11)), (v1_2 + 1)), _, _, rfl, ⟨(fun _ h => by cases h), fmc ⟨⟨⟨_, rfl, Wv.refl _⟩, (by simp)⟩, fmc ⟨⟨⟨_, rfl, Wv.refl _⟩, (by simp)⟩, fmc ⟨⟨⟨_, rfl, (wnx h8 hl7)⟩, (by simp)⟩, (fun _ h => by cases h)⟩⟩⟩, fmc ⟨⟨⟨_, rfl, ⟨rfl, ⟨Wv.refl _, Wv.refl _, Wv.refl _, Wv.refl _, Wv.refl _, Wv.refl _, Wv.refl _, Wv.refl _, trivial⟩⟩⟩, (by simp)⟩, (fun _ h => by cases h)⟩⟩, ⟨hr, Nat.le_of_succ_le hm⟩, Nat.lt_succ_self _⟩
   ·replace hr := cnd_f h8 hr
    refine AW.exit ?_
    refine AW.seq (Rg ?_)
    refine Av (.int .i64 v1_1) rfl ?_
    refine Av (.int .i64 v1_1) rfl ?_
    refine AW.ret ?_
    obtain rfl := Option.some.inj hr
    exact RetQ.w good (.inr rfl) rfl rfl (Wv.refl _) (by simp)
theorem w_f57 (n : Nat) : ∀ (a0 : Ex) (r : Int) (hr : s_f57 n a0 = some r), ACall Tryz.prog 49 [.agg (exC a0)] (.int .i64 r) := by
 induction n using Nat.strongRecOn with
 | _ n ih =>
  intro a0 r hr
  exact w_f57_a n (fun m a0 r h hm => ih m hm a0 r h) a0 r hr

mutual
def s_f65 : Nat → Ty → Ty → Option Bool
  | 0, _, _ => none
  | n + 1, a0, a1 => (bif ((a0.kind != a1.kind) || ((a0.of.length : Int) != (a1.of.length : Int))) then some false else (s_f65_l1 n a0 a1 0))
def s_f65_l1 : Nat → Ty → Ty → Nat → Option Bool
  | 0, _, _, _ => none
  | n + 1, a0, a1, v1_1 => (bif (decide ((v1_1 : Int) < (a0.of.length : Int))) then ((a0.of[v1_1]?).bind fun x16 => ((a1.of[v1_1]?).bind fun x18 => ((s_f65 n x16 x18).bind fun q20 => (bif (!q20) then some false else (s_f65_l1 n a0 a1 (v1_1 + 1)))))) else some true)
end

theorem w_f65_a (n : Nat) (ih : ∀ (m : Nat) (a0 : Ty) (a1 : Ty) (r : Bool), s_f65 m a0 a1 = some r → m < n → ACall Tryz.prog 51 [.agg (tyC a0), .agg (tyC a1)] (.bool r)) (a0 : Ty) (a1 : Ty) (r : Bool) (hr : s_f65 n a0 a1 = some r) : ACall Tryz.prog 51 [.agg (tyC a0), .agg (tyC a1)] (.bool r) := by
 refine ACall.go [(0, .agg (tyC a0)), (1, .agg (tyC a1))] Tryz.func51 rfl Tryz.ntmps51 rfl rfl (by simp) ?_
 cases n with
 | zero => rw [s_f65] at hr; cases hr
 | succ n =>
  rw [s_f65] at hr
  refine AW.seq (Rg ?_)
  refine AL.bx good (d := 2) (l := [.int .i64 a0.kind, .sl .ro 2 (enys a0.of)]) rfl rfl rfl rfl rfl rfl 0 rfl ?_
  refine AL.bx good (d := 3) (l := [.int .i64 a1.kind, .sl .ro 2 (enys a1.of)]) rfl rfl rfl rfl rfl rfl 1 rfl ?_
  refine Av (.bool false) rfl ?_
  refine AW.seq ?_
  refine AW.seq (Rg ?_)
  refine Av (.ptr 0 0) rfl ?_
  refine Av (.int .i64 a0.kind) rfl ?_
  refine Av (.ptr 1 0) rfl ?_
  refine Av (.int .i64 a1.kind) rfl ?_
  refine Av (.bool (a0.kind != a1.kind)) rfl ?_
  refine AL.vb good (d := 11) (b := (a0.kind != a1.kind)) rfl rfl rfl rfl (fun g1 h2 => ?_)
  refine Gv ((!g1)) (.ptr 0 1) rfl (by cases g1 <;> exact ⟨rfl, fun h => by first | rfl | cases h⟩) ?_
  refine Gv ((!g1)) (.sl .ro 2 (enys a0.of)) rfl (by cases g1 <;> exact ⟨rfl, fun h => by first | rfl | cases h⟩) ?_
  refine AL.gln good (d := 14) (c := (!g1)) (m := a0.of.length) rfl rfl (by cases g1 <;> rfl) rfl rfl (fun h => by cases g1 <;> first | rfl | exact absurd h (by decide)) (enys_length _) ?_
  refine Gv ((!g1)) (.ptr 1 1) rfl (by cases g1 <;> exact ⟨rfl, fun h => by first | rfl | cases h⟩) ?_
  refine Gv ((!g1)) (.sl .ro 2 (enys a1.of)) rfl (by cases g1 <;> exact ⟨rfl, fun h => by first | rfl | cases h⟩) ?_
  refine AL.gln good (d := 17) (c := (!g1)) (m := a1.of.length) rfl rfl (by cases g1 <;> rfl) rfl rfl (fun h => by cases g1 <;> first | rfl | exact absurd h (by decide)) (enys_length _) ?_
  refine Gv ((!g1)) (.bool ((a0.of.length : Int) != (a1.of.length : Int))) rfl (by cases g1 <;> exact ⟨rfl, fun h => by first | rfl | cases h⟩) ?_
  refine AL.v good (d := 19) (v := .bool (g1 || ((a0.of.length : Int) != (a1.of.length : Int)))) (rd := []) rfl rfl rfl (by cases g1 <;> rfl) ?_
  subst h2
  refine AW.if rfl (fun h3 => ?_) (fun h3 => ?_)
  ·replace hr := cnd_t h3 hr
   refine AW.seq (Rg ?_)
   refine Av (.bool false) rfl ?_
   refine AW.ret ?_
   obtain rfl := Option.some.inj hr
   exact RetQ.w good (.inr rfl) rfl rfl (Wv.refl _) (by simp)
  ·replace hr := cnd_f h3 hr
   refine AW.skip ?_
   refine AW.seq ?_
   refine AW.seq (Rg ?_)
   refine Av (.int .i64 0) rfl ?_
   refine AW.block ?_
   refine AW.lensB 0 rfl (fun hl14 => ?_)
   replace hl14 : a0.of.length ≤ 9223372036854775807 := by rw [← enys_length a0.of]; exact hl14.2.1
   refine AW.lpw (fun x : Nat × Nat => [(2, .ptr 0 0), (3, .ptr 1 0), (5, .int .i64 (x.2 : Int))]) (fun x => [(0, .box 38 [.int .i64 a0.kind, .sl .ro 2 (enys a0.of)]), (1, .box 38 [.int .i64 a1.kind, .sl .ro 2 (enys a1.of)])]) (fun x => s_f65_l1 x.1 a0 a1 x.2 = some r ∧ x.1 ≤ n) (fun x => x.1) (n, 0) ⟨(fun _ h => by cases h), fmc ⟨⟨⟨_, rfl, Wv.refl _⟩, (by simp)⟩, fmc ⟨⟨⟨_, rfl, Wv.refl _⟩, (by simp)⟩, fmc ⟨⟨⟨_, rfl, Wv.refl _⟩, (by simp)⟩, (fun _ h => by cases h)⟩⟩⟩, fmc ⟨⟨⟨_, rfl, ⟨rfl, ⟨Wv.refl _, Wv.refl _, trivial⟩⟩⟩, (by simp)⟩, fmc ⟨⟨⟨_, rfl, ⟨rfl, ⟨Wv.refl _, Wv.refl _, trivial⟩⟩⟩, (by simp)⟩, (fun _ h => by cases h)⟩⟩⟩ ⟨hr, Nat.le_refl _⟩ (fun ⟨m, v1_1⟩ hx => ?_)
   obtain ⟨hr, hm⟩ := hx
   try dsimp only at hr hm
   cases m with
   | zero => rw [s_f65_l1] at hr; cases hr
   | succ m =>
    rw [s_f65_l1] at hr
    show AW Tryz.prog _ _ _ (mkS 39 [(2, .ptr 0 0), (3, .ptr 1 0), (5, .int .i64 (v1_1 : Int))] [(0, .box 38 [.int .i64 a0.kind, .sl .ro 2 (enys a0.of)]), (1, .box 38 [.int .i64 a1.kind, .sl .ro 2 (enys a1.of)])])
    refine AW.seq ?_
    refine AW.seq (Rg ?_)
    refine Av (.int .i64 (v1_1 : Int)) rfl ?_
    refine Av (.ptr 0 1) rfl ?_
    refine Av (.sl .ro 2 (enys a0.of)) rfl ?_
    refine AL.ln good (d := 23) (m := a0.of.length) rfl rfl rfl rfl rfl rfl (enys_length _) ?_
    refine Av (.bool (decide ((v1_1 : Int) < (a0.of.length : Int)))) rfl ?_
    refine AW.if rfl (fun h15 => ?_) (fun h15 => ?_)
    ·replace hr := cnd_t h15 hr
     refine AW.skip ?_
     refine AW.seq ?_
     refine AW.block ?_
     refine AW.seq ?_
     refine AW.draw (M := fun i => false) good.wide (by kernel_rfl) ?_
     refine Av (.ptr 0 1) rfl ?_
     refine Av (.sl .ro 2 (enys a0.of)) rfl ?_
     refine Av (.int .i64 (v1_1 : Int)) rfl ?_
     obtain ⟨x16, h17, hr⟩ := bnd1 hr
     refine AL.ix good (d := 30) (r := [.int .i64 x16.kind, .sl .ro 2 (enys x16.of)]) rfl rfl rfl rfl rfl rfl rfl (Int.natCast_nonneg _) (enys_get h17) ?_
     refine Av (.agg [.int .i64 x16.kind, .sl .ro 2 (enys x16.of)]) rfl ?_
     refine Av (.ptr 1 1) rfl ?_
     refine Av (.sl .ro 2 (enys a1.of)) rfl ?_
     refine Av (.int .i64 (v1_1 : Int)) rfl ?_
     obtain ⟨x18, h19, hr⟩ := bnd1 hr
     refine AL.ix good (d := 35) (r := [.int .i64 x18.kind, .sl .ro 2 (enys x18.of)]) rfl rfl rfl rfl rfl rfl rfl (Int.natCast_nonneg _) (enys_get h19) ?_
     refine Av (.agg [.int .i64 x18.kind, .sl .ro 2 (enys x18.of)]) rfl ?_
     obtain ⟨q20, h21, hr⟩ := bnd1 hr
     refine AL.cw good (d := 37) (xs := [.agg (tyC x16), .agg (tyC x18)]) (res := .bool q20) rfl rfl rfl rfl rfl rfl rfl (ih _ _ _ _ h21 (by omega)) ⟨(Wv.refl _), (Wv.refl _), trivial⟩ (by simp) ?_
     refine Av (.bool (!q20)) rfl ?_
     refine AW.if rfl (fun h22 => ?_) (fun h22 => ?_)
     ·replace hr := cnd_t h22 hr
      refine AW.seq (Rg ?_)
      refine Av (.bool false) rfl ?_
      refine AW.ret ?_
      obtain rfl := Option.some.inj hr
      exact RetQ.w good (.inr rfl) rfl rfl (Wv.refl _) (by simp)
     ·replace hr := cnd_f h22 hr
      refine AW.skip ?_
      refine Rg ?_
      refine Av (.int .i64 (v1_1 : Int)) rfl ?_
      refine Av (.int .i64 (IntKind.i64.wrap ((v1_1 : Int) + 1))) rfl ?_
      refine Av (.int .i64 (IntKind.i64.wrap ((v1_1 : Int) + 1))) rfl ?_
      exact ⟨(m, (v1_1 + 1)), _, _, rfl, ⟨(fun _ h => by cases h), fmc ⟨⟨⟨_, rfl, Wv.refl _⟩, (by simp)⟩, fmc ⟨⟨⟨_, rfl, Wv.refl _⟩, (by simp)⟩, fmc ⟨⟨⟨_, rfl, (wnx h15 hl14)⟩, (by simp)⟩, (fun _ h => by cases h)⟩⟩⟩, fmc ⟨⟨⟨_, rfl, ⟨rfl, ⟨Wv.refl _, Wv.refl _, trivial⟩⟩⟩, (by simp)⟩, fmc ⟨⟨⟨_, rfl, ⟨rfl, ⟨Wv.refl _, Wv.refl _, trivial⟩⟩⟩, (by simp)⟩, (fun _ h => by cases h)⟩⟩⟩, ⟨hr, Nat.le_of_succ_le hm⟩, Nat.lt_succ_self _⟩
    ·replace hr := cnd_f h15 hr
     refine AW.exit ?_
     refine AW.seq (Rg ?_)
     refine Av (.bool true) rfl ?_
     refine AW.ret ?_
     obtain rfl := Option.some.inj hr
     exact RetQ.w good (.inr rfl) rfl rfl (Wv.refl _) (by simp)
theorem w_f65 (n : Nat) : ∀ (a0 : Ty) (a1 : Ty) (r : Bool) (hr : s_f65 n a0 a1 = some r), ACall Tryz.prog 51 [.agg (tyC a0), .agg (tyC a1)] (.bool r) := by
 induction n using Nat.strongRecOn with
 | _ n ih =>
  intro a0 a1 r hr
  exact w_f65_a n (fun m a0 a1 r h hm => ih m hm a0 a1 r h) a0 a1 r hr

mutual
def s_f94_j4 : Nat → ByteArray → Int → (List Ty) → Bool → Option (Ty × Int)
  | 0, _, _, _, _ => none
  | n + 1, a0, a1, a2, w4_1 => (bif w4_1 then (s_f94_j1 n a0 a1 a2 2 2) else (bif (a0.data.toList == [99, 97, 116]) then (s_f94_j1 n a0 a1 a2 3 3) else (bif (a0.data.toList == [108, 101, 110]) then (s_f94_j1 n a0 a1 a2 3 1) else (s_f94_j1 n a0 a1 a2 0 0))))
def s_f94_j3 : Nat → ByteArray → Int → (List Ty) → Bool → Option (Ty × Int)
  | 0, _, _, _, _ => none
  | n + 1, a0, a1, a2, w3_1 => (bif w3_1 then (s_f94_j1 n a0 a1 a2 1 1) else (bif (a0.data.toList == [110, 111, 116]) then (s_f94_j4 n a0 a1 a2 (a0.data.toList == [110, 111, 116])) else (bif (a0.data.toList == [97, 110, 100]) then (s_f94_j4 n a0 a1 a2 (a0.data.toList == [97, 110, 100])) else (s_f94_j4 n a0 a1 a2 (a0.data.toList == [111, 114])))))
def s_f94_j2 : Nat → ByteArray → Int → (List Ty) → Bool → Option (Ty × Int)
  | 0, _, _, _, _ => none
  | n + 1, a0, a1, a2, w2_1 => (bif w2_1 then ((a2[0]?).bind fun x20 => ((a2[1]?).bind fun x22 => ((s_f65 n x20 x22).bind fun q24 => (bif (!q24) then some ((Ty.mk 0 []), 5) else some ((Ty.mk 2 []), 0))))) else (bif (a0.data.toList == [105, 102]) then ((a2[0]?).bind fun x28 => (bif (x28.kind != 2) then some ((Ty.mk 0 []), 5) else ((a2[1]?).bind fun x31 => ((a2[2]?).bind fun x33 => ((s_f65 n x31 x33).bind fun q35 => (bif (!q35) then some ((Ty.mk 0 []), 5) else ((a2[1]?).bind fun x38 => some (x38, 0)))))))) else (bif (a0.data.toList == [110, 101, 103]) then (s_f94_j3 n a0 a1 a2 (a0.data.toList == [110, 101, 103])) else (bif (a0.data.toList == [97, 100, 100]) then (s_f94_j3 n a0 a1 a2 (a0.data.toList == [97, 100, 100])) else (bif (a0.data.toList == [115, 117, 98]) then (s_f94_j3 n a0 a1 a2 (a0.data.toList == [115, 117, 98])) else (bif (a0.data.toList == [109, 117, 108]) then (s_f94_j3 n a0 a1 a2 (a0.data.toList == [109, 117, 108])) else (bif (a0.data.toList == [100, 105, 118]) then (s_f94_j3 n a0 a1 a2 (a0.data.toList == [100, 105, 118])) else (s_f94_j3 n a0 a1 a2 (a0.data.toList == [114, 101, 109])))))))))
def s_f94_l5 : Nat → (List Ty) → Int → Int → Nat → Option (Ty × Int)
  | 0, _, _, _, _ => none
  | n + 1, a2, w1_1, w1_2, v5_1 => (bif (decide ((v5_1 : Int) < (a2.length : Int))) then ((a2[v5_1]?).bind fun x58 => (bif (x58.kind != w1_1) then some ((Ty.mk 0 []), 5) else (s_f94_l5 n a2 w1_1 w1_2 (v5_1 + 1)))) else some ((Ty.mk w1_2 []), 0))
def s_f94_j1 : Nat → ByteArray → Int → (List Ty) → Int → Int → Option (Ty × Int)
  | 0, _, _, _, _, _ => none
  | n + 1, a0, a1, a2, w1_1, w1_2 => (s_f94_l5 n a2 w1_1 w1_2 0)
end
def s_f94 (n : Nat) (a0 : ByteArray) (a1 : Int) (a2 : List Ty) : Option (Ty × Int) :=
  (bif (a0.data.toList == [97, 116]) then ((a2[0]?).bind fun x2 => (bif (x2.kind != 4) then some ((Ty.mk 0 []), 5) else (bif (decide (a1 < 0)) then some ((Ty.mk 0 []), 1) else ((a2[0]?).bind fun x6 => (bif (decide (a1 ≥ (x6.of.length : Int))) then some ((Ty.mk 0 []), 1) else ((a2[0]?).bind fun x9 => (if 0 ≤ a1 then ((x9.of[a1.toNat]?).bind fun x11 => some (x11, 0)) else none))))))) else (bif (a0.data.toList == [116, 117, 112]) then ((s_f56 n (Ty.mk 4 a2)).bind fun q15 => (bif (q15 != 0) then some ((Ty.mk 0 []), 9) else some ((Ty.mk 4 a2), 0))) else (bif (a0.data.toList == [101, 113]) then (s_f94_j2 n a0 a1 a2 (a0.data.toList == [101, 113])) else (s_f94_j2 n a0 a1 a2 (a0.data.toList == [108, 116])))))

theorem w_f94 (n : Nat) (a0 : ByteArray) (a1 : Int) (a2 : List Ty) (r : Ty × Int) (hr : s_f94 n a0 a1 a2 = some r) : ACall Tryz.prog 66 [.str a0, .int .i64 a1, .sl .ro 2 (enys a2)] (.tup [.agg (tyC r.1), .int .i64 r.2]) := by
 refine ACall.go [(0, .str a0), (1, .int .i64 a1), (2, .sl .ro 2 (enys a2))] Tryz.func66 rfl Tryz.ntmps66 rfl rfl (by simp) ?_
 rw [s_f94] at hr
 refine AW.seq (Rg ?_)
 refine AL.alc good (d := 6) rfl rfl rfl rfl rfl 0 rfl ?_
 refine Av (.int .i64 0) rfl ?_
 refine AW.seq (Rg ?_)
 refine Av (.int .i64 0) rfl ?_
 refine AW.seq (Rg ?_)
 refine Av (.int .i64 0) rfl ?_
 refine AW.sj (n := 114) (fun z : Nat × Int × Int => [(2, .sl .ro 2 (enys a2)), (6, .ptr 0 0), (8, .int .i64 z.2.1), (9, .int .i64 z.2.2)]) (fun z => [(0, .box 38 [.int .i64 0, .sl .nil 0 []])]) (fun z => s_f94_j1 z.1 a0 a1 a2 z.2.1 z.2.2 = some r ∧ z.1 ≤ n) ?_ ?_
 ·skip
  refine AW.seq (Rg ?_)
  refine Av (.str a0) rfl ?_
  refine AW.block ?_
  refine AW.seq (Rg ?_)
  refine AL.sb good (d := 14) (b := (a0.data.toList == [97, 116])) rfl rfl rfl rfl rfl rfl rfl ?_
  refine Av (.bool (a0.data.toList == [97, 116])) rfl ?_
  refine AW.if rfl (fun h1 => ?_) (fun h1 => ?_)
  ·replace hr := cnd_t h1 hr
   refine AW.seq ?_
   refine AW.seq (Rg ?_)
   refine Av (.sl .ro 2 (enys a2)) rfl ?_
   obtain ⟨x2, h3, hr⟩ := bnd1 hr
   refine AL.ix good (d := 16) (r := [.int .i64 x2.kind, .sl .ro 2 (enys x2.of)]) rfl rfl rfl rfl rfl rfl rfl (by decide) (enys_get h3) ?_
   refine Av (.ep [.int .i64 x2.kind, .sl .ro 2 (enys x2.of)]) rfl ?_
   refine Av (.int .i64 x2.kind) rfl ?_
   refine Av (.bool (x2.kind != 4)) rfl ?_
   refine AW.if rfl (fun h4 => ?_) (fun h4 => ?_)
   ·replace hr := cnd_t h4 hr
    refine AW.seq (Rg ?_)
    refine AL.bld good (d := 20) (l := [.int .i64 0, .sl .nil 0 []]) rfl rfl rfl rfl rfl rfl rfl ?_
    refine AL.st2 good (c2 := [.int .i64 0, .sl .nil 0 []]) rfl rfl rfl rfl rfl rfl rfl rfl rfl rfl rfl rfl ?_
    refine Av (.int .i64 5) rfl ?_
    refine AW.ret ?_
    obtain rfl := Option.some.inj hr
    exact RetQ.w good (.inr rfl) rfl rfl ⟨⟨Wv.refl _, ⟨.inr rfl, trivial, .inr rfl⟩, trivial⟩, Wv.refl _, trivial⟩ (by simp)
   ·replace hr := cnd_f h4 hr
    refine AW.skip ?_
    refine AW.seq ?_
    refine AW.seq (Rg ?_)
    refine Av (.int .i64 a1) rfl ?_
    refine Av (.bool (decide (a1 < 0))) rfl ?_
    refine Av (.bool (decide (a1 < 0))) rfl ?_
    refine AL.cs 23 rfl (fun h5 => ?_) (fun h5 => ?_)
    ·replace hr := cnd_t h5 hr
     refine AL.sk good (d := 24) rfl rfl rfl ?_
     refine AL.sk good (d := 25) rfl rfl rfl ?_
     refine AL.sk good (d := 26) rfl rfl rfl ?_
     refine AL.sk good (d := 27) rfl rfl rfl ?_
     refine AL.sk good (d := 28) rfl rfl rfl ?_
     refine AL.sk good (d := 29) rfl rfl rfl ?_
     refine AL.sk good (d := 30) rfl rfl rfl ?_
     refine Av (.bool true) rfl ?_
     refine AW.if rfl (fun h => ?_) (fun h => by cases h)
     refine AW.seq (Rg ?_)
     refine AL.bld good (d := 32) (l := [.int .i64 0, .sl .nil 0 []]) rfl rfl rfl rfl rfl rfl rfl ?_
     refine AL.st2 good (c2 := [.int .i64 0, .sl .nil 0 []]) rfl rfl rfl rfl rfl rfl rfl rfl rfl rfl rfl rfl ?_
     refine Av (.int .i64 1) rfl ?_
     refine AW.ret ?_
     obtain rfl := Option.some.inj hr
     exact RetQ.w good (.inr rfl) rfl rfl ⟨⟨Wv.refl _, ⟨.inr rfl, trivial, .inr rfl⟩, trivial⟩, Wv.refl _, trivial⟩ (by simp)
    ·replace hr := cnd_f h5 hr
     refine Av (.int .i64 a1) rfl ?_
     refine Av (.sl .ro 2 (enys a2)) rfl ?_
     obtain ⟨x6, h7, hr⟩ := bnd1 hr
     refine AL.ix good (d := 26) (r := [.int .i64 x6.kind, .sl .ro 2 (enys x6.of)]) rfl rfl rfl rfl rfl rfl rfl (by decide) (enys_get h7) ?_
     refine Av (.ep [.sl .ro 2 (enys x6.of)]) rfl ?_
     refine Av (.sl .ro 2 (enys x6.of)) rfl ?_
     refine AL.ln good (d := 29) (m := x6.of.length) rfl rfl rfl rfl rfl rfl (enys_length _) ?_
     refine Av (.bool (decide (a1 ≥ (x6.of.length : Int)))) rfl ?_
     refine Av (.bool (decide (a1 ≥ (x6.of.length : Int)))) rfl ?_
     refine AW.if rfl (fun h8 => ?_) (fun h8 => ?_)
     ·replace hr := cnd_t h8 hr
      refine AW.seq (Rg ?_)
      refine AL.bld good (d := 32) (l := [.int .i64 0, .sl .nil 0 []]) rfl rfl rfl rfl rfl rfl rfl ?_
      refine AL.st2 good (c2 := [.int .i64 0, .sl .nil 0 []]) rfl rfl rfl rfl rfl rfl rfl rfl rfl rfl rfl rfl ?_
      refine Av (.int .i64 1) rfl ?_
      refine AW.ret ?_
      obtain rfl := Option.some.inj hr
      exact RetQ.w good (.inr rfl) rfl rfl ⟨⟨Wv.refl _, ⟨.inr rfl, trivial, .inr rfl⟩, trivial⟩, Wv.refl _, trivial⟩ (by simp)
     ·replace hr := cnd_f h8 hr
      refine AW.skip ?_
      refine AW.seq (Rg ?_)
      refine Av (.sl .ro 2 (enys a2)) rfl ?_
      obtain ⟨x9, h10, hr⟩ := bnd1 hr
      refine AL.ix good (d := 34) (r := [.int .i64 x9.kind, .sl .ro 2 (enys x9.of)]) rfl rfl rfl rfl rfl rfl rfl (by decide) (enys_get h10) ?_
      refine Av (.ep [.sl .ro 2 (enys x9.of)]) rfl ?_
      refine Av (.sl .ro 2 (enys x9.of)) rfl ?_
      refine Av (.int .i64 a1) rfl ?_
      obtain ⟨h13, hr⟩ := grd hr
      obtain ⟨x11, h12, hr⟩ := bnd1 hr
      refine AL.ix good (d := 38) (r := [.int .i64 x11.kind, .sl .ro 2 (enys x11.of)]) rfl rfl rfl rfl rfl rfl rfl h13 (enys_get h12) ?_
      refine Av (.agg [.int .i64 x11.kind, .sl .ro 2 (enys x11.of)]) rfl ?_
      refine AL.st2 good (c2 := [.int .i64 x11.kind, .sl .ro 2 (enys x11.of)]) rfl rfl rfl rfl rfl rfl rfl rfl rfl rfl rfl rfl ?_
      refine Av (.int .i64 0) rfl ?_
      refine AW.ret ?_
      obtain rfl := Option.some.inj hr
      exact RetQ.w good (.inr rfl) rfl rfl (Wv.refl _) (by simp)
  ·replace hr := cnd_f h1 hr
   refine AW.seq (Rg ?_)
   refine AL.sb good (d := 41) (b := (a0.data.toList == [116, 117, 112])) rfl rfl rfl rfl rfl rfl rfl ?_
   refine Av (.bool (a0.data.toList == [116, 117, 112])) rfl ?_
   refine AW.if rfl (fun h14 => ?_) (fun h14 => ?_)
   ·replace hr := cnd_t h14 hr
    refine AW.seq (Rg ?_)
    refine Av (.sl .ro 2 (enys a2)) rfl ?_
    refine AL.bld good (d := 43) (l := [.int .i64 4, .sl .ro 2 (enys a2)]) rfl rfl rfl rfl rfl rfl rfl ?_
    refine AL.alc good (d := 10) rfl rfl rfl rfl rfl 1 rfl ?_
    refine AL.st2 good (c2 := [.int .i64 4, .sl .ro 2 (enys a2)]) rfl rfl rfl rfl rfl rfl rfl rfl rfl rfl rfl rfl ?_
    refine AW.seq ?_
    refine AW.seq (Rg ?_)
    refine Av (.agg [.int .i64 4, .sl .ro 2 (enys a2)]) rfl ?_
    obtain ⟨q15, h16, hr⟩ := bnd1 hr
    refine AL.cw good (d := 45) (xs := [.agg (tyC (Ty.mk 4 a2))]) (res := .int .i64 q15) rfl rfl rfl rfl rfl rfl rfl (w_f56 _ _ _ h16) ⟨(Wv.refl _), trivial⟩ (by simp) ?_
    refine Av (.bool (q15 != 0)) rfl ?_
    refine AW.if rfl (fun h17 => ?_) (fun h17 => ?_)
    ·replace hr := cnd_t h17 hr
     refine AW.seq (Rg ?_)
     refine AL.bld good (d := 47) (l := [.int .i64 0, .sl .nil 0 []]) rfl rfl rfl rfl rfl rfl rfl ?_
     refine AL.st2 good (c2 := [.int .i64 0, .sl .nil 0 []]) rfl rfl rfl rfl rfl rfl rfl rfl rfl rfl rfl rfl ?_
     refine Av (.int .i64 9) rfl ?_
     refine AW.ret ?_
     obtain rfl := Option.some.inj hr
     exact RetQ.w good (.inr rfl) rfl rfl ⟨⟨Wv.refl _, ⟨.inr rfl, trivial, .inr rfl⟩, trivial⟩, Wv.refl _, trivial⟩ (by simp)
    ·replace hr := cnd_f h17 hr
     refine AW.skip ?_
     refine AW.seq (Rg ?_)
     refine Av (.agg [.int .i64 4, .sl .ro 2 (enys a2)]) rfl ?_
     refine AL.st2 good (c2 := [.int .i64 4, .sl .ro 2 (enys a2)]) rfl rfl rfl rfl rfl rfl rfl rfl rfl rfl rfl rfl ?_
     refine Av (.int .i64 0) rfl ?_
     refine AW.ret ?_
     obtain rfl := Option.some.inj hr
     exact RetQ.w good (.inr rfl) rfl rfl (Wv.refl _) (by simp)
   ·replace hr := cnd_f h14 hr
    refine AW.sj (n := 114) (fun z : Nat × Bool => [(2, .sl .ro 2 (enys a2)), (6, .ptr 0 0), (8, .int .i64 0), (9, .int .i64 0), (12, .str a0), (49, .bool z.2)]) (fun z => [(0, .box 38 [.int .i64 0, .sl .nil 0 []])]) (fun z => s_f94_j2 z.1 a0 a1 a2 z.2 = some r ∧ z.1 ≤ n) ?_ ?_
    ·skip
     refine AW.seq (Rg ?_)
     refine AL.sb good (d := 50) (b := (a0.data.toList == [101, 113])) rfl rfl rfl rfl rfl rfl rfl ?_
     refine Av (.bool (a0.data.toList == [101, 113])) rfl ?_
     refine AW.if rfl (fun h18 => ?_) (fun h18 => ?_)
     ·replace hr := cnd_t h18 hr
      refine AW.skip ?_
      exact ⟨(n, (a0.data.toList == [101, 113])), _, _, rfl, ⟨(fun _ h => by cases h), fmc ⟨⟨⟨_, rfl, Wv.refl _⟩, (by simp)⟩, fmc ⟨⟨⟨_, rfl, Wv.refl _⟩, (by simp)⟩, fmc ⟨⟨⟨_, rfl, Wv.refl _⟩, (by simp)⟩, fmc ⟨⟨⟨_, rfl, Wv.refl _⟩, (by simp)⟩, fmc ⟨⟨⟨_, rfl, Wv.refl _⟩, (by simp)⟩, fmc ⟨⟨⟨_, rfl, Wv.refl _⟩, (by simp)⟩, (fun _ h => by cases h)⟩⟩⟩⟩⟩⟩, fmc ⟨⟨⟨_, rfl, ⟨rfl, ⟨Wv.refl _, Wv.refl _, trivial⟩⟩⟩, (by simp)⟩, (fun _ h => by cases h)⟩⟩, ⟨hr, by (try dsimp only); omega⟩⟩
     ·replace hr := cnd_f h18 hr
      refine Rg ?_
      refine AL.sb good (d := 51) (b := (a0.data.toList == [108, 116])) rfl rfl rfl rfl rfl rfl rfl ?_
      refine Av (.bool (a0.data.toList == [108, 116])) rfl ?_
      exact ⟨(n, (a0.data.toList == [108, 116])), _, _, rfl, ⟨(fun _ h => by cases h), fmc ⟨⟨⟨_, rfl, Wv.refl _⟩, (by simp)⟩, fmc ⟨⟨⟨_, rfl, Wv.refl _⟩, (by simp)⟩, fmc ⟨⟨⟨_, rfl, Wv.refl _⟩, (by simp)⟩, fmc ⟨⟨⟨_, rfl, Wv.refl _⟩, (by simp)⟩, fmc ⟨⟨⟨_, rfl, Wv.refl _⟩, (by simp)⟩, fmc ⟨⟨⟨_, rfl, Wv.refl _⟩, (by simp)⟩, (fun _ h => by cases h)⟩⟩⟩⟩⟩⟩, fmc ⟨⟨⟨_, rfl, ⟨rfl, ⟨Wv.refl _, Wv.refl _, trivial⟩⟩⟩, (by simp)⟩, (fun _ h => by cases h)⟩⟩, ⟨hr, by (try dsimp only); omega⟩⟩
    ·rintro ⟨m, w2_1⟩ ⟨hr, hm⟩
     try dsimp only at hr hm
     cases m with
     | zero => rw [s_f94_j2] at hr; cases hr
     | succ m =>
      rw [s_f94_j2] at hr
      show AW Tryz.prog _ _ _ (mkS 114 [(2, .sl .ro 2 (enys a2)), (6, .ptr 0 0), (8, .int .i64 0), (9, .int .i64 0), (12, .str a0), (49, .bool w2_1)] [(0, .box 38 [.int .i64 0, .sl .nil 0 []])])
      refine AW.if rfl (fun h19 => ?_) (fun h19 => ?_)
      ·replace hr := cnd_t h19 hr
       refine AW.seq ?_
       refine AW.seq ?_
       refine AW.draw (M := fun i => false) good.wide (by kernel_rfl) ?_
       refine Av (.sl .ro 2 (enys a2)) rfl ?_
       obtain ⟨x20, h21, hr⟩ := bnd1 hr
       refine AL.ix good (d := 53) (r := [.int .i64 x20.kind, .sl .ro 2 (enys x20.of)]) rfl rfl rfl rfl rfl rfl rfl (by decide) (enys_get h21) ?_
       refine Av (.agg [.int .i64 x20.kind, .sl .ro 2 (enys x20.of)]) rfl ?_
       refine Av (.sl .ro 2 (enys a2)) rfl ?_
       obtain ⟨x22, h23, hr⟩ := bnd1 hr
       refine AL.ix good (d := 56) (r := [.int .i64 x22.kind, .sl .ro 2 (enys x22.of)]) rfl rfl rfl rfl rfl rfl rfl (by decide) (enys_get h23) ?_
       refine Av (.agg [.int .i64 x22.kind, .sl .ro 2 (enys x22.of)]) rfl ?_
       obtain ⟨q24, h25, hr⟩ := bnd1 hr
       refine AL.cw good (d := 58) (xs := [.agg (tyC x20), .agg (tyC x22)]) (res := .bool q24) rfl rfl rfl rfl rfl rfl rfl (w_f65 _ _ _ _ h25) ⟨(Wv.refl _), (Wv.refl _), trivial⟩ (by simp) ?_
       refine Av (.bool (!q24)) rfl ?_
       refine AW.if rfl (fun h26 => ?_) (fun h26 => ?_)
       ·replace hr := cnd_t h26 hr
        refine AW.seq (Rg ?_)
        refine AL.bld good (d := 60) (l := [.int .i64 0, .sl .nil 0 []]) rfl rfl rfl rfl rfl rfl rfl ?_
        refine AL.st2 good (c2 := [.int .i64 0, .sl .nil 0 []]) rfl rfl rfl rfl rfl rfl rfl rfl rfl rfl rfl rfl ?_
        refine Av (.int .i64 5) rfl ?_
        refine AW.ret ?_
        obtain rfl := Option.some.inj hr
        exact RetQ.w good (.inr rfl) rfl rfl ⟨⟨Wv.refl _, ⟨.inr rfl, trivial, .inr rfl⟩, trivial⟩, Wv.refl _, trivial⟩ (by simp)
       ·replace hr := cnd_f h26 hr
        refine AW.skip ?_
        refine AW.seq (Rg ?_)
        refine AL.cw good (d := 61) (xs := [.int .i64 2]) (res := .agg [.int .i64 2, .sl .ro 2 (enys [])]) rfl rfl rfl rfl rfl rfl rfl (w_f121 2) ⟨(Wv.refl _), trivial⟩ (by simp) ?_
        refine AL.st2 good (c2 := [.int .i64 2, .sl .ro 2 (enys [])]) rfl rfl rfl rfl rfl rfl rfl rfl rfl rfl rfl rfl ?_
        refine Av (.int .i64 0) rfl ?_
        refine AW.ret ?_
        obtain rfl := Option.some.inj hr
        exact RetQ.w good (.inr rfl) rfl rfl (Wv.refl _) (by simp)
      ·replace hr := cnd_f h19 hr
       refine AW.seq (Rg ?_)
       refine AL.sb good (d := 63) (b := (a0.data.toList == [105, 102])) rfl rfl rfl rfl rfl rfl rfl ?_
       refine Av (.bool (a0.data.toList == [105, 102])) rfl ?_
       refine AW.if rfl (fun h27 => ?_) (fun h27 => ?_)
       ·replace hr := cnd_t h27 hr
        refine AW.seq ?_
        refine AW.seq ?_
        refine AW.draw (M := fun i => false) good.wide (by kernel_rfl) ?_
        refine Av (.sl .ro 2 (enys a2)) rfl ?_
        obtain ⟨x28, h29, hr⟩ := bnd1 hr
        refine AL.ix good (d := 65) (r := [.int .i64 x28.kind, .sl .ro 2 (enys x28.of)]) rfl rfl rfl rfl rfl rfl rfl (by decide) (enys_get h29) ?_
        refine Av (.ep [.int .i64 x28.kind, .sl .ro 2 (enys x28.of)]) rfl ?_
        refine Av (.int .i64 x28.kind) rfl ?_
        refine Av (.bool (x28.kind != 2)) rfl ?_
        refine Av (.bool (x28.kind != 2)) rfl ?_
        refine AL.cs 69 rfl (fun h30 => ?_) (fun h30 => ?_)
        ·replace hr := cnd_t h30 hr
         refine AL.sk good (d := 70) rfl rfl rfl ?_
         refine AL.sk good (d := 71) rfl rfl rfl ?_
         refine AL.sk good (d := 72) rfl rfl rfl ?_
         refine AL.sk good (d := 73) rfl rfl rfl ?_
         refine AL.sk good (d := 74) rfl rfl rfl ?_
         refine AL.sk good (d := 75) rfl rfl rfl ?_
         refine AL.sk good (d := 76) rfl rfl rfl ?_
         refine AL.sk good (d := 77) rfl rfl rfl ?_
         refine Av (.bool true) rfl ?_
         refine AW.if rfl (fun h => ?_) (fun h => by cases h)
         refine AW.seq (Rg ?_)
         refine AL.bld good (d := 79) (l := [.int .i64 0, .sl .nil 0 []]) rfl rfl rfl rfl rfl rfl rfl ?_
         refine AL.st2 good (c2 := [.int .i64 0, .sl .nil 0 []]) rfl rfl rfl rfl rfl rfl rfl rfl rfl rfl rfl rfl ?_
         refine Av (.int .i64 5) rfl ?_
         refine AW.ret ?_
         obtain rfl := Option.some.inj hr
         exact RetQ.w good (.inr rfl) rfl rfl ⟨⟨Wv.refl _, ⟨.inr rfl, trivial, .inr rfl⟩, trivial⟩, Wv.refl _, trivial⟩ (by simp)
        ·replace hr := cnd_f h30 hr
         refine Av (.sl .ro 2 (enys a2)) rfl ?_
         obtain ⟨x31, h32, hr⟩ := bnd1 hr
         refine AL.ix good (d := 71) (r := [.int .i64 x31.kind, .sl .ro 2 (enys x31.of)]) rfl rfl rfl rfl rfl rfl rfl (by decide) (enys_get h32) ?_
         refine Av (.agg [.int .i64 x31.kind, .sl .ro 2 (enys x31.of)]) rfl ?_
         refine Av (.sl .ro 2 (enys a2)) rfl ?_
         obtain ⟨x33, h34, hr⟩ := bnd1 hr
         refine AL.ix good (d := 74) (r := [.int .i64 x33.kind, .sl .ro 2 (enys x33.of)]) rfl rfl rfl rfl rfl rfl rfl (by decide) (enys_get h34) ?_
         refine Av (.agg [.int .i64 x33.kind, .sl .ro 2 (enys x33.of)]) rfl ?_
         obtain ⟨q35, h36, hr⟩ := bnd1 hr
         refine AL.cw good (d := 76) (xs := [.agg (tyC x31), .agg (tyC x33)]) (res := .bool q35) rfl rfl rfl rfl rfl rfl rfl (w_f65 _ _ _ _ h36) ⟨(Wv.refl _), (Wv.refl _), trivial⟩ (by simp) ?_
         refine Av (.bool (!q35)) rfl ?_
         refine Av (.bool (!q35)) rfl ?_
         refine AW.if rfl (fun h37 => ?_) (fun h37 => ?_)
         ·replace hr := cnd_t h37 hr
          refine AW.seq (Rg ?_)
          refine AL.bld good (d := 79) (l := [.int .i64 0, .sl .nil 0 []]) rfl rfl rfl rfl rfl rfl rfl ?_
          refine AL.st2 good (c2 := [.int .i64 0, .sl .nil 0 []]) rfl rfl rfl rfl rfl rfl rfl rfl rfl rfl rfl rfl ?_
          refine Av (.int .i64 5) rfl ?_
          refine AW.ret ?_
          obtain rfl := Option.some.inj hr
          exact RetQ.w good (.inr rfl) rfl rfl ⟨⟨Wv.refl _, ⟨.inr rfl, trivial, .inr rfl⟩, trivial⟩, Wv.refl _, trivial⟩ (by simp)
         ·replace hr := cnd_f h37 hr
          refine AW.skip ?_
          refine AW.seq (Rg ?_)
          refine Av (.sl .ro 2 (enys a2)) rfl ?_
          obtain ⟨x38, h39, hr⟩ := bnd1 hr
          refine AL.ix good (d := 81) (r := [.int .i64 x38.kind, .sl .ro 2 (enys x38.of)]) rfl rfl rfl rfl rfl rfl rfl (by decide) (enys_get h39) ?_
          refine Av (.agg [.int .i64 x38.kind, .sl .ro 2 (enys x38.of)]) rfl ?_
          refine AL.st2 good (c2 := [.int .i64 x38.kind, .sl .ro 2 (enys x38.of)]) rfl rfl rfl rfl rfl rfl rfl rfl rfl rfl rfl rfl ?_
          refine Av (.int .i64 0) rfl ?_
          refine AW.ret ?_
          obtain rfl := Option.some.inj hr
          exact RetQ.w good (.inr rfl) rfl rfl (Wv.refl _) (by simp)
       ·replace hr := cnd_f h27 hr
        refine AW.sj (n := 114) (fun z : Nat × Bool => [(2, .sl .ro 2 (enys a2)), (6, .ptr 0 0), (8, .int .i64 0), (9, .int .i64 0), (12, .str a0), (83, .bool z.2)]) (fun z => [(0, .box 38 [.int .i64 0, .sl .nil 0 []])]) (fun z => s_f94_j3 z.1 a0 a1 a2 z.2 = some r ∧ z.1 ≤ m) ?_ ?_
        ·skip
         refine AW.seq (Rg ?_)
         refine AL.sb good (d := 84) (b := (a0.data.toList == [110, 101, 103])) rfl rfl rfl rfl rfl rfl rfl ?_
         refine Av (.bool (a0.data.toList == [110, 101, 103])) rfl ?_
         refine AW.if rfl (fun h40 => ?_) (fun h40 => ?_)
         ·replace hr := cnd_t h40 hr
          refine AW.skip ?_
          exact ⟨(m, (a0.data.toList == [110, 101, 103])), _, _, rfl, ⟨(fun _ h => by cases h), fmc ⟨⟨⟨_, rfl, Wv.refl _⟩, (by simp)⟩, fmc ⟨⟨⟨_, rfl, Wv.refl _⟩, (by simp)⟩, fmc ⟨⟨⟨_, rfl, Wv.refl _⟩, (by simp)⟩, fmc ⟨⟨⟨_, rfl, Wv.refl _⟩, (by simp)⟩, fmc ⟨⟨⟨_, rfl, Wv.refl _⟩, (by simp)⟩, fmc ⟨⟨⟨_, rfl, Wv.refl _⟩, (by simp)⟩, (fun _ h => by cases h)⟩⟩⟩⟩⟩⟩, fmc ⟨⟨⟨_, rfl, ⟨rfl, ⟨Wv.refl _, Wv.refl _, trivial⟩⟩⟩, (by simp)⟩, (fun _ h => by cases h)⟩⟩, ⟨hr, by (try dsimp only); omega⟩⟩
         ·replace hr := cnd_f h40 hr
          refine AW.seq (Rg ?_)
          refine AL.sb good (d := 85) (b := (a0.data.toList == [97, 100, 100])) rfl rfl rfl rfl rfl rfl rfl ?_
          refine Av (.bool (a0.data.toList == [97, 100, 100])) rfl ?_
          refine AW.if rfl (fun h41 => ?_) (fun h41 => ?_)
          ·replace hr := cnd_t h41 hr
           refine AW.skip ?_
           exact ⟨(m, (a0.data.toList == [97, 100, 100])), _, _, rfl, ⟨(fun _ h => by cases h), fmc ⟨⟨⟨_, rfl, Wv.refl _⟩, (by simp)⟩, fmc ⟨⟨⟨_, rfl, Wv.refl _⟩, (by simp)⟩, fmc ⟨⟨⟨_, rfl, Wv.refl _⟩, (by simp)⟩, fmc ⟨⟨⟨_, rfl, Wv.refl _⟩, (by simp)⟩, fmc ⟨⟨⟨_, rfl, Wv.refl _⟩, (by simp)⟩, fmc ⟨⟨⟨_, rfl, Wv.refl _⟩, (by simp)⟩, (fun _ h => by cases h)⟩⟩⟩⟩⟩⟩, fmc ⟨⟨⟨_, rfl, ⟨rfl, ⟨Wv.refl _, Wv.refl _, trivial⟩⟩⟩, (by simp)⟩, (fun _ h => by cases h)⟩⟩, ⟨hr, by (try dsimp only); omega⟩⟩
          ·replace hr := cnd_f h41 hr
           refine AW.seq (Rg ?_)
           refine AL.sb good (d := 86) (b := (a0.data.toList == [115, 117, 98])) rfl rfl rfl rfl rfl rfl rfl ?_
           refine Av (.bool (a0.data.toList == [115, 117, 98])) rfl ?_
           refine AW.if rfl (fun h42 => ?_) (fun h42 => ?_)
           ·replace hr := cnd_t h42 hr
            refine AW.skip ?_
            exact ⟨(m, (a0.data.toList == [115, 117, 98])), _, _, rfl, ⟨(fun _ h => by cases h), fmc ⟨⟨⟨_, rfl, Wv.refl _⟩, (by simp)⟩, fmc ⟨⟨⟨_, rfl, Wv.refl _⟩, (by simp)⟩, fmc ⟨⟨⟨_, rfl, Wv.refl _⟩, (by simp)⟩, fmc ⟨⟨⟨_, rfl, Wv.refl _⟩, (by simp)⟩, fmc ⟨⟨⟨_, rfl, Wv.refl _⟩, (by simp)⟩, fmc ⟨⟨⟨_, rfl, Wv.refl _⟩, (by simp)⟩, (fun _ h => by cases h)⟩⟩⟩⟩⟩⟩, fmc ⟨⟨⟨_, rfl, ⟨rfl, ⟨Wv.refl _, Wv.refl _, trivial⟩⟩⟩, (by simp)⟩, (fun _ h => by cases h)⟩⟩, ⟨hr, by (try dsimp only); omega⟩⟩
           ·replace hr := cnd_f h42 hr
            refine AW.seq (Rg ?_)
            refine AL.sb good (d := 87) (b := (a0.data.toList == [109, 117, 108])) rfl rfl rfl rfl rfl rfl rfl ?_
            refine Av (.bool (a0.data.toList == [109, 117, 108])) rfl ?_
            refine AW.if rfl (fun h43 => ?_) (fun h43 => ?_)
            ·replace hr := cnd_t h43 hr
             refine AW.skip ?_
             exact ⟨(m, (a0.data.toList == [109, 117, 108])), _, _, rfl, ⟨(fun _ h => by cases h), fmc ⟨⟨⟨_, rfl, Wv.refl _⟩, (by simp)⟩, fmc ⟨⟨⟨_, rfl, Wv.refl _⟩, (by simp)⟩, fmc ⟨⟨⟨_, rfl, Wv.refl _⟩, (by simp)⟩, fmc ⟨⟨⟨_, rfl, Wv.refl _⟩, (by simp)⟩, fmc ⟨⟨⟨_, rfl, Wv.refl _⟩, (by simp)⟩, fmc ⟨⟨⟨_, rfl, Wv.refl _⟩, (by simp)⟩, (fun _ h => by cases h)⟩⟩⟩⟩⟩⟩, fmc ⟨⟨⟨_, rfl, ⟨rfl, ⟨Wv.refl _, Wv.refl _, trivial⟩⟩⟩, (by simp)⟩, (fun _ h => by cases h)⟩⟩, ⟨hr, by (try dsimp only); omega⟩⟩
            ·replace hr := cnd_f h43 hr
             refine AW.seq (Rg ?_)
             refine AL.sb good (d := 88) (b := (a0.data.toList == [100, 105, 118])) rfl rfl rfl rfl rfl rfl rfl ?_
             refine Av (.bool (a0.data.toList == [100, 105, 118])) rfl ?_
             refine AW.if rfl (fun h44 => ?_) (fun h44 => ?_)
             ·replace hr := cnd_t h44 hr
              refine AW.skip ?_
              exact ⟨(m, (a0.data.toList == [100, 105, 118])), _, _, rfl, ⟨(fun _ h => by cases h), fmc ⟨⟨⟨_, rfl, Wv.refl _⟩, (by simp)⟩, fmc ⟨⟨⟨_, rfl, Wv.refl _⟩, (by simp)⟩, fmc ⟨⟨⟨_, rfl, Wv.refl _⟩, (by simp)⟩, fmc ⟨⟨⟨_, rfl, Wv.refl _⟩, (by simp)⟩, fmc ⟨⟨⟨_, rfl, Wv.refl _⟩, (by simp)⟩, fmc ⟨⟨⟨_, rfl, Wv.refl _⟩, (by simp)⟩, (fun _ h => by cases h)⟩⟩⟩⟩⟩⟩, fmc ⟨⟨⟨_, rfl, ⟨rfl, ⟨Wv.refl _, Wv.refl _, trivial⟩⟩⟩, (by simp)⟩, (fun _ h => by cases h)⟩⟩, ⟨hr, by (try dsimp only); omega⟩⟩
             ·replace hr := cnd_f h44 hr
              refine Rg ?_
              refine AL.sb good (d := 89) (b := (a0.data.toList == [114, 101, 109])) rfl rfl rfl rfl rfl rfl rfl ?_
              refine Av (.bool (a0.data.toList == [114, 101, 109])) rfl ?_
              exact ⟨(m, (a0.data.toList == [114, 101, 109])), _, _, rfl, ⟨(fun _ h => by cases h), fmc ⟨⟨⟨_, rfl, Wv.refl _⟩, (by simp)⟩, fmc ⟨⟨⟨_, rfl, Wv.refl _⟩, (by simp)⟩, fmc ⟨⟨⟨_, rfl, Wv.refl _⟩, (by simp)⟩, fmc ⟨⟨⟨_, rfl, Wv.refl _⟩, (by simp)⟩, fmc ⟨⟨⟨_, rfl, Wv.refl _⟩, (by simp)⟩, fmc ⟨⟨⟨_, rfl, Wv.refl _⟩, (by simp)⟩, (fun _ h => by cases h)⟩⟩⟩⟩⟩⟩, fmc ⟨⟨⟨_, rfl, ⟨rfl, ⟨Wv.refl _, Wv.refl _, trivial⟩⟩⟩, (by simp)⟩, (fun _ h => by cases h)⟩⟩, ⟨hr, by (try dsimp only); omega⟩⟩
        ·rintro ⟨m, w3_1⟩ ⟨hr, hm⟩
         try dsimp only at hr hm
         cases m with
         | zero => rw [s_f94_j3] at hr; cases hr
         | succ m =>
          rw [s_f94_j3] at hr
          show AW Tryz.prog _ _ _ (mkS 114 [(2, .sl .ro 2 (enys a2)), (6, .ptr 0 0), (8, .int .i64 0), (9, .int .i64 0), (12, .str a0), (83, .bool w3_1)] [(0, .box 38 [.int .i64 0, .sl .nil 0 []])])
          refine AW.if rfl (fun h45 => ?_) (fun h45 => ?_)
          ·replace hr := cnd_t h45 hr
           refine AW.seq (Rg ?_)
           refine Av (.int .i64 1) rfl ?_
           refine Rg ?_
           refine Av (.int .i64 1) rfl ?_
           exact ⟨(m, 1, 1), _, _, rfl, ⟨(fun _ h => by cases h), fmc ⟨⟨⟨_, rfl, Wv.refl _⟩, (by simp)⟩, fmc ⟨⟨⟨_, rfl, Wv.refl _⟩, (by simp)⟩, fmc ⟨⟨⟨_, rfl, Wv.refl _⟩, (by simp)⟩, fmc ⟨⟨⟨_, rfl, Wv.refl _⟩, (by simp)⟩, (fun _ h => by cases h)⟩⟩⟩⟩, fmc ⟨⟨⟨_, rfl, ⟨rfl, ⟨Wv.refl _, Wv.refl _, trivial⟩⟩⟩, (by simp)⟩, (fun _ h => by cases h)⟩⟩, ⟨hr, by (try dsimp only); omega⟩⟩
          ·replace hr := cnd_f h45 hr
           refine AW.sj (n := 114) (fun z : Nat × Bool => [(2, .sl .ro 2 (enys a2)), (6, .ptr 0 0), (8, .int .i64 0), (9, .int .i64 0), (12, .str a0), (90, .bool z.2)]) (fun z => [(0, .box 38 [.int .i64 0, .sl .nil 0 []])]) (fun z => s_f94_j4 z.1 a0 a1 a2 z.2 = some r ∧ z.1 ≤ m) ?_ ?_
           ·skip
            refine AW.seq (Rg ?_)
            refine AL.sb good (d := 91) (b := (a0.data.toList == [110, 111, 116])) rfl rfl rfl rfl rfl rfl rfl ?_
            refine Av (.bool (a0.data.toList == [110, 111, 116])) rfl ?_
            refine AW.if rfl (fun h46 => ?_) (fun h46 => ?_)
            ·replace hr := cnd_t h46 hr
             refine AW.skip ?_
             exact ⟨(m, (a0.data.toList == [110, 111, 116])), _, _, rfl, ⟨(fun _ h => by cases h), fmc ⟨⟨⟨_, rfl, Wv.refl _⟩, (by simp)⟩, fmc ⟨⟨⟨_, rfl, Wv.refl _⟩, (by simp)⟩, fmc ⟨⟨⟨_, rfl, Wv.refl _⟩, (by simp)⟩, fmc ⟨⟨⟨_, rfl, Wv.refl _⟩, (by simp)⟩, fmc ⟨⟨⟨_, rfl, Wv.refl _⟩, (by simp)⟩, fmc ⟨⟨⟨_, rfl, Wv.refl _⟩, (by simp)⟩, (fun _ h => by cases h)⟩⟩⟩⟩⟩⟩, fmc ⟨⟨⟨_, rfl, ⟨rfl, ⟨Wv.refl _, Wv.refl _, trivial⟩⟩⟩, (by simp)⟩, (fun _ h => by cases h)⟩⟩, ⟨hr, by (try dsimp only); omega⟩⟩
            ·replace hr := cnd_f h46 hr
             refine AW.seq (Rg ?_)
             refine AL.sb good (d := 92) (b := (a0.data.toList == [97, 110, 100])) rfl rfl rfl rfl rfl rfl rfl ?_
             refine Av (.bool (a0.data.toList == [97, 110, 100])) rfl ?_
             refine AW.if rfl (fun h47 => ?_) (fun h47 => ?_)
             ·replace hr := cnd_t h47 hr
              refine AW.skip ?_
              exact ⟨(m, (a0.data.toList == [97, 110, 100])), _, _, rfl, ⟨(fun _ h => by cases h), fmc ⟨⟨⟨_, rfl, Wv.refl _⟩, (by simp)⟩, fmc ⟨⟨⟨_, rfl, Wv.refl _⟩, (by simp)⟩, fmc ⟨⟨⟨_, rfl, Wv.refl _⟩, (by simp)⟩, fmc ⟨⟨⟨_, rfl, Wv.refl _⟩, (by simp)⟩, fmc ⟨⟨⟨_, rfl, Wv.refl _⟩, (by simp)⟩, fmc ⟨⟨⟨_, rfl, Wv.refl _⟩, (by simp)⟩, (fun _ h => by cases h)⟩⟩⟩⟩⟩⟩, fmc ⟨⟨⟨_, rfl, ⟨rfl, ⟨Wv.refl _, Wv.refl _, trivial⟩⟩⟩, (by simp)⟩, (fun _ h => by cases h)⟩⟩, ⟨hr, by (try dsimp only); omega⟩⟩
             ·replace hr := cnd_f h47 hr
              refine Rg ?_
              refine AL.sb good (d := 93) (b := (a0.data.toList == [111, 114])) rfl rfl rfl rfl rfl rfl rfl ?_
              refine Av (.bool (a0.data.toList == [111, 114])) rfl ?_
              exact ⟨(m, (a0.data.toList == [111, 114])), _, _, rfl, ⟨(fun _ h => by cases h), fmc ⟨⟨⟨_, rfl, Wv.refl _⟩, (by simp)⟩, fmc ⟨⟨⟨_, rfl, Wv.refl _⟩, (by simp)⟩, fmc ⟨⟨⟨_, rfl, Wv.refl _⟩, (by simp)⟩, fmc ⟨⟨⟨_, rfl, Wv.refl _⟩, (by simp)⟩, fmc ⟨⟨⟨_, rfl, Wv.refl _⟩, (by simp)⟩, fmc ⟨⟨⟨_, rfl, Wv.refl _⟩, (by simp)⟩, (fun _ h => by cases h)⟩⟩⟩⟩⟩⟩, fmc ⟨⟨⟨_, rfl, ⟨rfl, ⟨Wv.refl _, Wv.refl _, trivial⟩⟩⟩, (by simp)⟩, (fun _ h => by cases h)⟩⟩, ⟨hr, by (try dsimp only); omega⟩⟩
           ·rintro ⟨m, w4_1⟩ ⟨hr, hm⟩
            try dsimp only at hr hm
            cases m with
            | zero => rw [s_f94_j4] at hr; cases hr
            | succ m =>
             rw [s_f94_j4] at hr
             show AW Tryz.prog _ _ _ (mkS 114 [(2, .sl .ro 2 (enys a2)), (6, .ptr 0 0), (8, .int .i64 0), (9, .int .i64 0), (12, .str a0), (90, .bool w4_1)] [(0, .box 38 [.int .i64 0, .sl .nil 0 []])])
             refine AW.if rfl (fun h48 => ?_) (fun h48 => ?_)
             ·replace hr := cnd_t h48 hr
              refine AW.seq (Rg ?_)
              refine Av (.int .i64 2) rfl ?_
              refine Rg ?_
              refine Av (.int .i64 2) rfl ?_
              exact ⟨(m, 2, 2), _, _, rfl, ⟨(fun _ h => by cases h), fmc ⟨⟨⟨_, rfl, Wv.refl _⟩, (by simp)⟩, fmc ⟨⟨⟨_, rfl, Wv.refl _⟩, (by simp)⟩, fmc ⟨⟨⟨_, rfl, Wv.refl _⟩, (by simp)⟩, fmc ⟨⟨⟨_, rfl, Wv.refl _⟩, (by simp)⟩, (fun _ h => by cases h)⟩⟩⟩⟩, fmc ⟨⟨⟨_, rfl, ⟨rfl, ⟨Wv.refl _, Wv.refl _, trivial⟩⟩⟩, (by simp)⟩, (fun _ h => by cases h)⟩⟩, ⟨hr, by (try dsimp only); omega⟩⟩
             ·replace hr := cnd_f h48 hr
              refine AW.seq (Rg ?_)
              refine AL.sb good (d := 95) (b := (a0.data.toList == [99, 97, 116])) rfl rfl rfl rfl rfl rfl rfl ?_
              refine Av (.bool (a0.data.toList == [99, 97, 116])) rfl ?_
              refine AW.if rfl (fun h49 => ?_) (fun h49 => ?_)
              ·replace hr := cnd_t h49 hr
               refine AW.seq (Rg ?_)
               refine Av (.int .i64 3) rfl ?_
               refine Rg ?_
               refine Av (.int .i64 3) rfl ?_
               exact ⟨(m, 3, 3), _, _, rfl, ⟨(fun _ h => by cases h), fmc ⟨⟨⟨_, rfl, Wv.refl _⟩, (by simp)⟩, fmc ⟨⟨⟨_, rfl, Wv.refl _⟩, (by simp)⟩, fmc ⟨⟨⟨_, rfl, Wv.refl _⟩, (by simp)⟩, fmc ⟨⟨⟨_, rfl, Wv.refl _⟩, (by simp)⟩, (fun _ h => by cases h)⟩⟩⟩⟩, fmc ⟨⟨⟨_, rfl, ⟨rfl, ⟨Wv.refl _, Wv.refl _, trivial⟩⟩⟩, (by simp)⟩, (fun _ h => by cases h)⟩⟩, ⟨hr, by (try dsimp only); omega⟩⟩
              ·replace hr := cnd_f h49 hr
               refine AW.seq (Rg ?_)
               refine AL.sb good (d := 97) (b := (a0.data.toList == [108, 101, 110])) rfl rfl rfl rfl rfl rfl rfl ?_
               refine Av (.bool (a0.data.toList == [108, 101, 110])) rfl ?_
               refine AW.if rfl (fun h50 => ?_) (fun h50 => ?_)
               ·replace hr := cnd_t h50 hr
                refine AW.seq (Rg ?_)
                refine Av (.int .i64 3) rfl ?_
                refine Rg ?_
                refine Av (.int .i64 1) rfl ?_
                exact ⟨(m, 3, 1), _, _, rfl, ⟨(fun _ h => by cases h), fmc ⟨⟨⟨_, rfl, Wv.refl _⟩, (by simp)⟩, fmc ⟨⟨⟨_, rfl, Wv.refl _⟩, (by simp)⟩, fmc ⟨⟨⟨_, rfl, Wv.refl _⟩, (by simp)⟩, fmc ⟨⟨⟨_, rfl, Wv.refl _⟩, (by simp)⟩, (fun _ h => by cases h)⟩⟩⟩⟩, fmc ⟨⟨⟨_, rfl, ⟨rfl, ⟨Wv.refl _, Wv.refl _, trivial⟩⟩⟩, (by simp)⟩, (fun _ h => by cases h)⟩⟩, ⟨hr, by (try dsimp only); omega⟩⟩
               ·replace hr := cnd_f h50 hr
                refine AW.skip ?_
                exact ⟨(m, 0, 0), _, _, rfl, ⟨(fun _ h => by cases h), fmc ⟨⟨⟨_, rfl, Wv.refl _⟩, (by simp)⟩, fmc ⟨⟨⟨_, rfl, Wv.refl _⟩, (by simp)⟩, fmc ⟨⟨⟨_, rfl, Wv.refl _⟩, (by simp)⟩, fmc ⟨⟨⟨_, rfl, Wv.refl _⟩, (by simp)⟩, (fun _ h => by cases h)⟩⟩⟩⟩, fmc ⟨⟨⟨_, rfl, ⟨rfl, ⟨Wv.refl _, Wv.refl _, trivial⟩⟩⟩, (by simp)⟩, (fun _ h => by cases h)⟩⟩, ⟨hr, by (try dsimp only); omega⟩⟩
 ·rintro ⟨m, w1_1, w1_2⟩ ⟨hr, hm⟩
  try dsimp only at hr hm
  cases m with
  | zero => rw [s_f94_j1] at hr; cases hr
  | succ m =>
   rw [s_f94_j1] at hr
   show AW Tryz.prog _ _ _ (mkS 114 [(2, .sl .ro 2 (enys a2)), (6, .ptr 0 0), (8, .int .i64 w1_1), (9, .int .i64 w1_2)] [(0, .box 38 [.int .i64 0, .sl .nil 0 []])])
   refine AW.seq ?_
   refine AW.seq (Rg ?_)
   refine Av (.int .i64 0) rfl ?_
   refine AW.block ?_
   refine AW.lens 2 rfl (fun hl56 => ?_)
   replace hl56 : a2.length ≤ 9223372036854775807 := by rw [← enys_length a2]; exact hl56
   refine AW.lpw (fun x : Nat × Nat => [(2, .sl .ro 2 (enys a2)), (6, .ptr 0 0), (8, .int .i64 w1_1), (9, .int .i64 w1_2), (11, .int .i64 (x.2 : Int))]) (fun x => [(0, .box 38 [.int .i64 0, .sl .nil 0 []])]) (fun x => s_f94_l5 x.1 a2 w1_1 w1_2 x.2 = some r ∧ x.1 ≤ m) (fun x => x.1) (m, 0) ⟨(fun _ h => by cases h), fmc ⟨⟨⟨_, rfl, Wv.refl _⟩, (by simp)⟩, fmc ⟨⟨⟨_, rfl, Wv.refl _⟩, (by simp)⟩, fmc ⟨⟨⟨_, rfl, Wv.refl _⟩, (by simp)⟩, fmc ⟨⟨⟨_, rfl, Wv.refl _⟩, (by simp)⟩, fmc ⟨⟨⟨_, rfl, Wv.refl _⟩, (by simp)⟩, (fun _ h => by cases h)⟩⟩⟩⟩⟩, fmc ⟨⟨⟨_, rfl, ⟨rfl, ⟨Wv.refl _, Wv.refl _, trivial⟩⟩⟩, (by simp)⟩, (fun _ h => by cases h)⟩⟩ ⟨hr, Nat.le_refl _⟩ (fun ⟨m, v5_1⟩ hx => ?_)
   obtain ⟨hr, hm⟩ := hx
   try dsimp only at hr hm
   cases m with
   | zero => rw [s_f94_l5] at hr; cases hr
   | succ m =>
    rw [s_f94_l5] at hr
    show AW Tryz.prog _ _ _ (mkS 114 [(2, .sl .ro 2 (enys a2)), (6, .ptr 0 0), (8, .int .i64 w1_1), (9, .int .i64 w1_2), (11, .int .i64 (v5_1 : Int))] [(0, .box 38 [.int .i64 0, .sl .nil 0 []])])
    refine AW.seq ?_
    refine AW.seq (Rg ?_)
    refine Av (.int .i64 (v5_1 : Int)) rfl ?_
    refine Av (.sl .ro 2 (enys a2)) rfl ?_
    refine AL.ln good (d := 100) (m := a2.length) rfl rfl rfl rfl rfl rfl (enys_length _) ?_
    refine Av (.bool (decide ((v5_1 : Int) < (a2.length : Int)))) rfl ?_
    refine AW.if rfl (fun h57 => ?_) (fun h57 => ?_)
    ·replace hr := cnd_t h57 hr
     refine AW.skip ?_
     refine AW.seq ?_
     refine AW.block ?_
     refine AW.seq (Rg ?_)
     refine Av (.sl .ro 2 (enys a2)) rfl ?_
     refine Av (.int .i64 (v5_1 : Int)) rfl ?_
     obtain ⟨x58, h59, hr⟩ := bnd1 hr
     refine AL.ix good (d := 106) (r := [.int .i64 x58.kind, .sl .ro 2 (enys x58.of)]) rfl rfl rfl rfl rfl rfl rfl (Int.natCast_nonneg _) (enys_get h59) ?_
     refine Av (.ep [.int .i64 x58.kind, .sl .ro 2 (enys x58.of)]) rfl ?_
     refine Av (.int .i64 x58.kind) rfl ?_
     refine Av (.int .i64 w1_1) rfl ?_
     refine Av (.bool (x58.kind != w1_1)) rfl ?_
     refine AW.if rfl (fun h60 => ?_) (fun h60 => ?_)
     ·replace hr := cnd_t h60 hr
      refine AW.seq (Rg ?_)
      refine AL.bld good (d := 111) (l := [.int .i64 0, .sl .nil 0 []]) rfl rfl rfl rfl rfl rfl rfl ?_
      refine AL.st2 good (c2 := [.int .i64 0, .sl .nil 0 []]) rfl rfl rfl rfl rfl rfl rfl rfl rfl rfl rfl rfl ?_
      refine Av (.int .i64 5) rfl ?_
      refine AW.ret ?_
      obtain rfl := Option.some.inj hr
      exact RetQ.w good (.inr rfl) rfl rfl ⟨⟨Wv.refl _, ⟨.inr rfl, trivial, .inr rfl⟩, trivial⟩, Wv.refl _, trivial⟩ (by simp)
     ·replace hr := cnd_f h60 hr
      refine AW.skip ?_
      refine Rg ?_
      refine Av (.int .i64 (v5_1 : Int)) rfl ?_
      refine Av (.int .i64 (IntKind.i64.wrap ((v5_1 : Int) + 1))) rfl ?_
      refine Av (.int .i64 (IntKind.i64.wrap ((v5_1 : Int) + 1))) rfl ?_
      exact ⟨(m, (v5_1 + 1)), _, _, rfl, ⟨(fun _ h => by cases h), fmc ⟨⟨⟨_, rfl, Wv.refl _⟩, (by simp)⟩, fmc ⟨⟨⟨_, rfl, Wv.refl _⟩, (by simp)⟩, fmc ⟨⟨⟨_, rfl, Wv.refl _⟩, (by simp)⟩, fmc ⟨⟨⟨_, rfl, Wv.refl _⟩, (by simp)⟩, fmc ⟨⟨⟨_, rfl, (wnx h57 hl56)⟩, (by simp)⟩, (fun _ h => by cases h)⟩⟩⟩⟩⟩, fmc ⟨⟨⟨_, rfl, ⟨rfl, ⟨Wv.refl _, Wv.refl _, trivial⟩⟩⟩, (by simp)⟩, (fun _ h => by cases h)⟩⟩, ⟨hr, Nat.le_of_succ_le hm⟩, Nat.lt_succ_self _⟩
    ·replace hr := cnd_f h57 hr
     refine AW.exit ?_
     refine AW.seq (Rg ?_)
     refine Av (.int .i64 w1_2) rfl ?_
     refine AL.cw good (d := 113) (xs := [.int .i64 w1_2]) (res := .agg [.int .i64 w1_2, .sl .ro 2 (enys [])]) rfl rfl rfl rfl rfl rfl rfl (w_f121 w1_2) ⟨(Wv.refl _), trivial⟩ (by simp) ?_
     refine AL.st2 good (c2 := [.int .i64 w1_2, .sl .ro 2 (enys [])]) rfl rfl rfl rfl rfl rfl rfl rfl rfl rfl rfl rfl ?_
     refine Av (.int .i64 0) rfl ?_
     refine AW.ret ?_
     obtain rfl := Option.some.inj hr
     exact RetQ.w good (.inr rfl) rfl rfl (Wv.refl _) (by simp)

mutual
def s_f21 : Nat → Val → Option Ty
  | 0, _ => none
  | n + 1, a0 => (s_f21_l1 n a0 0 [])
def s_f21_l1 : Nat → Val → Nat → (List Ty) → Option Ty
  | 0, _, _, _ => none
  | n + 1, a0, v1_1, v1_2 => (bif (decide ((v1_1 : Int) < (a0.t.length : Int))) then ((a0.t[v1_1]?).bind fun x10 => ((s_f21 n x10).bind fun q12 => (if v1_2.length + 1 ≤ 1000000 then (s_f21_l1 n a0 (v1_1 + 1) (v1_2 ++ [q12])) else none))) else some (Ty.mk a0.kind v1_2))
end

theorem w_f21_a (n : Nat) (ih : ∀ (m : Nat) (a0 : Val) (r : Ty), s_f21 m a0 = some r → m < n → ACall Tryz.prog 10 [.agg (valC a0)] (.agg (tyC r))) (a0 : Val) (r : Ty) (hr : s_f21 n a0 = some r) : ACall Tryz.prog 10 [.agg (valC a0)] (.agg (tyC r)) := by
 refine ACall.go [(0, .agg (valC a0))] Tryz.func10 rfl Tryz.ntmps10 rfl rfl (by simp) ?_
 cases n with
 | zero => rw [s_f21] at hr; cases hr
 | succ n =>
  rw [s_f21] at hr
  refine AW.seq (Rg ?_)
  refine AL.bx good (d := 1) (l := [.int .i64 a0.kind, .int .i64 a0.i, .bool a0.b, .str a0.s, .sl .ro 5 (encs a0.t)]) rfl rfl rfl rfl rfl rfl 0 rfl ?_
  refine AL.alc good (d := 2) rfl rfl rfl rfl rfl 1 rfl ?_
  refine AW.seq (Rg ?_)
  refine Av (.ptr 0 0) rfl ?_
  refine Av (.int .i64 a0.kind) rfl ?_
  refine AL.bld good (d := 7) (l := [.int .i64 a0.kind, .sl .nil 0 []]) rfl rfl rfl rfl rfl rfl rfl ?_
  refine AL.alc good (d := 3) rfl rfl rfl rfl rfl 2 rfl ?_
  refine AL.st2 good (c2 := [.int .i64 a0.kind, .sl .nil 0 []]) rfl rfl rfl rfl rfl rfl rfl rfl rfl rfl rfl rfl ?_
  refine AW.seq ?_
  refine AW.seq (Rg ?_)
  refine Av (.int .i64 0) rfl ?_
  refine AW.block ?_
  refine AW.adoptB 2 rfl 1 rfl 3 2 38 rfl rfl ?_
  refine AW.lensB 0 rfl (fun hl8 => ?_)
  replace hl8 : a0.t.length ≤ 9223372036854775807 := by rw [← encs_length a0.t]; exact hl8.2.2.2.2.1
  refine AW.lpw (fun x : Nat × Nat × (List Ty) => [(1, .ptr 0 0), (2, .ptr 1 0), (3, .ptr 2 0), (4, .int .i64 (x.2.1 : Int))]) (fun x => [(0, .box 42 [.int .i64 a0.kind, .int .i64 a0.i, .bool a0.b, .str a0.s, .sl .ro 5 (encs a0.t)]), (1, .box 38 [.int .i64 0, .sl .nil 0 []]), (2, .box 38 [.int .i64 a0.kind, .sl (.own 3) 2 (enys x.2.2)]), (3, .row 38 2 (enys x.2.2).length)]) (fun x => s_f21_l1 x.1 a0 x.2.1 x.2.2 = some r ∧ x.1 ≤ n) (fun x => x.1) (n, 0, []) ⟨(fun _ h => by cases h), fmc ⟨⟨⟨_, rfl, Wv.refl _⟩, (by simp)⟩, fmc ⟨⟨⟨_, rfl, Wv.refl _⟩, (by simp)⟩, fmc ⟨⟨⟨_, rfl, Wv.refl _⟩, (by simp)⟩, fmc ⟨⟨⟨_, rfl, Wv.refl _⟩, (by simp)⟩, (fun _ h => by cases h)⟩⟩⟩⟩, fmc ⟨⟨⟨_, rfl, ⟨rfl, ⟨Wv.refl _, Wv.refl _, Wv.refl _, Wv.refl _, Wv.refl _, trivial⟩⟩⟩, (by simp)⟩, fmc ⟨⟨⟨_, rfl, ⟨rfl, ⟨Wv.refl _, Wv.refl _, trivial⟩⟩⟩, (by simp)⟩, fmc ⟨⟨⟨_, rfl, ⟨rfl, ⟨Wv.refl _, Wv.refl _, trivial⟩⟩⟩, (by simp)⟩, fmc ⟨⟨⟨_, rfl, ⟨rfl, rfl, rfl⟩⟩, (by simp)⟩, (fun _ h => by cases h)⟩⟩⟩⟩⟩ ⟨hr, Nat.le_refl _⟩ (fun ⟨m, v1_1, v1_2⟩ hx => ?_)
  obtain ⟨hr, hm⟩ := hx
  try dsimp only at hr hm
  cases m with
  | zero => rw [s_f21_l1] at hr; cases hr
  | succ m =>
   rw [s_f21_l1] at hr
   show AW Tryz.prog _ _ _ (mkS 27 [(1, .ptr 0 0), (2, .ptr 1 0), (3, .ptr 2 0), (4, .int .i64 (v1_1 : Int))] [(0, .box 42 [.int .i64 a0.kind, .int .i64 a0.i, .bool a0.b, .str a0.s, .sl .ro 5 (encs a0.t)]), (1, .box 38 [.int .i64 0, .sl .nil 0 []]), (2, .box 38 [.int .i64 a0.kind, .sl (.own 3) 2 (enys v1_2)]), (3, .row 38 2 (enys v1_2).length)])
   refine AW.seq ?_
   refine AW.seq (Rg ?_)
   refine Av (.int .i64 (v1_1 : Int)) rfl ?_
   refine Av (.ptr 0 4) rfl ?_
   refine Av (.sl .ro 5 (encs a0.t)) rfl ?_
   refine AL.ln good (d := 11) (m := a0.t.length) rfl rfl rfl rfl rfl rfl (encs_length _) ?_
   refine Av (.bool (decide ((v1_1 : Int) < (a0.t.length : Int)))) rfl ?_
   refine AW.if rfl (fun h9 => ?_) (fun h9 => ?_)
   ·replace hr := cnd_t h9 hr
    refine AW.skip ?_
    refine AW.seq ?_
    refine AW.block ?_
    refine AW.drawc (M := fun i => ⟨Nat.beq i 9 || Nat.beq i 11, bif Nat.beq i 1 then some { ids := [2] } else bif Nat.beq i 3 then some { ids := [0] } else bif Nat.beq i 6 then some { ids := [] } else bif Nat.beq i 8 then some { ids := [4] } else bif Nat.beq i 9 then some { ids := [3] } else bif Nat.beq i 11 then some { ids := [2] } else none⟩) good.wide (by kernel_rfl) ?_
    refine Av (nc := ⟨rfl⟩) (.ptr 2 1) rfl ?_
    refine AL.vc good (d := 16) (v := .sl (.own 3) 2 (enys v1_2)) rfl rfl rfl rfl rfl rfl (fmc ⟨.head _, (fun _ h => by cases h)⟩) ?_
    refine Av (nc := ⟨rfl⟩) (.ptr 0 4) rfl ?_
    refine AL.vc good (d := 18) (v := .sl .ro 5 (encs a0.t)) rfl rfl rfl rfl rfl rfl (fmc ⟨.head _, (fun _ h => by cases h)⟩) ?_
    refine Av (nc := ⟨rfl⟩) (.int .i64 (v1_1 : Int)) rfl ?_
    obtain ⟨x10, h11, hr⟩ := bnd1 hr
    refine AL.ix (nc := ⟨rfl⟩) good (d := 20) (r := [.int .i64 x10.kind, .int .i64 x10.i, .bool x10.b, .str x10.s, .sl .ro 5 (encs x10.t)]) rfl rfl rfl rfl rfl rfl rfl (Int.natCast_nonneg _) (encs_get h11) ?_
    refine AL.vc good (d := 21) (v := .agg [.int .i64 x10.kind, .int .i64 x10.i, .bool x10.b, .str x10.s, .sl .ro 5 (encs x10.t)]) rfl rfl rfl rfl rfl rfl (fun _ h => by cases h) ?_
    obtain ⟨q12, h13, hr⟩ := bnd1 hr
    refine AL.cw (nc := ⟨rfl⟩) good (d := 22) (xs := [.agg (valC x10)]) (res := .agg [.int .i64 q12.kind, .sl .ro 2 (enys q12.of)]) rfl rfl rfl rfl rfl rfl rfl (ih _ _ _ h13 (by omega)) ⟨(Wv.refl _), trivial⟩ (by simp) ?_
    refine AL.litC good (d := 23) (rows := [[.int .i64 q12.kind, .sl .ro 2 (enys q12.of)]]) rfl rfl rfl rfl rfl rfl rfl rfl rfl 4 rfl (ColN.mk rfl rfl (fun _ h => by cases h) (fmc ⟨.head _, (fun _ h => by cases h)⟩) (fun _ h => by cases h)) ?_
    obtain ⟨h14, hr⟩ := grd hr
    refine AL.aw2c good (d := 24) (rows := enys v1_2) (news := [(tyC q12)]) (rows2 := enys (v1_2 ++ [q12])) rfl rfl rfl rfl rfl rfl rfl rfl rfl (by simp) rfl rfl rfl rfl ⟨⟨Wv.refl _, Wv.refl _, trivial⟩, trivial⟩ (by simp [enys_map]) (by rw [enys_length, List.length_append]; exact h14) rfl ?_
    refine Av (nc := ⟨rfl⟩) (.ptr 2 1) rfl ?_
    refine AL.st2c good (c2 := [.int .i64 a0.kind, .sl (.own 3) 2 (enys (v1_2 ++ [q12]))]) rfl rfl rfl rfl rfl rfl rfl rfl rfl rfl rfl rfl rfl ?_
    refine Rg ?_
    refine Av (.int .i64 (v1_1 : Int)) rfl ?_
    refine Av (.int .i64 (IntKind.i64.wrap ((v1_1 : Int) + 1))) rfl ?_
    refine Av (.int .i64 (IntKind.i64.wrap ((v1_1 : Int) + 1))) rfl ?_
    exact ⟨(m, (v1_1 + 1), (v1_2 ++ [q12])), _, _, rfl, ⟨(fun _ h => by cases h), fmc ⟨⟨⟨_, rfl, Wv.refl _⟩, (by simp)⟩, fmc ⟨⟨⟨_, rfl, Wv.refl _⟩, (by simp)⟩, fmc ⟨⟨⟨_, rfl, Wv.refl _⟩, (by simp)⟩, fmc ⟨⟨⟨_, rfl, (wnx h9 hl8)⟩, (by simp)⟩, (fun _ h => by cases h)⟩⟩⟩⟩, fmc ⟨⟨⟨_, rfl, ⟨rfl, ⟨Wv.refl _, Wv.refl _, Wv.refl _, Wv.refl _, Wv.refl _, trivial⟩⟩⟩, (by simp)⟩, fmc ⟨⟨⟨_, rfl, ⟨rfl, ⟨Wv.refl _, Wv.refl _, trivial⟩⟩⟩, (by simp)⟩, fmc ⟨⟨⟨_, rfl, ⟨rfl, ⟨Wv.refl _, Wv.refl _, trivial⟩⟩⟩, (by simp)⟩, fmc ⟨⟨⟨_, rfl, ⟨rfl, rfl, rfl⟩⟩, (by simp)⟩, (fun _ h => by cases h)⟩⟩⟩⟩⟩, ⟨hr, Nat.le_of_succ_le hm⟩, Nat.lt_succ_self _⟩
   ·replace hr := cnd_f h9 hr
    refine AW.exit ?_
    refine AW.seq (Rg ?_)
    refine Av (.agg [.int .i64 a0.kind, .sl (.own 3) 2 (enys v1_2)]) rfl ?_
    refine AL.st2 good (c2 := [.int .i64 a0.kind, .sl (.own 3) 2 (enys v1_2)]) rfl rfl rfl rfl rfl rfl rfl rfl rfl rfl rfl rfl ?_
    refine AW.ret ?_
    obtain rfl := Option.some.inj hr
    exact RetQ.w good (.inr rfl) rfl rfl ⟨Wv.refl _, ⟨.inr rfl, WvR.refl _, .inl rfl⟩, trivial⟩ (by simp)
theorem w_f21 (n : Nat) : ∀ (a0 : Val) (r : Ty) (hr : s_f21 n a0 = some r), ACall Tryz.prog 10 [.agg (valC a0)] (.agg (tyC r)) := by
 induction n using Nat.strongRecOn with
 | _ n ih =>
  intro a0 r hr
  exact w_f21_a n (fun m a0 r h hm => ih m hm a0 r h) a0 r hr

end
end Go.Proofs.YtbcjcekoonebiaaGreat.Tl

set_option linter.unusedVariables false
set_option linter.unusedSimpArgs false
namespace Go.Proofs.YtbcjcekoonebiaaGreat.Tl
open Go Go.RowKit
mutual
def s_f58 : Nat → Ex → Ty → Int → Option (Ty × Int)
  | 0, _, _, _ => none
  | n + 1, a0, a1, a2 => ((s_f92 n a0.op).bind fun q1 => (bif (q1 == (-2)) then some ((Ty.mk 0 []), 6) else (bif (decide (a2 > 12)) then some ((Ty.mk 0 []), 9) else (bif (((decide (q1 ≥ 0)) && ((a0.a.length : Int) != q1)) || ((decide (q1 < 0)) && ((decide ((a0.a.length : Int) < 1)) || (decide ((a0.a.length : Int) > 8))))) then some ((Ty.mk 0 []), 1) else (bif (((a0.op.data.toList != [97, 116]) && (a0.n != 0)) || ((a0.op.data.toList != [108, 105, 116]) && (!(((((a0.v.kind == 0) && (a0.v.i == 0)) && (!a0.v.b)) && (a0.v.s.data.toList == [])) && ((a0.v.t.length : Int) == 0))))) then some ((Ty.mk 0 []), 1) else (bif (a0.op.data.toList == [108, 105, 116]) then ((s_f34 n a0.v).bind fun q22 => (bif (q22 != 0) then some ((Ty.mk 0 []), q22) else ((s_f21 n a0.v).bind fun q25 => some (q25, 0)))) else (bif (a0.op.data.toList == [120]) then some (a1, 0) else (s_f58_l1 n a0 a1 a2 [] 0))))))))
def s_f58_l1 : Nat → Ex → Ty → Int → (List Ty) → Nat → Option (Ty × Int)
  | 0, _, _, _, _, _ => none
  | n + 1, a0, a1, a2, v1_1, v1_2 => (bif (decide ((v1_2 : Int) < (a0.a.length : Int))) then ((a0.a[v1_2]?).bind fun x38 => ((s_f58 n x38 a1 (IntKind.i64.wrap (a2 + 1))).bind fun q40 => (bif (q40.2 != 0) then some ((Ty.mk 0 []), q40.2) else (if v1_1.length + 1 ≤ 1000000 then (s_f58_l1 n a0 a1 a2 (v1_1 ++ [q40.1]) (v1_2 + 1)) else none)))) else ((s_f94 n a0.op a0.n v1_1).bind fun q44 => some (q44.1, q44.2)))
end

section
attribute [local simp] pureA pureL pureR inA inL inR inO idsIn encs_pure enxs_pure enys_pure valC_pure exC_pure tyC_pure r_int_u8_pure r_st_GInst_pure r_sl_st_GInst_pure r_st_GMiss_pure
theorem w_f58_a (n : Nat) (ih : ∀ (m : Nat) (a0 : Ex) (a1 : Ty) (a2 : Int) (r : Ty × Int), s_f58 m a0 a1 a2 = some r → m < n → ACall Tryz.prog 50 [.agg (exC a0), .agg (tyC a1), .int .i64 a2] (.tup [.agg (tyC r.1), .int .i64 r.2])) (a0 : Ex) (a1 : Ty) (a2 : Int) (r : Ty × Int) (hr : s_f58 n a0 a1 a2 = some r) : ACall Tryz.prog 50 [.agg (exC a0), .agg (tyC a1), .int .i64 a2] (.tup [.agg (tyC r.1), .int .i64 r.2]) := by
 refine ACall.go [(0, .agg (exC a0)), (1, .agg (tyC a1)), (2, .int .i64 a2)] Tryz.func50 rfl Tryz.ntmps50 rfl rfl (by simp) ?_
 cases n with
 | zero => rw [s_f58] at hr; cases hr
 | succ n =>
  rw [s_f58] at hr
  refine AW.seq (Rg ?_)
  refine AL.bx good (d := 3) (l := [.str a0.op, .int .i64 a0.v.kind, .int .i64 a0.v.i, .bool a0.v.b, .str a0.v.s, .sl .ro 5 (encs a0.v.t), .int .i64 a0.n, .sl .ro 8 (enxs a0.a)]) rfl rfl rfl rfl rfl rfl 0 rfl ?_
  refine AL.bx good (d := 4) (l := [.int .i64 a1.kind, .sl .ro 2 (enys a1.of)]) rfl rfl rfl rfl rfl rfl 1 rfl ?_
  refine AL.alc good (d := 6) rfl rfl rfl rfl rfl 2 rfl ?_
  refine Av (.int .i64 0) rfl ?_
  refine AW.seq (Rg ?_)
  refine Av (.ptr 0 0) rfl ?_
  refine Av (.str a0.op) rfl ?_
  obtain ⟨q1, h2, hr⟩ := bnd1 hr
  refine AL.cw good (d := 16) (xs := [.str a0.op]) (res := .int .i64 q1) rfl rfl rfl rfl rfl rfl rfl (w_f92 _ _ _ h2) ⟨(Wv.refl _), trivial⟩ (by simp) ?_
  refine Av (.int .i64 q1) rfl ?_
  refine AW.seq ?_
  refine AW.block ?_
  refine AW.seq (Rg ?_)
  refine Av (.int .i64 q1) rfl ?_
  refine Av (.bool (q1 == (-2))) rfl ?_
  refine Av (.bool (q1 == (-2))) rfl ?_
  refine AW.if rfl (fun h3 => ?_) (fun h3 => ?_)
  ·replace hr := cnd_t h3 hr
   refine AW.seq (Rg ?_)
   refine AL.bld good (d := 20) (l := [.int .i64 0, .sl .nil 0 []]) rfl rfl rfl rfl rfl rfl rfl ?_
   refine AL.st2 good (c2 := [.int .i64 0, .sl .nil 0 []]) rfl rfl rfl rfl rfl rfl rfl rfl rfl rfl rfl rfl ?_
   refine Av (.int .i64 6) rfl ?_
   refine AW.ret ?_
   obtain rfl := Option.some.inj hr
   exact RetQ.w good (.inr rfl) rfl rfl ⟨⟨Wv.refl _, ⟨.inr rfl, trivial, .inr rfl⟩, trivial⟩, Wv.refl _, trivial⟩ (by simp)
  ·replace hr := cnd_f h3 hr
   refine AW.seq (Rg ?_)
   refine Av (.int .i64 a2) rfl ?_
   refine Av (.bool (decide (a2 > 12))) rfl ?_
   refine Av (.bool (decide (a2 > 12))) rfl ?_
   refine AW.if rfl (fun h4 => ?_) (fun h4 => ?_)
   ·replace hr := cnd_t h4 hr
    refine AW.seq (Rg ?_)
    refine AL.bld good (d := 24) (l := [.int .i64 0, .sl .nil 0 []]) rfl rfl rfl rfl rfl rfl rfl ?_
    refine AL.st2 good (c2 := [.int .i64 0, .sl .nil 0 []]) rfl rfl rfl rfl rfl rfl rfl rfl rfl rfl rfl rfl ?_
    refine Av (.int .i64 9) rfl ?_
    refine AW.ret ?_
    obtain rfl := Option.some.inj hr
    exact RetQ.w good (.inr rfl) rfl rfl ⟨⟨Wv.refl _, ⟨.inr rfl, trivial, .inr rfl⟩, trivial⟩, Wv.refl _, trivial⟩ (by simp)
   ·replace hr := cnd_f h4 hr
    refine AW.seq (Rg ?_)
    refine Av (.int .i64 q1) rfl ?_
    refine Av (.bool (decide (q1 ≥ 0))) rfl ?_
    refine AL.vb good (d := 28) (b := (decide (q1 ≥ 0))) rfl rfl rfl rfl (fun g5 h6 => ?_)
    refine Gv (g5) (.ptr 0 7) rfl (by cases g5 <;> exact ⟨rfl, fun h => by first | rfl | cases h⟩) ?_
    refine Gv (g5) (.sl .ro 8 (enxs a0.a)) rfl (by cases g5 <;> exact ⟨rfl, fun h => by first | rfl | cases h⟩) ?_
    refine AL.gln good (d := 31) (c := g5) (m := a0.a.length) rfl rfl (by cases g5 <;> rfl) rfl rfl (fun h => by cases g5 <;> first | rfl | exact absurd h (by decide)) (enxs_length _) ?_
    refine Gv (g5) (.int .i64 q1) rfl (by cases g5 <;> exact ⟨rfl, fun h => by first | rfl | cases h⟩) ?_
    refine Gv (g5) (.bool ((a0.a.length : Int) != q1)) rfl (by cases g5 <;> exact ⟨rfl, fun h => by first | rfl | cases h⟩) ?_
    refine AL.v good (d := 34) (v := .bool (g5 && ((a0.a.length : Int) != q1))) (rd := []) rfl rfl rfl (by cases g5 <;> rfl) ?_
    refine AL.vb good (d := 35) (b := (g5 && ((a0.a.length : Int) != q1))) rfl rfl rfl rfl (fun g7 h8 => ?_)
    refine Gv ((!g7)) (.int .i64 q1) rfl (by cases g7 <;> exact ⟨rfl, fun h => by first | rfl | cases h⟩) ?_
    refine Gv ((!g7)) (.bool (decide (q1 < 0))) rfl (by cases g7 <;> exact ⟨rfl, fun h => by first | rfl | cases h⟩) ?_
    refine AL.gvb good (d := 38) (c := (!g7)) (r := (decide (q1 < 0))) (rd := []) rfl rfl (by cases g7 <;> rfl) (fun h => by cases g7 <;> first | rfl | exact absurd h (by decide)) (fun g9 h10 => ?_)
    refine Gv (((!g7) && g9)) (.ptr 0 7) rfl (by cases g7 <;> cases g9 <;> exact ⟨rfl, fun h => by first | rfl | cases h⟩) ?_
    refine Gv (((!g7) && g9)) (.sl .ro 8 (enxs a0.a)) rfl (by cases g7 <;> cases g9 <;> exact ⟨rfl, fun h => by first | rfl | cases h⟩) ?_
    refine AL.gln good (d := 41) (c := ((!g7) && g9)) (m := a0.a.length) rfl rfl (by cases g7 <;> cases g9 <;> rfl) rfl rfl (fun h => by cases g7 <;> cases g9 <;> first | rfl | exact absurd h (by decide)) (enxs_length _) ?_
    refine Gv (((!g7) && g9)) (.bool (decide ((a0.a.length : Int) < 1))) rfl (by cases g7 <;> cases g9 <;> exact ⟨rfl, fun h => by first | rfl | cases h⟩) ?_
    refine AL.gvb good (d := 43) (c := ((!g7) && g9)) (r := (decide ((a0.a.length : Int) < 1))) (rd := []) rfl rfl (by cases g7 <;> cases g9 <;> rfl) (fun h => by cases g7 <;> cases g9 <;> first | rfl | exact absurd h (by decide)) (fun g11 h12 => ?_)
    refine Gv ((((!g7) && g9) && (!g11))) (.ptr 0 7) rfl (by cases g7 <;> cases g9 <;> cases g11 <;> exact ⟨rfl, fun h => by first | rfl | cases h⟩) ?_
    refine Gv ((((!g7) && g9) && (!g11))) (.sl .ro 8 (enxs a0.a)) rfl (by cases g7 <;> cases g9 <;> cases g11 <;> exact ⟨rfl, fun h => by first | rfl | cases h⟩) ?_
    refine AL.gln good (d := 46) (c := (((!g7) && g9) && (!g11))) (m := a0.a.length) rfl rfl (by cases g7 <;> cases g9 <;> cases g11 <;> rfl) rfl rfl (fun h => by cases g7 <;> cases g9 <;> cases g11 <;> first | rfl | exact absurd h (by decide)) (enxs_length _) ?_
    refine Gv ((((!g7) && g9) && (!g11))) (.bool (decide ((a0.a.length : Int) > 8))) rfl (by cases g7 <;> cases g9 <;> cases g11 <;> exact ⟨rfl, fun h => by first | rfl | cases h⟩) ?_
    refine Gv (((!g7) && g9)) (.bool (g11 || (decide ((a0.a.length : Int) > 8)))) rfl (by cases g7 <;> cases g9 <;> cases g11 <;> exact ⟨rfl, fun h => by first | rfl | cases h⟩) ?_
    refine Gv ((!g7)) (.bool (g9 && (g11 || (decide ((a0.a.length : Int) > 8))))) rfl (by cases g7 <;> cases g9 <;> exact ⟨rfl, fun h => by first | rfl | cases h⟩) ?_
    refine AL.v good (d := 50) (v := .bool (g7 || (g9 && (g11 || (decide ((a0.a.length : Int) > 8)))))) (rd := []) rfl rfl rfl (by cases g7 <;> rfl) ?_
    refine Av (.bool (g7 || (g9 && (g11 || (decide ((a0.a.length : Int) > 8)))))) rfl ?_
    subst h6 h8 h10 h12
    refine AW.if rfl (fun h13 => ?_) (fun h13 => ?_)
    ·replace hr := cnd_t h13 hr
     refine AW.seq (Rg ?_)
     refine AL.bld good (d := 51) (l := [.int .i64 0, .sl .nil 0 []]) rfl rfl rfl rfl rfl rfl rfl ?_
     refine AL.st2 good (c2 := [.int .i64 0, .sl .nil 0 []]) rfl rfl rfl rfl rfl rfl rfl rfl rfl rfl rfl rfl ?_
     refine Av (.int .i64 1) rfl ?_
     refine AW.ret ?_
     obtain rfl := Option.some.inj hr
     exact RetQ.w good (.inr rfl) rfl rfl ⟨⟨Wv.refl _, ⟨.inr rfl, trivial, .inr rfl⟩, trivial⟩, Wv.refl _, trivial⟩ (by simp)
    ·replace hr := cnd_f h13 hr
     refine AW.seq (Rg ?_)
     refine Av (.ptr 0 0) rfl ?_
     refine Av (.str a0.op) rfl ?_
     refine AL.sb good (d := 55) (b := (a0.op.data.toList != [97, 116])) rfl rfl rfl rfl rfl rfl rfl ?_
     refine AL.vb good (d := 56) (b := (a0.op.data.toList != [97, 116])) rfl rfl rfl rfl (fun g14 h15 => ?_)
     refine Gv (g14) (.ptr 0 6) rfl (by cases g14 <;> exact ⟨rfl, fun h => by first | rfl | cases h⟩) ?_
     refine Gv (g14) (.int .i64 a0.n) rfl (by cases g14 <;> exact ⟨rfl, fun h => by first | rfl | cases h⟩) ?_
     refine Gv (g14) (.bool (a0.n != 0)) rfl (by cases g14 <;> exact ⟨rfl, fun h => by first | rfl | cases h⟩) ?_
     refine AL.v good (d := 60) (v := .bool (g14 && (a0.n != 0))) (rd := []) rfl rfl rfl (by cases g14 <;> rfl) ?_
     refine AL.vb good (d := 61) (b := (g14 && (a0.n != 0))) rfl rfl rfl rfl (fun g16 h17 => ?_)
     refine Gv ((!g16)) (.ptr 0 0) rfl (by cases g16 <;> exact ⟨rfl, fun h => by first | rfl | cases h⟩) ?_
     refine Gv ((!g16)) (.str a0.op) rfl (by cases g16 <;> exact ⟨rfl, fun h => by first | rfl | cases h⟩) ?_
     refine AL.gsb good (d := 64) (c := (!g16)) (b := (a0.op.data.toList != [108, 105, 116])) rfl rfl (by cases g16 <;> rfl) rfl (fun h => by cases g16 <;> first | rfl | exact absurd h (by decide)) (fun h => by cases g16 <;> first | rfl | exact absurd h (by decide)) rfl ?_
     refine AL.gvb good (d := 65) (c := (!g16)) (r := (a0.op.data.toList != [108, 105, 116])) (rd := []) rfl rfl (by cases g16 <;> rfl) (fun h => by cases g16 <;> first | rfl | exact absurd h (by decide)) (fun g18 h19 => ?_)
     refine Gv (((!g16) && g18)) (.ptr 0 1) rfl (by cases g16 <;> cases g18 <;> exact ⟨rfl, fun h => by first | rfl | cases h⟩) ?_
     refine Gv (((!g16) && g18)) (.agg [.int .i64 a0.v.kind, .int .i64 a0.v.i, .bool a0.v.b, .str a0.v.s, .sl .ro 5 (encs a0.v.t)]) rfl (by cases g16 <;> cases g18 <;> exact ⟨rfl, fun h => by first | rfl | cases h⟩) ?_
     refine AL.gcw good (d := 68) (c := ((!g16) && g18)) (aw := [.agg [.int .i64 a0.v.kind, .int .i64 a0.v.i, .bool a0.v.b, .str a0.v.s, .sl .ro 5 (encs a0.v.t)]]) (xs := [.agg (valC a0.v)]) (res := .bool (((((a0.v.kind == 0) && (a0.v.i == 0)) && (!a0.v.b)) && (a0.v.s.data.toList == [])) && ((a0.v.t.length : Int) == 0))) rfl rfl (by cases g16 <;> cases g18 <;> rfl) rfl rfl rfl (fun h => by cases g16 <;> cases g18 <;> first | rfl | exact absurd h (by decide)) (w_f93 a0.v) ⟨(Wv.refl _), trivial⟩ (by simp) ?_
     refine Gv (((!g16) && g18)) (.bool (!(((((a0.v.kind == 0) && (a0.v.i == 0)) && (!a0.v.b)) && (a0.v.s.data.toList == [])) && ((a0.v.t.length : Int) == 0)))) rfl (by cases g16 <;> cases g18 <;> exact ⟨rfl, fun h => by first | rfl | cases h⟩) ?_
     refine Gv ((!g16)) (.bool (g18 && (!(((((a0.v.kind == 0) && (a0.v.i == 0)) && (!a0.v.b)) && (a0.v.s.data.toList == [])) && ((a0.v.t.length : Int) == 0))))) rfl (by cases g16 <;> cases g18 <;> exact ⟨rfl, fun h => by first | rfl | cases h⟩) ?_
     refine AL.v good (d := 71) (v := .bool (g16 || (g18 && (!(((((a0.v.kind == 0) && (a0.v.i == 0)) && (!a0.v.b)) && (a0.v.s.data.toList == [])) && ((a0.v.t.length : Int) == 0)))))) (rd := []) rfl rfl rfl (by cases g16 <;> rfl) ?_
     refine Av (.bool (g16 || (g18 && (!(((((a0.v.kind == 0) && (a0.v.i == 0)) && (!a0.v.b)) && (a0.v.s.data.toList == [])) && ((a0.v.t.length : Int) == 0)))))) rfl ?_
     subst h15 h17 h19
     refine AW.if rfl (fun h20 => ?_) (fun h20 => ?_)
     ·replace hr := cnd_t h20 hr
      refine AW.seq (Rg ?_)
      refine AL.bld good (d := 72) (l := [.int .i64 0, .sl .nil 0 []]) rfl rfl rfl rfl rfl rfl rfl ?_
      refine AL.st2 good (c2 := [.int .i64 0, .sl .nil 0 []]) rfl rfl rfl rfl rfl rfl rfl rfl rfl rfl rfl rfl ?_
      refine Av (.int .i64 1) rfl ?_
      refine AW.ret ?_
      obtain rfl := Option.some.inj hr
      exact RetQ.w good (.inr rfl) rfl rfl ⟨⟨Wv.refl _, ⟨.inr rfl, trivial, .inr rfl⟩, trivial⟩, Wv.refl _, trivial⟩ (by simp)
     ·replace hr := cnd_f h20 hr
      refine AW.skip ?_
      refine AW.seq ?_
      refine AW.seq (Rg ?_)
      refine Av (.ptr 0 0) rfl ?_
      refine Av (.str a0.op) rfl ?_
      refine AL.sb good (d := 75) (b := (a0.op.data.toList == [108, 105, 116])) rfl rfl rfl rfl rfl rfl rfl ?_
      refine AW.if rfl (fun h21 => ?_) (fun h21 => ?_)
      ·replace hr := cnd_t h21 hr
       refine AW.seq (Rg ?_)
       refine Av (.ptr 0 1) rfl ?_
       refine Av (.agg [.int .i64 a0.v.kind, .int .i64 a0.v.i, .bool a0.v.b, .str a0.v.s, .sl .ro 5 (encs a0.v.t)]) rfl ?_
       obtain ⟨q22, h23, hr⟩ := bnd1 hr
       refine AL.cw good (d := 78) (xs := [.agg (valC a0.v)]) (res := .int .i64 q22) rfl rfl rfl rfl rfl rfl rfl (w_f34 _ _ _ h23) ⟨(Wv.refl _), trivial⟩ (by simp) ?_
       refine Av (.int .i64 q22) rfl ?_
       refine AW.seq ?_
       refine AW.seq (Rg ?_)
       refine Av (.int .i64 q22) rfl ?_
       refine Av (.bool (q22 != 0)) rfl ?_
       refine AW.if rfl (fun h24 => ?_) (fun h24 => ?_)
       ·replace hr := cnd_t h24 hr
        refine AW.seq (Rg ?_)
        refine AL.bld good (d := 81) (l := [.int .i64 0, .sl .nil 0 []]) rfl rfl rfl rfl rfl rfl rfl ?_
        refine Av (.int .i64 q22) rfl ?_
        refine AL.st2 good (c2 := [.int .i64 0, .sl .nil 0 []]) rfl rfl rfl rfl rfl rfl rfl rfl rfl rfl rfl rfl ?_
        refine Av (.int .i64 q22) rfl ?_
        refine AW.ret ?_
        obtain rfl := Option.some.inj hr
        exact RetQ.w good (.inr rfl) rfl rfl ⟨⟨Wv.refl _, ⟨.inr rfl, trivial, .inr rfl⟩, trivial⟩, Wv.refl _, trivial⟩ (by simp)
       ·replace hr := cnd_f h24 hr
        refine AW.skip ?_
        refine AW.seq (Rg ?_)
        refine Av (.ptr 0 1) rfl ?_
        refine Av (.agg [.int .i64 a0.v.kind, .int .i64 a0.v.i, .bool a0.v.b, .str a0.v.s, .sl .ro 5 (encs a0.v.t)]) rfl ?_
        obtain ⟨q25, h26, hr⟩ := bnd1 hr
        refine AL.cw good (d := 85) (xs := [.agg (valC a0.v)]) (res := .agg [.int .i64 q25.kind, .sl .ro 2 (enys q25.of)]) rfl rfl rfl rfl rfl rfl rfl (w_f21 _ _ _ h26) ⟨(Wv.refl _), trivial⟩ (by simp) ?_
        refine AL.st2 good (c2 := [.int .i64 q25.kind, .sl .ro 2 (enys q25.of)]) rfl rfl rfl rfl rfl rfl rfl rfl rfl rfl rfl rfl ?_
        refine Av (.int .i64 0) rfl ?_
        refine AW.ret ?_
        obtain rfl := Option.some.inj hr
        exact RetQ.w good (.inr rfl) rfl rfl (Wv.refl _) (by simp)
      ·replace hr := cnd_f h21 hr
       refine AW.skip ?_
       refine AW.seq ?_
       refine AW.seq (Rg ?_)
       refine Av (.ptr 0 0) rfl ?_
       refine Av (.str a0.op) rfl ?_
       refine AL.sb good (d := 88) (b := (a0.op.data.toList == [120])) rfl rfl rfl rfl rfl rfl rfl ?_
       refine AW.if rfl (fun h27 => ?_) (fun h27 => ?_)
       ·replace hr := cnd_t h27 hr
        refine AW.seq (Rg ?_)
        refine Av (.agg [.int .i64 a1.kind, .sl .ro 2 (enys a1.of)]) rfl ?_
        refine AL.st2 good (c2 := [.int .i64 a1.kind, .sl .ro 2 (enys a1.of)]) rfl rfl rfl rfl rfl rfl rfl rfl rfl rfl rfl rfl ?_
        refine Av (.int .i64 0) rfl ?_
        refine AW.ret ?_
        obtain rfl := Option.some.inj hr
        exact RetQ.w good (.inr rfl) rfl rfl (Wv.refl _) (by simp)
       ·replace hr := cnd_f h27 hr
        refine AW.skip ?_
        refine AW.seq (Rg ?_)
        refine Av (.sl .nil 0 []) rfl ?_
        refine AW.seq ?_
        refine AW.seq (Rg ?_)
        refine Av (.int .i64 0) rfl ?_
        refine AW.block ?_
        refine AW.adopt 10 rfl 3 2 38 rfl rfl ?_
        refine AW.lensB 0 rfl (fun hl36 => ?_)
        replace hl36 : a0.a.length ≤ 9223372036854775807 := by rw [← enxs_length a0.a]; exact hl36.2.2.2.2.2.2.2.1
        refine AW.lpw (fun x : Nat × (List Ty) × Nat => [(2, .int .i64 a2), (3, .ptr 0 0), (4, .ptr 1 0), (6, .ptr 2 0), (10, .sl (.own 3) 2 (enys x.2.1)), (11, .int .i64 (x.2.2 : Int))]) (fun x => [(0, .box 44 [.str a0.op, .int .i64 a0.v.kind, .int .i64 a0.v.i, .bool a0.v.b, .str a0.v.s, .sl .ro 5 (encs a0.v.t), .int .i64 a0.n, .sl .ro 8 (enxs a0.a)]), (1, .box 38 [.int .i64 a1.kind, .sl .ro 2 (enys a1.of)]), (2, .box 38 [.int .i64 0, .sl .nil 0 []]), (3, .row 38 2 (enys x.2.1).length)]) (fun x => s_f58_l1 x.1 a0 a1 a2 x.2.1 x.2.2 = some r ∧ x.1 ≤ n) (fun x => x.1) (n, [], 0) ⟨(fun _ h => by cases h), fmc ⟨⟨⟨_, rfl, Wv.refl _⟩, (by simp)⟩, fmc ⟨⟨⟨_, rfl, Wv.refl _⟩, (by simp)⟩, fmc ⟨⟨⟨_, rfl, Wv.refl _⟩, (by simp)⟩, fmc ⟨⟨⟨_, rfl, Wv.refl _⟩, (by simp)⟩, fmc ⟨⟨⟨_, rfl, Wv.refl _⟩, (by simp)⟩, fmc ⟨⟨⟨_, rfl, Wv.refl _⟩, (by simp)⟩, (fun _ h => by cases h)⟩⟩⟩⟩⟩⟩, fmc ⟨⟨⟨_, rfl, ⟨rfl, ⟨Wv.refl _, Wv.refl _, Wv.refl _, Wv.refl _, Wv.refl _, Wv.refl _, Wv.refl _, Wv.refl _, trivial⟩⟩⟩, (by simp)⟩, fmc ⟨⟨⟨_, rfl, ⟨rfl, ⟨Wv.refl _, Wv.refl _, trivial⟩⟩⟩, (by simp)⟩, fmc ⟨⟨⟨_, rfl, ⟨rfl, ⟨Wv.refl _, Wv.refl _, trivial⟩⟩⟩, (by simp)⟩, fmc ⟨⟨⟨_, rfl, ⟨rfl, rfl, rfl⟩⟩, (by simp)⟩, (fun _ h => by cases h)⟩⟩⟩⟩⟩ ⟨hr, Nat.le_refl _⟩ (fun ⟨m, v1_1, v1_2⟩ hx => ?_)
        obtain ⟨hr, hm⟩ := hx
        try dsimp only at hr hm
        cases m with
        | zero => rw [s_f58_l1] at hr; cases hr
        | succ m =>
         rw [s_f58_l1] at hr
         show AW Tryz.prog _ _ _ (mkS 125 [(2, .int .i64 a2), (3, .ptr 0 0), (4, .ptr 1 0), (6, .ptr 2 0), (10, .sl (.own 3) 2 (enys v1_1)), (11, .int .i64 (v1_2 : Int))] [(0, .box 44 [.str a0.op, .int .i64 a0.v.kind, .int .i64 a0.v.i, .bool a0.v.b, .str a0.v.s, .sl .ro 5 (encs a0.v.t), .int .i64 a0.n, .sl .ro 8 (enxs a0.a)]), (1, .box 38 [.int .i64 a1.kind, .sl .ro 2 (enys a1.of)]), (2, .box 38 [.int .i64 0, .sl .nil 0 []]), (3, .row 38 2 (enys v1_1).length)])
         refine AW.seq ?_
         refine AW.seq (Rg ?_)
         refine Av (.int .i64 (v1_2 : Int)) rfl ?_
         refine Av (.ptr 0 7) rfl ?_
         refine Av (.sl .ro 8 (enxs a0.a)) rfl ?_
         refine AL.ln good (d := 93) (m := a0.a.length) rfl rfl rfl rfl rfl rfl (enxs_length _) ?_
         refine Av (.bool (decide ((v1_2 : Int) < (a0.a.length : Int)))) rfl ?_
         refine AW.if rfl (fun h37 => ?_) (fun h37 => ?_)
         ·replace hr := cnd_t h37 hr
          refine AW.skip ?_
          refine AW.seq ?_
          refine AW.block ?_
          refine AW.seq ?_
          refine AW.drawc (M := fun i => ⟨Nat.beq i 13, bif Nat.beq i 1 then some { ids := [0] } else bif Nat.beq i 4 then some { ids := [] } else bif Nat.beq i 5 then some { ids := [1] } else bif Nat.beq i 12 then some { ids := [4] } else bif Nat.beq i 13 then some { ids := [4] } else none⟩) good.wide (by kernel_rfl) ?_
          refine Av (nc := ⟨rfl⟩) (.ptr 0 7) rfl ?_
          refine AL.vc good (d := 99) (v := .sl .ro 8 (enxs a0.a)) rfl rfl rfl rfl rfl rfl (fmc ⟨.head _, (fun _ h => by cases h)⟩) ?_
          refine Av (nc := ⟨rfl⟩) (.int .i64 (v1_2 : Int)) rfl ?_
          obtain ⟨x38, h39, hr⟩ := bnd1 hr
          refine AL.ix (nc := ⟨rfl⟩) good (d := 101) (r := [.str x38.op, .int .i64 x38.v.kind, .int .i64 x38.v.i, .bool x38.v.b, .str x38.v.s, .sl .ro 5 (encs x38.v.t), .int .i64 x38.n, .sl .ro 8 (enxs x38.a)]) rfl rfl rfl rfl rfl rfl rfl (Int.natCast_nonneg _) (enxs_get h39) ?_
          refine AL.vc good (d := 102) (v := .agg [.str x38.op, .int .i64 x38.v.kind, .int .i64 x38.v.i, .bool x38.v.b, .str x38.v.s, .sl .ro 5 (encs x38.v.t), .int .i64 x38.n, .sl .ro 8 (enxs x38.a)]) rfl rfl rfl rfl rfl rfl (fun _ h => by cases h) ?_
          refine AL.vc good (d := 103) (v := .agg [.int .i64 a1.kind, .sl .ro 2 (enys a1.of)]) rfl rfl rfl rfl rfl rfl (fmc ⟨.head _, (fun _ h => by cases h)⟩) ?_
          refine Av (nc := ⟨rfl⟩) (.int .i64 a2) rfl ?_
          refine Av (nc := ⟨rfl⟩) (.int .i64 (IntKind.i64.wrap (a2 + 1))) rfl ?_
          obtain ⟨q40, h41, hr⟩ := bnd1 hr
          refine AL.cw (nc := ⟨rfl⟩) good (d := 106) (xs := [.agg (exC x38), .agg (tyC a1), .int .i64 (IntKind.i64.wrap (a2 + 1))]) (res := .tup [.agg [.int .i64 q40.1.kind, .sl .ro 2 (enys q40.1.of)], .int .i64 q40.2]) rfl rfl rfl rfl rfl rfl rfl (ih _ _ _ _ _ h41 (by omega)) ⟨(Wv.refl _), (Wv.refl _), (Wv.refl _), trivial⟩ (by simp) ?_
          refine Av (nc := ⟨rfl⟩) (.tup [.agg [.int .i64 q40.1.kind, .sl .ro 2 (enys q40.1.of)], .int .i64 q40.2]) rfl ?_
          refine Av (nc := ⟨rfl⟩) (.agg [.int .i64 q40.1.kind, .sl .ro 2 (enys q40.1.of)]) rfl ?_
          refine Av (nc := ⟨rfl⟩) (.int .i64 q40.2) rfl ?_
          refine AL.alcC good (d := 12) rfl rfl rfl rfl rfl 4 rfl (ColN.mk rfl rfl (fun _ h => by cases h) (fmc ⟨.head _, (fun _ h => by cases h)⟩) (fun _ h => by cases h)) ?_
          refine AL.st2c good (c2 := [.int .i64 q40.1.kind, .sl .ro 2 (enys q40.1.of)]) rfl rfl rfl rfl rfl rfl rfl rfl rfl rfl rfl rfl rfl ?_
          refine Av (nc := ⟨rfl⟩) (.int .i64 q40.2) rfl ?_
          refine AW.seq ?_
          refine AW.seq (Rg ?_)
          refine Av (.int .i64 q40.2) rfl ?_
          refine Av (.bool (q40.2 != 0)) rfl ?_
          refine AW.if rfl (fun h42 => ?_) (fun h42 => ?_)
          ·replace hr := cnd_t h42 hr
           refine AW.seq (Rg ?_)
           refine AL.bld good (d := 111) (l := [.int .i64 0, .sl .nil 0 []]) rfl rfl rfl rfl rfl rfl rfl ?_
           refine Av (.int .i64 q40.2) rfl ?_
           refine AL.st2 good (c2 := [.int .i64 0, .sl .nil 0 []]) rfl rfl rfl rfl rfl rfl rfl rfl rfl rfl rfl rfl ?_
           refine Av (.int .i64 q40.2) rfl ?_
           refine AW.ret ?_
           obtain rfl := Option.some.inj hr
           exact RetQ.w good (.inr rfl) rfl rfl ⟨⟨Wv.refl _, ⟨.inr rfl, trivial, .inr rfl⟩, trivial⟩, Wv.refl _, trivial⟩ (by simp)
          ·replace hr := cnd_f h42 hr
           refine AW.skip ?_
           refine Rg ?_
           refine Av (.sl (.own 3) 2 (enys v1_1)) rfl ?_
           refine Av (.agg [.int .i64 q40.1.kind, .sl .ro 2 (enys q40.1.of)]) rfl ?_
           refine AL.lit good (d := 115) (rows := [[.int .i64 q40.1.kind, .sl .ro 2 (enys q40.1.of)]]) rfl rfl rfl rfl rfl rfl rfl rfl rfl 5 rfl ?_
           obtain ⟨h43, hr⟩ := grd hr
           refine AL.aw2 good (d := 116) (rows := enys v1_1) (news := [(tyC q40.1)]) (rows2 := enys (v1_1 ++ [q40.1])) rfl rfl rfl rfl rfl rfl rfl rfl rfl (by simp) rfl rfl rfl ⟨⟨Wv.refl _, Wv.refl _, trivial⟩, trivial⟩ (by simp [enys_map]) (by rw [enys_length, List.length_append]; exact h43) rfl ?_
           refine Av (.sl (.own 3) 2 (enys (v1_1 ++ [q40.1]))) rfl ?_
           refine Rg ?_
           refine Av (.int .i64 (v1_2 : Int)) rfl ?_
           refine Av (.int .i64 (IntKind.i64.wrap ((v1_2 : Int) + 1))) rfl ?_
           refine Av (.int .i64 (IntKind.i64.wrap ((v1_2 : Int) + 1))) rfl ?_
           exact ⟨(m, (v1_1 ++ [q40.1]), (v1_2 + 1)), _, _, rfl, ⟨(fun _ h => by cases h), fmc ⟨⟨⟨_, rfl, Wv.refl _⟩, (by simp)⟩, fmc ⟨⟨⟨_, rfl, Wv.refl _⟩, (by simp)⟩, fmc ⟨⟨⟨_, rfl, Wv.refl _⟩, (by simp)⟩, fmc ⟨⟨⟨_, rfl, Wv.refl _⟩, (by simp)⟩, fmc ⟨⟨⟨_, rfl, Wv.refl _⟩, (by simp)⟩, fmc ⟨⟨⟨_, rfl, (wnx h37 hl36)⟩, (by simp)⟩, (fun _ h => by cases h)⟩⟩⟩⟩⟩⟩, fmc ⟨⟨⟨_, rfl, ⟨rfl, ⟨Wv.refl _, Wv.refl _, Wv.refl _, Wv.refl _, Wv.refl _, Wv.refl _, Wv.refl _, Wv.refl _, trivial⟩⟩⟩, (by simp)⟩, fmc ⟨⟨⟨_, rfl, ⟨rfl, ⟨Wv.refl _, Wv.refl _, trivial⟩⟩⟩, (by simp)⟩, fmc ⟨⟨⟨_, rfl, ⟨rfl, ⟨Wv.refl _, Wv.refl _, trivial⟩⟩⟩, (by simp)⟩, fmc ⟨⟨⟨_, rfl, ⟨rfl, rfl, rfl⟩⟩, (by simp)⟩, (fun _ h => by cases h)⟩⟩⟩⟩⟩, ⟨hr, Nat.le_of_succ_le hm⟩, Nat.lt_succ_self _⟩
         ·replace hr := cnd_f h37 hr
          refine AW.exit ?_
          refine AW.seq (Rg ?_)
          refine Av (.ptr 0 0) rfl ?_
          refine Av (.str a0.op) rfl ?_
          refine Av (.ptr 0 6) rfl ?_
          refine Av (.int .i64 a0.n) rfl ?_
          refine Av (.sl (.own 3) 2 (enys v1_1)) rfl ?_
          obtain ⟨q44, h45, hr⟩ := bnd1 hr
          refine AL.cw good (d := 122) (xs := [.str a0.op, .int .i64 a0.n, .sl .ro 2 (enys v1_1)]) (res := .tup [.agg [.int .i64 q44.1.kind, .sl .ro 2 (enys q44.1.of)], .int .i64 q44.2]) rfl rfl rfl rfl rfl rfl rfl (w_f94 _ _ _ _ _ h45) ⟨(Wv.refl _), (Wv.refl _), ⟨.inr rfl, WvR.refl _, .inl rfl⟩, trivial⟩ (by simp) ?_
          refine Av (.agg [.int .i64 q44.1.kind, .sl .ro 2 (enys q44.1.of)]) rfl ?_
          refine Av (.int .i64 q44.2) rfl ?_
          refine AL.st2 good (c2 := [.int .i64 q44.1.kind, .sl .ro 2 (enys q44.1.of)]) rfl rfl rfl rfl rfl rfl rfl rfl rfl rfl rfl rfl ?_
          refine Av (.int .i64 q44.2) rfl ?_
          refine AW.ret ?_
          obtain rfl := Option.some.inj hr
          exact RetQ.w good (.inr rfl) rfl rfl (Wv.refl _) (by simp)
theorem w_f58 (n : Nat) : ∀ (a0 : Ex) (a1 : Ty) (a2 : Int) (r : Ty × Int) (hr : s_f58 n a0 a1 a2 = some r), ACall Tryz.prog 50 [.agg (exC a0), .agg (tyC a1), .int .i64 a2] (.tup [.agg (tyC r.1), .int .i64 r.2]) := by
 induction n using Nat.strongRecOn with
 | _ n ih =>
  intro a0 a1 a2 r hr
  exact w_f58_a n (fun m a0 a1 a2 r h hm => ih m hm a0 a1 a2 r h) a0 a1 a2 r hr

def s_f20 (n : Nat) (a0 : Ex) (a1 : Ty) : Option (Ty × Int) :=
  ((s_f56 n a1).bind fun q1 => (bif (q1 != 0) then some ((Ty.mk 0 []), 5) else ((s_f57 n a0).bind fun q4 => (bif (decide (q4 > 256)) then some ((Ty.mk 0 []), 10) else ((s_f58 n a0 a1 0).bind fun q7 => some (q7.1, q7.2))))))

theorem w_f20 (n : Nat) (a0 : Ex) (a1 : Ty) (r : Ty × Int) (hr : s_f20 n a0 a1 = some r) : ACall Tryz.prog 32 [.agg (exC a0), .agg (tyC a1)] (.tup [.agg (tyC r.1), .int .i64 r.2]) := by
 refine ACall.go [(0, .agg (exC a0)), (1, .agg (tyC a1))] Tryz.func32 rfl Tryz.ntmps32 rfl rfl (by simp) ?_
 rw [s_f20] at hr
 refine AW.seq (Rg ?_)
 refine AL.bx good (d := 2) (l := [.str a0.op, .int .i64 a0.v.kind, .int .i64 a0.v.i, .bool a0.v.b, .str a0.v.s, .sl .ro 5 (encs a0.v.t), .int .i64 a0.n, .sl .ro 8 (enxs a0.a)]) rfl rfl rfl rfl rfl rfl 0 rfl ?_
 refine AL.bx good (d := 3) (l := [.int .i64 a1.kind, .sl .ro 2 (enys a1.of)]) rfl rfl rfl rfl rfl rfl 1 rfl ?_
 refine AL.alc good (d := 4) rfl rfl rfl rfl rfl 2 rfl ?_
 refine Av (.int .i64 0) rfl ?_
 refine AW.seq ?_
 refine AW.seq (Rg ?_)
 refine Av (.agg [.int .i64 a1.kind, .sl .ro 2 (enys a1.of)]) rfl ?_
 obtain ⟨q1, h2, hr⟩ := bnd1 hr
 refine AL.cw good (d := 7) (xs := [.agg (tyC a1)]) (res := .int .i64 q1) rfl rfl rfl rfl rfl rfl rfl (w_f56 _ _ _ h2) ⟨(Wv.refl _), trivial⟩ (by simp) ?_
 refine Av (.bool (q1 != 0)) rfl ?_
 refine AW.if rfl (fun h3 => ?_) (fun h3 => ?_)
 ·replace hr := cnd_t h3 hr
  refine AW.seq (Rg ?_)
  refine AL.bld good (d := 9) (l := [.int .i64 0, .sl .nil 0 []]) rfl rfl rfl rfl rfl rfl rfl ?_
  refine AL.st2 good (c2 := [.int .i64 0, .sl .nil 0 []]) rfl rfl rfl rfl rfl rfl rfl rfl rfl rfl rfl rfl ?_
  refine Av (.int .i64 5) rfl ?_
  refine AW.ret ?_
  obtain rfl := Option.some.inj hr
  exact RetQ.w good (.inr rfl) rfl rfl ⟨⟨Wv.refl _, ⟨.inr rfl, trivial, .inr rfl⟩, trivial⟩, Wv.refl _, trivial⟩ (by simp)
 ·replace hr := cnd_f h3 hr
  refine AW.skip ?_
  refine AW.seq ?_
  refine AW.seq (Rg ?_)
  refine Av (.agg [.str a0.op, .int .i64 a0.v.kind, .int .i64 a0.v.i, .bool a0.v.b, .str a0.v.s, .sl .ro 5 (encs a0.v.t), .int .i64 a0.n, .sl .ro 8 (enxs a0.a)]) rfl ?_
  obtain ⟨q4, h5, hr⟩ := bnd1 hr
  refine AL.cw good (d := 11) (xs := [.agg (exC a0)]) (res := .int .i64 q4) rfl rfl rfl rfl rfl rfl rfl (w_f57 _ _ _ h5) ⟨(Wv.refl _), trivial⟩ (by simp) ?_
  refine Av (.bool (decide (q4 > 256))) rfl ?_
  refine AW.if rfl (fun h6 => ?_) (fun h6 => ?_)
  ·replace hr := cnd_t h6 hr
   refine AW.seq (Rg ?_)
   refine AL.bld good (d := 13) (l := [.int .i64 0, .sl .nil 0 []]) rfl rfl rfl rfl rfl rfl rfl ?_
   refine AL.st2 good (c2 := [.int .i64 0, .sl .nil 0 []]) rfl rfl rfl rfl rfl rfl rfl rfl rfl rfl rfl rfl ?_
   refine Av (.int .i64 10) rfl ?_
   refine AW.ret ?_
   obtain rfl := Option.some.inj hr
   exact RetQ.w good (.inr rfl) rfl rfl ⟨⟨Wv.refl _, ⟨.inr rfl, trivial, .inr rfl⟩, trivial⟩, Wv.refl _, trivial⟩ (by simp)
  ·replace hr := cnd_f h6 hr
   refine AW.skip ?_
   refine AW.seq (Rg ?_)
   refine Av (.agg [.str a0.op, .int .i64 a0.v.kind, .int .i64 a0.v.i, .bool a0.v.b, .str a0.v.s, .sl .ro 5 (encs a0.v.t), .int .i64 a0.n, .sl .ro 8 (enxs a0.a)]) rfl ?_
   refine Av (.agg [.int .i64 a1.kind, .sl .ro 2 (enys a1.of)]) rfl ?_
   obtain ⟨q7, h8, hr⟩ := bnd1 hr
   refine AL.cw good (d := 16) (xs := [.agg (exC a0), .agg (tyC a1), .int .i64 0]) (res := .tup [.agg [.int .i64 q7.1.kind, .sl .ro 2 (enys q7.1.of)], .int .i64 q7.2]) rfl rfl rfl rfl rfl rfl rfl (w_f58 _ _ _ _ _ h8) ⟨(Wv.refl _), (Wv.refl _), (Wv.refl _), trivial⟩ (by simp) ?_
   refine Av (.agg [.int .i64 q7.1.kind, .sl .ro 2 (enys q7.1.of)]) rfl ?_
   refine Av (.int .i64 q7.2) rfl ?_
   refine AL.st2 good (c2 := [.int .i64 q7.1.kind, .sl .ro 2 (enys q7.1.of)]) rfl rfl rfl rfl rfl rfl rfl rfl rfl rfl rfl rfl ?_
   refine Av (.int .i64 q7.2) rfl ?_
   refine AW.ret ?_
   obtain rfl := Option.some.inj hr
   exact RetQ.w good (.inr rfl) rfl rfl (Wv.refl _) (by simp)

end
end Go.Proofs.YtbcjcekoonebiaaGreat.Tl

set_option linter.unusedVariables false
set_option linter.unusedSimpArgs false
namespace Go.Proofs.YtbcjcekoonebiaaGreat.Tl
open Go Go.RowKit
mutual
def s_f64 : Nat → Val → Val → Option Int
  | 0, _, _ => none
  | n + 1, a0, a1 => (bif (a0.kind != a1.kind) then ((s_f100 n (decide (a0.kind < a1.kind))).bind fun q2 => some q2) else (bif (a0.i != a1.i) then ((s_f100 n (decide (a0.i < a1.i))).bind fun q5 => some q5) else (bif (a0.b != a1.b) then ((s_f100 n a1.b).bind fun q8 => some q8) else (bif (a0.s.data.toList != a1.s.data.toList) then ((s_f100 n (Op.bytesLess a0.s.data.toList a1.s.data.toList)).bind fun q11 => some q11) else (s_f64_l1 n a0 a1 0)))))
def s_f64_l1 : Nat → Val → Val → Int → Option Int
  | 0, _, _, _ => none
  | n + 1, a0, a1, v1_1 => (bif ((decide (v1_1 < (a0.t.length : Int))) && (decide (v1_1 < (a1.t.length : Int)))) then (if 0 ≤ v1_1 then ((a0.t[v1_1.toNat]?).bind fun x28 => (if 0 ≤ v1_1 then ((a1.t[v1_1.toNat]?).bind fun x31 => ((s_f64 n x28 x31).bind fun q34 => (bif (q34 != 0) then some q34 else (s_f64_l1 n a0 a1 (IntKind.i64.wrap (v1_1 + 1)))))) else none)) else none) else (bif ((a0.t.length : Int) != (a1.t.length : Int)) then ((s_f100 n (decide ((a0.t.length : Int) < (a1.t.length : Int)))).bind fun q38 => some q38) else some 0))
end

section
attribute [local simp] pureA pureL pureR inA inL inR inO idsIn encs_pure enxs_pure enys_pure valC_pure exC_pure tyC_pure r_int_u8_pure r_st_GInst_pure r_sl_st_GInst_pure r_st_GMiss_pure
theorem w_f64_a (n : Nat) (ih : ∀ (m : Nat) (a0 : Val) (a1 : Val) (r : Int), s_f64 m a0 a1 = some r → m < n → ACall Tryz.prog 40 [.agg (valC a0), .agg (valC a1)] (.int .i64 r)) (a0 : Val) (a1 : Val) (r : Int) (hr : s_f64 n a0 a1 = some r) : ACall Tryz.prog 40 [.agg (valC a0), .agg (valC a1)] (.int .i64 r) := by
 refine ACall.go [(0, .agg (valC a0)), (1, .agg (valC a1))] Tryz.func40 rfl Tryz.ntmps40 rfl rfl (by simp) ?_
 cases n with
 | zero => rw [s_f64] at hr; cases hr
 | succ n =>
  rw [s_f64] at hr
  refine AW.seq (Rg ?_)
  refine AL.bx good (d := 2) (l := [.int .i64 a0.kind, .int .i64 a0.i, .bool a0.b, .str a0.s, .sl .ro 5 (encs a0.t)]) rfl rfl rfl rfl rfl rfl 0 rfl ?_
  refine AL.bx good (d := 3) (l := [.int .i64 a1.kind, .int .i64 a1.i, .bool a1.b, .str a1.s, .sl .ro 5 (encs a1.t)]) rfl rfl rfl rfl rfl rfl 1 rfl ?_
  refine Av (.int .i64 0) rfl ?_
  refine AW.seq ?_
  refine AW.block ?_
  refine AW.seq (Rg ?_)
  refine Av (.ptr 0 0) rfl ?_
  refine Av (.int .i64 a0.kind) rfl ?_
  refine Av (.ptr 1 0) rfl ?_
  refine Av (.int .i64 a1.kind) rfl ?_
  refine Av (.bool (a0.kind != a1.kind)) rfl ?_
  refine Av (.bool (a0.kind != a1.kind)) rfl ?_
  refine AW.if rfl (fun h1 => ?_) (fun h1 => ?_)
  ·replace hr := cnd_t h1 hr
   refine AW.seq (Rg ?_)
   refine Av (.ptr 0 0) rfl ?_
   refine Av (.int .i64 a0.kind) rfl ?_
   refine Av (.ptr 1 0) rfl ?_
   refine Av (.int .i64 a1.kind) rfl ?_
   refine Av (.bool (decide (a0.kind < a1.kind))) rfl ?_
   obtain ⟨q2, h3, hr⟩ := bnd1 hr
   refine AL.cw good (d := 18) (xs := [.bool (decide (a0.kind < a1.kind))]) (res := .int .i64 q2) rfl rfl rfl rfl rfl rfl rfl (w_f100 _ _ _ h3) ⟨(Wv.refl _), trivial⟩ (by simp) ?_
   refine Av (.int .i64 q2) rfl ?_
   refine AW.ret ?_
   obtain rfl := Option.some.inj hr
   exact RetQ.w good (.inr rfl) rfl rfl (Wv.refl _) (by simp)
  ·replace hr := cnd_f h1 hr
   refine AW.seq (Rg ?_)
   refine Av (.ptr 0 1) rfl ?_
   refine Av (.int .i64 a0.i) rfl ?_
   refine Av (.ptr 1 1) rfl ?_
   refine Av (.int .i64 a1.i) rfl ?_
   refine Av (.bool (a0.i != a1.i)) rfl ?_
   refine Av (.bool (a0.i != a1.i)) rfl ?_
   refine AW.if rfl (fun h4 => ?_) (fun h4 => ?_)
   ·replace hr := cnd_t h4 hr
    refine AW.seq (Rg ?_)
    refine Av (.ptr 0 1) rfl ?_
    refine Av (.int .i64 a0.i) rfl ?_
    refine Av (.ptr 1 1) rfl ?_
    refine Av (.int .i64 a1.i) rfl ?_
    refine Av (.bool (decide (a0.i < a1.i))) rfl ?_
    obtain ⟨q5, h6, hr⟩ := bnd1 hr
    refine AL.cw good (d := 30) (xs := [.bool (decide (a0.i < a1.i))]) (res := .int .i64 q5) rfl rfl rfl rfl rfl rfl rfl (w_f100 _ _ _ h6) ⟨(Wv.refl _), trivial⟩ (by simp) ?_
    refine Av (.int .i64 q5) rfl ?_
    refine AW.ret ?_
    obtain rfl := Option.some.inj hr
    exact RetQ.w good (.inr rfl) rfl rfl (Wv.refl _) (by simp)
   ·replace hr := cnd_f h4 hr
    refine AW.seq (Rg ?_)
    refine Av (.ptr 0 2) rfl ?_
    refine Av (.bool a0.b) rfl ?_
    refine Av (.ptr 1 2) rfl ?_
    refine Av (.bool a1.b) rfl ?_
    refine Av (.bool (a0.b != a1.b)) rfl ?_
    refine Av (.bool (a0.b != a1.b)) rfl ?_
    refine AW.if rfl (fun h7 => ?_) (fun h7 => ?_)
    ·replace hr := cnd_t h7 hr
     refine AW.seq (Rg ?_)
     refine Av (.ptr 1 2) rfl ?_
     refine Av (.bool a1.b) rfl ?_
     obtain ⟨q8, h9, hr⟩ := bnd1 hr
     refine AL.cw good (d := 39) (xs := [.bool a1.b]) (res := .int .i64 q8) rfl rfl rfl rfl rfl rfl rfl (w_f100 _ _ _ h9) ⟨(Wv.refl _), trivial⟩ (by simp) ?_
     refine Av (.int .i64 q8) rfl ?_
     refine AW.ret ?_
     obtain rfl := Option.some.inj hr
     exact RetQ.w good (.inr rfl) rfl rfl (Wv.refl _) (by simp)
    ·replace hr := cnd_f h7 hr
     refine AW.seq (Rg ?_)
     refine Av (.ptr 0 3) rfl ?_
     refine Av (.str a0.s) rfl ?_
     refine Av (.ptr 1 3) rfl ?_
     refine Av (.str a1.s) rfl ?_
     refine AL.sb good (d := 45) (b := (a0.s.data.toList != a1.s.data.toList)) rfl rfl rfl rfl rfl rfl rfl ?_
     refine Av (.bool (a0.s.data.toList != a1.s.data.toList)) rfl ?_
     refine AW.if rfl (fun h10 => ?_) (fun h10 => ?_)
     ·replace hr := cnd_t h10 hr
      refine AW.seq (Rg ?_)
      refine Av (.ptr 0 3) rfl ?_
      refine Av (.str a0.s) rfl ?_
      refine Av (.ptr 1 3) rfl ?_
      refine Av (.str a1.s) rfl ?_
      refine AL.sb good (d := 50) (b := (Op.bytesLess a0.s.data.toList a1.s.data.toList)) rfl rfl rfl rfl rfl rfl rfl ?_
      obtain ⟨q11, h12, hr⟩ := bnd1 hr
      refine AL.cw good (d := 51) (xs := [.bool (Op.bytesLess a0.s.data.toList a1.s.data.toList)]) (res := .int .i64 q11) rfl rfl rfl rfl rfl rfl rfl (w_f100 _ _ _ h12) ⟨(Wv.refl _), trivial⟩ (by simp) ?_
      refine Av (.int .i64 q11) rfl ?_
      refine AW.ret ?_
      obtain rfl := Option.some.inj hr
      exact RetQ.w good (.inr rfl) rfl rfl (Wv.refl _) (by simp)
     ·replace hr := cnd_f h10 hr
      refine AW.skip ?_
      refine AW.seq ?_
      refine AW.seq (Rg ?_)
      refine Av (.int .i64 0) rfl ?_
      refine AW.block ?_
      refine AW.lpw (fun x : Nat × Int => [(2, .ptr 0 0), (3, .ptr 1 0), (5, .int .i64 x.2)]) (fun x => [(0, .box 42 [.int .i64 a0.kind, .int .i64 a0.i, .bool a0.b, .str a0.s, .sl .ro 5 (encs a0.t)]), (1, .box 42 [.int .i64 a1.kind, .int .i64 a1.i, .bool a1.b, .str a1.s, .sl .ro 5 (encs a1.t)])]) (fun x => s_f64_l1 x.1 a0 a1 x.2 = some r ∧ x.1 ≤ n) (fun x => x.1) (n, 0) ⟨(fun _ h => by cases h), fmc ⟨⟨⟨_, rfl, Wv.refl _⟩, (by simp)⟩, fmc ⟨⟨⟨_, rfl, Wv.refl _⟩, (by simp)⟩, fmc ⟨⟨⟨_, rfl, Wv.refl _⟩, (by simp)⟩, (fun _ h => by cases h)⟩⟩⟩, fmc ⟨⟨⟨_, rfl, ⟨rfl, ⟨Wv.refl _, Wv.refl _, Wv.refl _, Wv.refl _, Wv.refl _, trivial⟩⟩⟩, (by simp)⟩, fmc ⟨⟨⟨_, rfl, ⟨rfl, ⟨Wv.refl _, Wv.refl _, Wv.refl _, Wv.refl _, Wv.refl _, trivial⟩⟩⟩, (by simp)⟩, (fun _ h => by cases h)⟩⟩⟩ ⟨hr, Nat.le_refl _⟩ (fun ⟨m, v1_1⟩ hx => ?_)
      obtain ⟨hr, hm⟩ := hx
      try dsimp only at hr hm
      cases m with
      | zero => rw [s_f64_l1] at hr; cases hr
      | succ m =>
       rw [s_f64_l1] at hr
       show AW Tryz.prog _ _ _ (mkS 95 [(2, .ptr 0 0), (3, .ptr 1 0), (5, .int .i64 v1_1)] [(0, .box 42 [.int .i64 a0.kind, .int .i64 a0.i, .bool a0.b, .str a0.s, .sl .ro 5 (encs a0.t)]), (1, .box 42 [.int .i64 a1.kind, .int .i64 a1.i, .bool a1.b, .str a1.s, .sl .ro 5 (encs a1.t)])])
       refine AW.seq ?_
       refine AW.seq (Rg ?_)
       refine Av (.int .i64 v1_1) rfl ?_
       refine Av (.ptr 0 4) rfl ?_
       refine Av (.sl .ro 5 (encs a0.t)) rfl ?_
       refine AL.ln good (d := 55) (m := a0.t.length) rfl rfl rfl rfl rfl rfl (encs_length _) ?_
       refine Av (.bool (decide (v1_1 < (a0.t.length : Int)))) rfl ?_
       refine AL.vb good (d := 57) (b := (decide (v1_1 < (a0.t.length : Int)))) rfl rfl rfl rfl (fun g25 h26 => ?_)
       refine Gv (g25) (.int .i64 v1_1) rfl (by cases g25 <;> exact ⟨rfl, fun h => by first | rfl | cases h⟩) ?_
       refine Gv (g25) (.ptr 1 4) rfl (by cases g25 <;> exact ⟨rfl, fun h => by first | rfl | cases h⟩) ?_
       refine Gv (g25) (.sl .ro 5 (encs a1.t)) rfl (by cases g25 <;> exact ⟨rfl, fun h => by first | rfl | cases h⟩) ?_
       refine AL.gln good (d := 61) (c := g25) (m := a1.t.length) rfl rfl (by cases g25 <;> rfl) rfl rfl (fun h => by cases g25 <;> first | rfl | exact absurd h (by decide)) (encs_length _) ?_
       refine Gv (g25) (.bool (decide (v1_1 < (a1.t.length : Int)))) rfl (by cases g25 <;> exact ⟨rfl, fun h => by first | rfl | cases h⟩) ?_
       refine AL.v good (d := 63) (v := .bool (g25 && (decide (v1_1 < (a1.t.length : Int))))) (rd := []) rfl rfl rfl (by cases g25 <;> rfl) ?_
       subst h26
       refine AW.if rfl (fun h27 => ?_) (fun h27 => ?_)
       ·replace hr := cnd_t h27 hr
        refine AW.skip ?_
        refine AW.seq ?_
        refine AW.block ?_
        refine AW.seq ?_
        refine AW.draw (M := fun i => false) good.wide (by kernel_rfl) ?_
        refine Av (.ptr 0 4) rfl ?_
        refine Av (.sl .ro 5 (encs a0.t)) rfl ?_
        refine Av (.int .i64 v1_1) rfl ?_
        obtain ⟨h30, hr⟩ := grd hr
        obtain ⟨x28, h29, hr⟩ := bnd1 hr
        refine AL.ix good (d := 69) (r := [.int .i64 x28.kind, .int .i64 x28.i, .bool x28.b, .str x28.s, .sl .ro 5 (encs x28.t)]) rfl rfl rfl rfl rfl rfl rfl h30 (encs_get h29) ?_
        refine Av (.agg [.int .i64 x28.kind, .int .i64 x28.i, .bool x28.b, .str x28.s, .sl .ro 5 (encs x28.t)]) rfl ?_
        refine Av (.ptr 1 4) rfl ?_
        refine Av (.sl .ro 5 (encs a1.t)) rfl ?_
        refine Av (.int .i64 v1_1) rfl ?_
        obtain ⟨h33, hr⟩ := grd hr
        obtain ⟨x31, h32, hr⟩ := bnd1 hr
        refine AL.ix good (d := 74) (r := [.int .i64 x31.kind, .int .i64 x31.i, .bool x31.b, .str x31.s, .sl .ro 5 (encs x31.t)]) rfl rfl rfl rfl rfl rfl rfl h33 (encs_get h32) ?_
        refine Av (.agg [.int .i64 x31.kind, .int .i64 x31.i, .bool x31.b, .str x31.s, .sl .ro 5 (encs x31.t)]) rfl ?_
        obtain ⟨q34, h35, hr⟩ := bnd1 hr
        refine AL.cw good (d := 76) (xs := [.agg (valC x28), .agg (valC x31)]) (res := .int .i64 q34) rfl rfl rfl rfl rfl rfl rfl (ih _ _ _ _ h35 (by omega)) ⟨(Wv.refl _), (Wv.refl _), trivial⟩ (by simp) ?_
        refine Av (.int .i64 q34) rfl ?_
        refine AW.seq (Rg ?_)
        refine Av (.int .i64 q34) rfl ?_
        refine Av (.bool (q34 != 0)) rfl ?_
        refine AW.if rfl (fun h36 => ?_) (fun h36 => ?_)
        ·replace hr := cnd_t h36 hr
         refine AW.seq (Rg ?_)
         refine Av (.int .i64 q34) rfl ?_
         refine Av (.int .i64 q34) rfl ?_
         refine AW.ret ?_
         obtain rfl := Option.some.inj hr
         exact RetQ.w good (.inr rfl) rfl rfl (Wv.refl _) (by simp)
        ·replace hr := cnd_f h36 hr
         refine AW.skip ?_
         refine Rg ?_
         refine Av (.int .i64 v1_1) rfl ?_
         refine Av (.int .i64 (IntKind.i64.wrap (v1_1 + 1))) rfl ?_
         refine Av (.int .i64 (IntKind.i64.wrap (v1_1 + 1))) rfl ?_
         exact ⟨(m, (IntKind.i64.wrap (v1_1 + 1))), _, _, rfl, ⟨(fun _ h => by cases h), fmc ⟨⟨⟨_, rfl, Wv.refl _⟩, (by simp)⟩, fmc ⟨⟨⟨_, rfl, Wv.refl _⟩, (by simp)⟩, fmc ⟨⟨⟨_, rfl, Wv.refl _⟩, (by simp)⟩, (fun _ h => by cases h)⟩⟩⟩, fmc ⟨⟨⟨_, rfl, ⟨rfl, ⟨Wv.refl _, Wv.refl _, Wv.refl _, Wv.refl _, Wv.refl _, trivial⟩⟩⟩, (by simp)⟩, fmc ⟨⟨⟨_, rfl, ⟨rfl, ⟨Wv.refl _, Wv.refl _, Wv.refl _, Wv.refl _, Wv.refl _, trivial⟩⟩⟩, (by simp)⟩, (fun _ h => by cases h)⟩⟩⟩, ⟨hr, Nat.le_of_succ_le hm⟩, Nat.lt_succ_self _⟩
       ·replace hr := cnd_f h27 hr
        refine AW.exit ?_
        refine AW.seq ?_
        refine AW.seq (Rg ?_)
        refine Av (.ptr 0 4) rfl ?_
        refine Av (.sl .ro 5 (encs a0.t)) rfl ?_
        refine AL.ln good (d := 82) (m := a0.t.length) rfl rfl rfl rfl rfl rfl (encs_length _) ?_
        refine Av (.ptr 1 4) rfl ?_
        refine Av (.sl .ro 5 (encs a1.t)) rfl ?_
        refine AL.ln good (d := 85) (m := a1.t.length) rfl rfl rfl rfl rfl rfl (encs_length _) ?_
        refine Av (.bool ((a0.t.length : Int) != (a1.t.length : Int))) rfl ?_
        refine AW.if rfl (fun h37 => ?_) (fun h37 => ?_)
        ·replace hr := cnd_t h37 hr
         refine AW.seq (Rg ?_)
         refine Av (.ptr 0 4) rfl ?_
         refine Av (.sl .ro 5 (encs a0.t)) rfl ?_
         refine AL.ln good (d := 89) (m := a0.t.length) rfl rfl rfl rfl rfl rfl (encs_length _) ?_
         refine Av (.ptr 1 4) rfl ?_
         refine Av (.sl .ro 5 (encs a1.t)) rfl ?_
         refine AL.ln good (d := 92) (m := a1.t.length) rfl rfl rfl rfl rfl rfl (encs_length _) ?_
         refine Av (.bool (decide ((a0.t.length : Int) < (a1.t.length : Int)))) rfl ?_
         obtain ⟨q38, h39, hr⟩ := bnd1 hr
         refine AL.cw good (d := 94) (xs := [.bool (decide ((a0.t.length : Int) < (a1.t.length : Int)))]) (res := .int .i64 q38) rfl rfl rfl rfl rfl rfl rfl (w_f100 _ _ _ h39) ⟨(Wv.refl _), trivial⟩ (by simp) ?_
         refine Av (.int .i64 q38) rfl ?_
         refine AW.ret ?_
         obtain rfl := Option.some.inj hr
         exact RetQ.w good (.inr rfl) rfl rfl (Wv.refl _) (by simp)
        ·replace hr := cnd_f h37 hr
         refine AW.skip ?_
         refine AW.seq (Rg ?_)
         refine Av (.int .i64 0) rfl ?_
         refine AW.ret ?_
         obtain rfl := Option.some.inj hr
         exact RetQ.w good (.inr rfl) rfl rfl (Wv.refl _) (by simp)
theorem w_f64 (n : Nat) : ∀ (a0 : Val) (a1 : Val) (r : Int) (hr : s_f64 n a0 a1 = some r), ACall Tryz.prog 40 [.agg (valC a0), .agg (valC a1)] (.int .i64 r) := by
 induction n using Nat.strongRecOn with
 | _ n ih =>
  intro a0 a1 r hr
  exact w_f64_a n (fun m a0 a1 r h hm => ih m hm a0 a1 r h) a0 a1 r hr

def s_f25 (n : Nat) (a0 : Val) (a1 : Val) : Option Bool :=
  ((s_f64 n a0 a1).bind fun q1 => some (q1 == 0))

theorem w_f25 (n : Nat) (a0 : Val) (a1 : Val) (r : Bool) (hr : s_f25 n a0 a1 = some r) : ACall Tryz.prog 16 [.agg (valC a0), .agg (valC a1)] (.bool r) := by
 refine ACall.go [(0, .agg (valC a0)), (1, .agg (valC a1))] Tryz.func16 rfl Tryz.ntmps16 rfl rfl (by simp) ?_
 rw [s_f25] at hr
 refine AW.seq (Rg ?_)
 refine AL.bx good (d := 2) (l := [.int .i64 a0.kind, .int .i64 a0.i, .bool a0.b, .str a0.s, .sl .ro 5 (encs a0.t)]) rfl rfl rfl rfl rfl rfl 0 rfl ?_
 refine AL.bx good (d := 3) (l := [.int .i64 a1.kind, .int .i64 a1.i, .bool a1.b, .str a1.s, .sl .ro 5 (encs a1.t)]) rfl rfl rfl rfl rfl rfl 1 rfl ?_
 refine Av (.bool false) rfl ?_
 refine AW.seq (Rg ?_)
 refine Av (.agg [.int .i64 a0.kind, .int .i64 a0.i, .bool a0.b, .str a0.s, .sl .ro 5 (encs a0.t)]) rfl ?_
 refine Av (.agg [.int .i64 a1.kind, .int .i64 a1.i, .bool a1.b, .str a1.s, .sl .ro 5 (encs a1.t)]) rfl ?_
 obtain ⟨q1, h2, hr⟩ := bnd1 hr
 refine AL.cw good (d := 7) (xs := [.agg (valC a0), .agg (valC a1)]) (res := .int .i64 q1) rfl rfl rfl rfl rfl rfl rfl (w_f64 _ _ _ _ h2) ⟨(Wv.refl _), (Wv.refl _), trivial⟩ (by simp) ?_
 refine Av (.bool (q1 == 0)) rfl ?_
 refine Av (.bool (q1 == 0)) rfl ?_
 refine AW.ret ?_
 obtain rfl := Option.some.inj hr
 exact RetQ.w good (.inr rfl) rfl rfl (Wv.refl _) (by simp)

end
end Go.Proofs.YtbcjcekoonebiaaGreat.Tl

set_option linter.unusedVariables false
set_option linter.unusedSimpArgs false
namespace Go.Proofs.YtbcjcekoonebiaaGreat.Tl
open Go Go.RowKit
def s_f63 (n : Nat) (a0 : ByteArray) (a1 : Int) (a2 : List Val) : Option (Val × Int) :=
  (bif (a0.data.toList == [97, 116]) then ((a2[0]?).bind fun x2 => (if 0 ≤ a1 then ((x2.t[a1.toNat]?).bind fun x4 => some (x4, 0)) else none)) else (bif (a0.data.toList == [116, 117, 112]) then (if a2.length ≤ 1000000 then some ((Val.mk 4 0 false ⟨#[]⟩ a2), 0) else none) else (bif (a0.data.toList == [110, 101, 103]) then ((a2[0]?).bind fun x10 => some ((Val.mk 1 (IntKind.i64.wrap (0 - x10.i)) false ⟨#[]⟩ []), 0)) else (bif (a0.data.toList == [110, 111, 116]) then ((a2[0]?).bind fun x13 => some ((Val.mk 2 0 (!x13.b) ⟨#[]⟩ []), 0)) else (bif (a0.data.toList == [108, 101, 110]) then ((a2[0]?).bind fun x16 => some ((Val.mk 1 (x16.s.size : Int) false ⟨#[]⟩ []), 0)) else (bif (a0.data.toList == [97, 100, 100]) then ((a2[0]?).bind fun x19 => ((a2[1]?).bind fun x21 => some ((Val.mk 1 (IntKind.i64.wrap (x19.i + x21.i)) false ⟨#[]⟩ []), 0))) else (bif (a0.data.toList == [115, 117, 98]) then ((a2[0]?).bind fun x24 => ((a2[1]?).bind fun x26 => some ((Val.mk 1 (IntKind.i64.wrap (x24.i - x26.i)) false ⟨#[]⟩ []), 0))) else (bif (a0.data.toList == [109, 117, 108]) then ((a2[0]?).bind fun x29 => ((a2[1]?).bind fun x31 => some ((Val.mk 1 (IntKind.i64.wrap (x29.i * x31.i)) false ⟨#[]⟩ []), 0))) else (bif (a0.data.toList == [101, 113]) then ((a2[0]?).bind fun x34 => ((a2[1]?).bind fun x36 => ((s_f25 n x34 x36).bind fun q38 => some ((Val.mk 2 0 q38 ⟨#[]⟩ []), 0)))) else (bif (a0.data.toList == [108, 116]) then ((a2[0]?).bind fun x41 => ((a2[1]?).bind fun x43 => ((s_f64 n x41 x43).bind fun q45 => some ((Val.mk 2 0 (decide (q45 < 0)) ⟨#[]⟩ []), 0)))) else (bif (a0.data.toList == [99, 97, 116]) then ((a2[0]?).bind fun x48 => ((a2[1]?).bind fun x50 => (if x48.s.size + x50.s.size ≤ 1000000 then (bif (decide (((x48.s ++ x50.s).size : Int) > 255)) then some ((Val.mk 0 0 false ⟨#[]⟩ []), 4) else some ((Val.mk 3 0 false (x48.s ++ x50.s) []), 0)) else none))) else ((a2[1]?).bind fun x54 => (bif (x54.i == 0) then some ((Val.mk 0 0 false ⟨#[]⟩ []), 8) else ((a2[1]?).bind fun x57 => (bif (x57.i == (-1)) then (bif (a0.data.toList == [100, 105, 118]) then ((a2[0]?).bind fun x61 => some ((Val.mk 1 (IntKind.i64.wrap (0 - x61.i)) false ⟨#[]⟩ []), 0)) else some ((Val.mk 1 0 false ⟨#[]⟩ []), 0)) else (bif (a0.data.toList == [100, 105, 118]) then ((a2[0]?).bind fun x64 => ((a2[1]?).bind fun x66 => (if x66.i ≠ 0 then some ((Val.mk 1 (IntKind.i64.wrap (x64.i.tdiv x66.i)) false ⟨#[]⟩ []), 0) else none))) else ((a2[0]?).bind fun x69 => ((a2[1]?).bind fun x71 => (if x71.i ≠ 0 then some ((Val.mk 1 (x69.i.tmod x71.i) false ⟨#[]⟩ []), 0) else none)))))))))))))))))))

section
attribute [local simp] pureA pureL pureR inA inL inR inO idsIn encs_pure enxs_pure enys_pure valC_pure exC_pure tyC_pure r_int_u8_pure r_st_GInst_pure r_sl_st_GInst_pure r_st_GMiss_pure
theorem w_f63 (n : Nat) (a0 : ByteArray) (a1 : Int) (a2 : List Val) (r : Val × Int) (hr : s_f63 n a0 a1 a2 = some r) : ACall Tryz.prog 39 [.str a0, .int .i64 a1, .sl .ro 5 (encs a2)] (.tup [.agg (valC r.1), .int .i64 r.2]) := by
 refine ACall.go [(0, .str a0), (1, .int .i64 a1), (2, .sl .ro 5 (encs a2))] Tryz.func39 rfl Tryz.ntmps39 rfl rfl (by simp) ?_
 rw [s_f63] at hr
 refine AW.seq (Rg ?_)
 refine AL.alc good (d := 6) rfl rfl rfl rfl rfl 0 rfl ?_
 refine Av (.int .i64 0) rfl ?_
 refine AW.seq ?_
 refine AW.seq (Rg ?_)
 refine Av (.str a0) rfl ?_
 refine AW.block ?_
 refine AW.seq (Rg ?_)
 refine AL.sb good (d := 11) (b := (a0.data.toList == [97, 116])) rfl rfl rfl rfl rfl rfl rfl ?_
 refine Av (.bool (a0.data.toList == [97, 116])) rfl ?_
 refine AW.if rfl (fun h1 => ?_) (fun h1 => ?_)
 ·replace hr := cnd_t h1 hr
  refine AW.seq (Rg ?_)
  refine Av (.sl .ro 5 (encs a2)) rfl ?_
  obtain ⟨x2, h3, hr⟩ := bnd1 hr
  refine AL.ix good (d := 13) (r := [.int .i64 x2.kind, .int .i64 x2.i, .bool x2.b, .str x2.s, .sl .ro 5 (encs x2.t)]) rfl rfl rfl rfl rfl rfl rfl (by decide) (encs_get h3) ?_
  refine Av (.ep [.sl .ro 5 (encs x2.t)]) rfl ?_
  refine Av (.sl .ro 5 (encs x2.t)) rfl ?_
  refine Av (.int .i64 a1) rfl ?_
  obtain ⟨h6, hr⟩ := grd hr
  obtain ⟨x4, h5, hr⟩ := bnd1 hr
  refine AL.ix good (d := 17) (r := [.int .i64 x4.kind, .int .i64 x4.i, .bool x4.b, .str x4.s, .sl .ro 5 (encs x4.t)]) rfl rfl rfl rfl rfl rfl rfl h6 (encs_get h5) ?_
  refine Av (.agg [.int .i64 x4.kind, .int .i64 x4.i, .bool x4.b, .str x4.s, .sl .ro 5 (encs x4.t)]) rfl ?_
  refine AL.st2 good (c2 := [.int .i64 x4.kind, .int .i64 x4.i, .bool x4.b, .str x4.s, .sl .ro 5 (encs x4.t)]) rfl rfl rfl rfl rfl rfl rfl rfl rfl rfl rfl rfl ?_
  refine Av (.int .i64 0) rfl ?_
  refine AW.ret ?_
  obtain rfl := Option.some.inj hr
  exact RetQ.w good (.inr rfl) rfl rfl (Wv.refl _) (by simp)
 ·replace hr := cnd_f h1 hr
  refine AW.seq (Rg ?_)
  refine AL.sb good (d := 20) (b := (a0.data.toList == [116, 117, 112])) rfl rfl rfl rfl rfl rfl rfl ?_
  refine Av (.bool (a0.data.toList == [116, 117, 112])) rfl ?_
  refine AW.if rfl (fun h7 => ?_) (fun h7 => ?_)
  ·replace hr := cnd_t h7 hr
   refine AW.seq (Rg ?_)
   refine AL.lit good (d := 21) (rows := []) rfl rfl rfl rfl rfl rfl rfl rfl rfl 1 rfl ?_
   refine Av (.sl .ro 5 (encs a2)) rfl ?_
   obtain ⟨h8, hr⟩ := grd hr
   refine AL.aw2 good (d := 23) (rows := encs []) (news := encs a2) (rows2 := encs a2) rfl rfl rfl rfl rfl rfl rfl rfl rfl (by simp) rfl rfl rfl (WvR.refl _) (by simp [encs_map]) (by rw [encs_length]; exact h8) rfl ?_
   refine AL.bld good (d := 24) (l := [.int .i64 4, .int .i64 0, .bool false, .str ⟨#[]⟩, .sl (.own 1) 5 (encs a2)]) rfl rfl rfl rfl rfl rfl rfl ?_
   refine AL.st2 good (c2 := [.int .i64 4, .int .i64 0, .bool false, .str ⟨#[]⟩, .sl (.own 1) 5 (encs a2)]) rfl rfl rfl rfl rfl rfl rfl rfl rfl rfl rfl rfl ?_
   refine Av (.int .i64 0) rfl ?_
   refine AW.ret ?_
   obtain rfl := Option.some.inj hr
   exact RetQ.w good (.inr rfl) rfl rfl ⟨⟨Wv.refl _, Wv.refl _, Wv.refl _, Wv.refl _, ⟨.inr rfl, WvR.refl _, .inl rfl⟩, trivial⟩, Wv.refl _, trivial⟩ (by simp)
  ·replace hr := cnd_f h7 hr
   refine AW.seq (Rg ?_)
   refine AL.sb good (d := 26) (b := (a0.data.toList == [110, 101, 103])) rfl rfl rfl rfl rfl rfl rfl ?_
   refine Av (.bool (a0.data.toList == [110, 101, 103])) rfl ?_
   refine AW.if rfl (fun h9 => ?_) (fun h9 => ?_)
   ·replace hr := cnd_t h9 hr
    refine AW.seq (Rg ?_)
    refine Av (.sl .ro 5 (encs a2)) rfl ?_
    obtain ⟨x10, h11, hr⟩ := bnd1 hr
    refine AL.ix good (d := 28) (r := [.int .i64 x10.kind, .int .i64 x10.i, .bool x10.b, .str x10.s, .sl .ro 5 (encs x10.t)]) rfl rfl rfl rfl rfl rfl rfl (by decide) (encs_get h11) ?_
    refine Av (.ep [.int .i64 x10.i, .bool x10.b, .str x10.s, .sl .ro 5 (encs x10.t)]) rfl ?_
    refine Av (.int .i64 x10.i) rfl ?_
    refine Av (.int .i64 (IntKind.i64.wrap (0 - x10.i))) rfl ?_
    refine AL.cw good (d := 32) (xs := [.int .i64 (IntKind.i64.wrap (0 - x10.i))]) (res := .agg [.int .i64 1, .int .i64 (IntKind.i64.wrap (0 - x10.i)), .bool false, .str ⟨#[]⟩, .sl .ro 5 (encs [])]) rfl rfl rfl rfl rfl rfl rfl (w_f53 (IntKind.i64.wrap (0 - x10.i))) ⟨(Wv.refl _), trivial⟩ (by simp) ?_
    refine AL.st2 good (c2 := [.int .i64 1, .int .i64 (IntKind.i64.wrap (0 - x10.i)), .bool false, .str ⟨#[]⟩, .sl .ro 5 (encs [])]) rfl rfl rfl rfl rfl rfl rfl rfl rfl rfl rfl rfl ?_
    refine Av (.int .i64 0) rfl ?_
    refine AW.ret ?_
    obtain rfl := Option.some.inj hr
    exact RetQ.w good (.inr rfl) rfl rfl (Wv.refl _) (by simp)
   ·replace hr := cnd_f h9 hr
    refine AW.seq (Rg ?_)
    refine AL.sb good (d := 34) (b := (a0.data.toList == [110, 111, 116])) rfl rfl rfl rfl rfl rfl rfl ?_
    refine Av (.bool (a0.data.toList == [110, 111, 116])) rfl ?_
    refine AW.if rfl (fun h12 => ?_) (fun h12 => ?_)
    ·replace hr := cnd_t h12 hr
     refine AW.seq (Rg ?_)
     refine Av (.sl .ro 5 (encs a2)) rfl ?_
     obtain ⟨x13, h14, hr⟩ := bnd1 hr
     refine AL.ix good (d := 36) (r := [.int .i64 x13.kind, .int .i64 x13.i, .bool x13.b, .str x13.s, .sl .ro 5 (encs x13.t)]) rfl rfl rfl rfl rfl rfl rfl (by decide) (encs_get h14) ?_
     refine Av (.ep [.bool x13.b, .str x13.s, .sl .ro 5 (encs x13.t)]) rfl ?_
     refine Av (.bool x13.b) rfl ?_
     refine Av (.bool (!x13.b)) rfl ?_
     refine AL.cw good (d := 40) (xs := [.bool (!x13.b)]) (res := .agg [.int .i64 2, .int .i64 0, .bool (!x13.b), .str ⟨#[]⟩, .sl .ro 5 (encs [])]) rfl rfl rfl rfl rfl rfl rfl (w_f99 (!x13.b)) ⟨(Wv.refl _), trivial⟩ (by simp) ?_
     refine AL.st2 good (c2 := [.int .i64 2, .int .i64 0, .bool (!x13.b), .str ⟨#[]⟩, .sl .ro 5 (encs [])]) rfl rfl rfl rfl rfl rfl rfl rfl rfl rfl rfl rfl ?_
     refine Av (.int .i64 0) rfl ?_
     refine AW.ret ?_
     obtain rfl := Option.some.inj hr
     exact RetQ.w good (.inr rfl) rfl rfl (Wv.refl _) (by simp)
    ·replace hr := cnd_f h12 hr
     refine AW.seq (Rg ?_)
     refine AL.sb good (d := 42) (b := (a0.data.toList == [108, 101, 110])) rfl rfl rfl rfl rfl rfl rfl ?_
     refine Av (.bool (a0.data.toList == [108, 101, 110])) rfl ?_
     refine AW.if rfl (fun h15 => ?_) (fun h15 => ?_)
     ·replace hr := cnd_t h15 hr
      refine AW.seq (Rg ?_)
      refine Av (.sl .ro 5 (encs a2)) rfl ?_
      obtain ⟨x16, h17, hr⟩ := bnd1 hr
      refine AL.ix good (d := 44) (r := [.int .i64 x16.kind, .int .i64 x16.i, .bool x16.b, .str x16.s, .sl .ro 5 (encs x16.t)]) rfl rfl rfl rfl rfl rfl rfl (by decide) (encs_get h17) ?_
      refine Av (.ep [.str x16.s, .sl .ro 5 (encs x16.t)]) rfl ?_
      refine Av (.str x16.s) rfl ?_
      refine Av (.int .i64 (x16.s.size : Int)) rfl ?_
      refine AL.cw good (d := 48) (xs := [.int .i64 (x16.s.size : Int)]) (res := .agg [.int .i64 1, .int .i64 (x16.s.size : Int), .bool false, .str ⟨#[]⟩, .sl .ro 5 (encs [])]) rfl rfl rfl rfl rfl rfl rfl (w_f53 (x16.s.size : Int)) ⟨(Wv.refl _), trivial⟩ (by simp) ?_
      refine AL.st2 good (c2 := [.int .i64 1, .int .i64 (x16.s.size : Int), .bool false, .str ⟨#[]⟩, .sl .ro 5 (encs [])]) rfl rfl rfl rfl rfl rfl rfl rfl rfl rfl rfl rfl ?_
      refine Av (.int .i64 0) rfl ?_
      refine AW.ret ?_
      obtain rfl := Option.some.inj hr
      exact RetQ.w good (.inr rfl) rfl rfl (Wv.refl _) (by simp)
     ·replace hr := cnd_f h15 hr
      refine AW.seq (Rg ?_)
      refine AL.sb good (d := 50) (b := (a0.data.toList == [97, 100, 100])) rfl rfl rfl rfl rfl rfl rfl ?_
      refine Av (.bool (a0.data.toList == [97, 100, 100])) rfl ?_
      refine AW.if rfl (fun h18 => ?_) (fun h18 => ?_)
      ·replace hr := cnd_t h18 hr
       refine AW.seq ?_
       refine AW.drawc (M := fun i => ⟨Nat.beq i 10, bif Nat.beq i 3 then some { ids := [] } else bif Nat.beq i 7 then some { ids := [] } else bif Nat.beq i 10 then some { ids := [0] } else none⟩) good.wide (by kernel_rfl) ?_
       refine Av (nc := ⟨rfl⟩) (.sl .ro 5 (encs a2)) rfl ?_
       obtain ⟨x19, h20, hr⟩ := bnd1 hr
       refine AL.ix (nc := ⟨rfl⟩) good (d := 52) (r := [.int .i64 x19.kind, .int .i64 x19.i, .bool x19.b, .str x19.s, .sl .ro 5 (encs x19.t)]) rfl rfl rfl rfl rfl rfl rfl (by decide) (encs_get h20) ?_
       refine Av (nc := ⟨rfl⟩) (.ep [.int .i64 x19.i, .bool x19.b, .str x19.s, .sl .ro 5 (encs x19.t)]) rfl ?_
       refine AL.vc good (d := 54) (v := .int .i64 x19.i) rfl rfl rfl rfl rfl rfl (fun _ h => by cases h) ?_
       refine Av (nc := ⟨rfl⟩) (.sl .ro 5 (encs a2)) rfl ?_
       obtain ⟨x21, h22, hr⟩ := bnd1 hr
       refine AL.ix (nc := ⟨rfl⟩) good (d := 56) (r := [.int .i64 x21.kind, .int .i64 x21.i, .bool x21.b, .str x21.s, .sl .ro 5 (encs x21.t)]) rfl rfl rfl rfl rfl rfl rfl (by decide) (encs_get h22) ?_
       refine Av (nc := ⟨rfl⟩) (.ep [.int .i64 x21.i, .bool x21.b, .str x21.s, .sl .ro 5 (encs x21.t)]) rfl ?_
       refine AL.vc good (d := 58) (v := .int .i64 x21.i) rfl rfl rfl rfl rfl rfl (fun _ h => by cases h) ?_
       refine Av (nc := ⟨rfl⟩) (.int .i64 (IntKind.i64.wrap (x19.i + x21.i))) rfl ?_
       refine AL.cw (nc := ⟨rfl⟩) good (d := 60) (xs := [.int .i64 (IntKind.i64.wrap (x19.i + x21.i))]) (res := .agg [.int .i64 1, .int .i64 (IntKind.i64.wrap (x19.i + x21.i)), .bool false, .str ⟨#[]⟩, .sl .ro 5 (encs [])]) rfl rfl rfl rfl rfl rfl rfl (w_f53 (IntKind.i64.wrap (x19.i + x21.i))) ⟨(Wv.refl _), trivial⟩ (by simp) ?_
       refine AL.st2c good (c2 := [.int .i64 1, .int .i64 (IntKind.i64.wrap (x19.i + x21.i)), .bool false, .str ⟨#[]⟩, .sl .ro 5 (encs [])]) rfl rfl rfl rfl rfl rfl rfl rfl rfl rfl rfl rfl rfl ?_
       refine Av (nc := ⟨rfl⟩) (.int .i64 0) rfl ?_
       refine AW.ret ?_
       obtain rfl := Option.some.inj hr
       exact RetQ.w good (.inr rfl) rfl rfl (Wv.refl _) (by simp)
      ·replace hr := cnd_f h18 hr
       refine AW.seq (Rg ?_)
       refine AL.sb good (d := 62) (b := (a0.data.toList == [115, 117, 98])) rfl rfl rfl rfl rfl rfl rfl ?_
       refine Av (.bool (a0.data.toList == [115, 117, 98])) rfl ?_
       refine AW.if rfl (fun h23 => ?_) (fun h23 => ?_)
       ·replace hr := cnd_t h23 hr
        refine AW.seq ?_
        refine AW.drawc (M := fun i => ⟨Nat.beq i 10, bif Nat.beq i 3 then some { ids := [] } else bif Nat.beq i 7 then some { ids := [] } else bif Nat.beq i 10 then some { ids := [0] } else none⟩) good.wide (by kernel_rfl) ?_
        refine Av (nc := ⟨rfl⟩) (.sl .ro 5 (encs a2)) rfl ?_
        obtain ⟨x24, h25, hr⟩ := bnd1 hr
        refine AL.ix (nc := ⟨rfl⟩) good (d := 64) (r := [.int .i64 x24.kind, .int .i64 x24.i, .bool x24.b, .str x24.s, .sl .ro 5 (encs x24.t)]) rfl rfl rfl rfl rfl rfl rfl (by decide) (encs_get h25) ?_
        refine Av (nc := ⟨rfl⟩) (.ep [.int .i64 x24.i, .bool x24.b, .str x24.s, .sl .ro 5 (encs x24.t)]) rfl ?_
        refine AL.vc good (d := 66) (v := .int .i64 x24.i) rfl rfl rfl rfl rfl rfl (fun _ h => by cases h) ?_
        refine Av (nc := ⟨rfl⟩) (.sl .ro 5 (encs a2)) rfl ?_
        obtain ⟨x26, h27, hr⟩ := bnd1 hr
        refine AL.ix (nc := ⟨rfl⟩) good (d := 68) (r := [.int .i64 x26.kind, .int .i64 x26.i, .bool x26.b, .str x26.s, .sl .ro 5 (encs x26.t)]) rfl rfl rfl rfl rfl rfl rfl (by decide) (encs_get h27) ?_
        refine Av (nc := ⟨rfl⟩) (.ep [.int .i64 x26.i, .bool x26.b, .str x26.s, .sl .ro 5 (encs x26.t)]) rfl ?_
        refine AL.vc good (d := 70) (v := .int .i64 x26.i) rfl rfl rfl rfl rfl rfl (fun _ h => by cases h) ?_
        refine Av (nc := ⟨rfl⟩) (.int .i64 (IntKind.i64.wrap (x24.i - x26.i))) rfl ?_
        refine AL.cw (nc := ⟨rfl⟩) good (d := 72) (xs := [.int .i64 (IntKind.i64.wrap (x24.i - x26.i))]) (res := .agg [.int .i64 1, .int .i64 (IntKind.i64.wrap (x24.i - x26.i)), .bool false, .str ⟨#[]⟩, .sl .ro 5 (encs [])]) rfl rfl rfl rfl rfl rfl rfl (w_f53 (IntKind.i64.wrap (x24.i - x26.i))) ⟨(Wv.refl _), trivial⟩ (by simp) ?_
        refine AL.st2c good (c2 := [.int .i64 1, .int .i64 (IntKind.i64.wrap (x24.i - x26.i)), .bool false, .str ⟨#[]⟩, .sl .ro 5 (encs [])]) rfl rfl rfl rfl rfl rfl rfl rfl rfl rfl rfl rfl rfl ?_
        refine Av (nc := ⟨rfl⟩) (.int .i64 0) rfl ?_
        refine AW.ret ?_
        obtain rfl := Option.some.inj hr
        exact RetQ.w good (.inr rfl) rfl rfl (Wv.refl _) (by simp)
       ·replace hr := cnd_f h23 hr
        refine AW.seq (Rg ?_)
        refine AL.sb good (d := 74) (b := (a0.data.toList == [109, 117, 108])) rfl rfl rfl rfl rfl rfl rfl ?_
        refine Av (.bool (a0.data.toList == [109, 117, 108])) rfl ?_
        refine AW.if rfl (fun h28 => ?_) (fun h28 => ?_)
        ·replace hr := cnd_t h28 hr
         refine AW.seq ?_
         refine AW.drawc (M := fun i => ⟨Nat.beq i 10, bif Nat.beq i 3 then some { ids := [] } else bif Nat.beq i 7 then some { ids := [] } else bif Nat.beq i 10 then some { ids := [0] } else none⟩) good.wide (by kernel_rfl) ?_
         refine Av (nc := ⟨rfl⟩) (.sl .ro 5 (encs a2)) rfl ?_
         obtain ⟨x29, h30, hr⟩ := bnd1 hr
         refine AL.ix (nc := ⟨rfl⟩) good (d := 76) (r := [.int .i64 x29.kind, .int .i64 x29.i, .bool x29.b, .str x29.s, .sl .ro 5 (encs x29.t)]) rfl rfl rfl rfl rfl rfl rfl (by decide) (encs_get h30) ?_
         refine Av (nc := ⟨rfl⟩) (.ep [.int .i64 x29.i, .bool x29.b, .str x29.s, .sl .ro 5 (encs x29.t)]) rfl ?_
         refine AL.vc good (d := 78) (v := .int .i64 x29.i) rfl rfl rfl rfl rfl rfl (fun _ h => by cases h) ?_
         refine Av (nc := ⟨rfl⟩) (.sl .ro 5 (encs a2)) rfl ?_
         obtain ⟨x31, h32, hr⟩ := bnd1 hr
         refine AL.ix (nc := ⟨rfl⟩) good (d := 80) (r := [.int .i64 x31.kind, .int .i64 x31.i, .bool x31.b, .str x31.s, .sl .ro 5 (encs x31.t)]) rfl rfl rfl rfl rfl rfl rfl (by decide) (encs_get h32) ?_
         refine Av (nc := ⟨rfl⟩) (.ep [.int .i64 x31.i, .bool x31.b, .str x31.s, .sl .ro 5 (encs x31.t)]) rfl ?_
         refine AL.vc good (d := 82) (v := .int .i64 x31.i) rfl rfl rfl rfl rfl rfl (fun _ h => by cases h) ?_
         refine Av (nc := ⟨rfl⟩) (.int .i64 (IntKind.i64.wrap (x29.i * x31.i))) rfl ?_
         refine AL.cw (nc := ⟨rfl⟩) good (d := 84) (xs := [.int .i64 (IntKind.i64.wrap (x29.i * x31.i))]) (res := .agg [.int .i64 1, .int .i64 (IntKind.i64.wrap (x29.i * x31.i)), .bool false, .str ⟨#[]⟩, .sl .ro 5 (encs [])]) rfl rfl rfl rfl rfl rfl rfl (w_f53 (IntKind.i64.wrap (x29.i * x31.i))) ⟨(Wv.refl _), trivial⟩ (by simp) ?_
         refine AL.st2c good (c2 := [.int .i64 1, .int .i64 (IntKind.i64.wrap (x29.i * x31.i)), .bool false, .str ⟨#[]⟩, .sl .ro 5 (encs [])]) rfl rfl rfl rfl rfl rfl rfl rfl rfl rfl rfl rfl rfl ?_
         refine Av (nc := ⟨rfl⟩) (.int .i64 0) rfl ?_
         refine AW.ret ?_
         obtain rfl := Option.some.inj hr
         exact RetQ.w good (.inr rfl) rfl rfl (Wv.refl _) (by simp)
        ·replace hr := cnd_f h28 hr
         refine AW.seq (Rg ?_)
         refine AL.sb good (d := 86) (b := (a0.data.toList == [101, 113])) rfl rfl rfl rfl rfl rfl rfl ?_
         refine Av (.bool (a0.data.toList == [101, 113])) rfl ?_
         refine AW.if rfl (fun h33 => ?_) (fun h33 => ?_)
         ·replace hr := cnd_t h33 hr
          refine AW.seq ?_
          refine AW.drawc (M := fun i => ⟨Nat.beq i 8, bif Nat.beq i 2 then some { ids := [] } else bif Nat.beq i 5 then some { ids := [] } else bif Nat.beq i 8 then some { ids := [0] } else none⟩) good.wide (by kernel_rfl) ?_
          refine Av (nc := ⟨rfl⟩) (.sl .ro 5 (encs a2)) rfl ?_
          obtain ⟨x34, h35, hr⟩ := bnd1 hr
          refine AL.ix (nc := ⟨rfl⟩) good (d := 88) (r := [.int .i64 x34.kind, .int .i64 x34.i, .bool x34.b, .str x34.s, .sl .ro 5 (encs x34.t)]) rfl rfl rfl rfl rfl rfl rfl (by decide) (encs_get h35) ?_
          refine AL.vc good (d := 89) (v := .agg [.int .i64 x34.kind, .int .i64 x34.i, .bool x34.b, .str x34.s, .sl .ro 5 (encs x34.t)]) rfl rfl rfl rfl rfl rfl (fun _ h => by cases h) ?_
          refine Av (nc := ⟨rfl⟩) (.sl .ro 5 (encs a2)) rfl ?_
          obtain ⟨x36, h37, hr⟩ := bnd1 hr
          refine AL.ix (nc := ⟨rfl⟩) good (d := 91) (r := [.int .i64 x36.kind, .int .i64 x36.i, .bool x36.b, .str x36.s, .sl .ro 5 (encs x36.t)]) rfl rfl rfl rfl rfl rfl rfl (by decide) (encs_get h37) ?_
          refine AL.vc good (d := 92) (v := .agg [.int .i64 x36.kind, .int .i64 x36.i, .bool x36.b, .str x36.s, .sl .ro 5 (encs x36.t)]) rfl rfl rfl rfl rfl rfl (fun _ h => by cases h) ?_
          obtain ⟨q38, h39, hr⟩ := bnd1 hr
          refine AL.cw (nc := ⟨rfl⟩) good (d := 93) (xs := [.agg (valC x34), .agg (valC x36)]) (res := .bool q38) rfl rfl rfl rfl rfl rfl rfl (w_f25 _ _ _ _ h39) ⟨(Wv.refl _), (Wv.refl _), trivial⟩ (by simp) ?_
          refine AL.cw (nc := ⟨rfl⟩) good (d := 94) (xs := [.bool q38]) (res := .agg [.int .i64 2, .int .i64 0, .bool q38, .str ⟨#[]⟩, .sl .ro 5 (encs [])]) rfl rfl rfl rfl rfl rfl rfl (w_f99 q38) ⟨(Wv.refl _), trivial⟩ (by simp) ?_
          refine AL.st2c good (c2 := [.int .i64 2, .int .i64 0, .bool q38, .str ⟨#[]⟩, .sl .ro 5 (encs [])]) rfl rfl rfl rfl rfl rfl rfl rfl rfl rfl rfl rfl rfl ?_
          refine Av (nc := ⟨rfl⟩) (.int .i64 0) rfl ?_
          refine AW.ret ?_
          obtain rfl := Option.some.inj hr
          exact RetQ.w good (.inr rfl) rfl rfl (Wv.refl _) (by simp)
         ·replace hr := cnd_f h33 hr
          refine AW.seq (Rg ?_)
          refine AL.sb good (d := 96) (b := (a0.data.toList == [108, 116])) rfl rfl rfl rfl rfl rfl rfl ?_
          refine Av (.bool (a0.data.toList == [108, 116])) rfl ?_
          refine AW.if rfl (fun h40 => ?_) (fun h40 => ?_)
          ·replace hr := cnd_t h40 hr
           refine AW.seq ?_
           refine AW.drawc (M := fun i => ⟨Nat.beq i 9, bif Nat.beq i 2 then some { ids := [] } else bif Nat.beq i 5 then some { ids := [] } else bif Nat.beq i 9 then some { ids := [0] } else none⟩) good.wide (by kernel_rfl) ?_
           refine Av (nc := ⟨rfl⟩) (.sl .ro 5 (encs a2)) rfl ?_
           obtain ⟨x41, h42, hr⟩ := bnd1 hr
           refine AL.ix (nc := ⟨rfl⟩) good (d := 98) (r := [.int .i64 x41.kind, .int .i64 x41.i, .bool x41.b, .str x41.s, .sl .ro 5 (encs x41.t)]) rfl rfl rfl rfl rfl rfl rfl (by decide) (encs_get h42) ?_
           refine AL.vc good (d := 99) (v := .agg [.int .i64 x41.kind, .int .i64 x41.i, .bool x41.b, .str x41.s, .sl .ro 5 (encs x41.t)]) rfl rfl rfl rfl rfl rfl (fun _ h => by cases h) ?_
           refine Av (nc := ⟨rfl⟩) (.sl .ro 5 (encs a2)) rfl ?_
           obtain ⟨x43, h44, hr⟩ := bnd1 hr
           refine AL.ix (nc := ⟨rfl⟩) good (d := 101) (r := [.int .i64 x43.kind, .int .i64 x43.i, .bool x43.b, .str x43.s, .sl .ro 5 (encs x43.t)]) rfl rfl rfl rfl rfl rfl rfl (by decide) (encs_get h44) ?_
           refine AL.vc good (d := 102) (v := .agg [.int .i64 x43.kind, .int .i64 x43.i, .bool x43.b, .str x43.s, .sl .ro 5 (encs x43.t)]) rfl rfl rfl rfl rfl rfl (fun _ h => by cases h) ?_
           obtain ⟨q45, h46, hr⟩ := bnd1 hr
           refine AL.cw (nc := ⟨rfl⟩) good (d := 103) (xs := [.agg (valC x41), .agg (valC x43)]) (res := .int .i64 q45) rfl rfl rfl rfl rfl rfl rfl (w_f64 _ _ _ _ h46) ⟨(Wv.refl _), (Wv.refl _), trivial⟩ (by simp) ?_
           refine Av (nc := ⟨rfl⟩) (.bool (decide (q45 < 0))) rfl ?_
           refine AL.cw (nc := ⟨rfl⟩) good (d := 105) (xs := [.bool (decide (q45 < 0))]) (res := .agg [.int .i64 2, .int .i64 0, .bool (decide (q45 < 0)), .str ⟨#[]⟩, .sl .ro 5 (encs [])]) rfl rfl rfl rfl rfl rfl rfl (w_f99 (decide (q45 < 0))) ⟨(Wv.refl _), trivial⟩ (by simp) ?_
           refine AL.st2c good (c2 := [.int .i64 2, .int .i64 0, .bool (decide (q45 < 0)), .str ⟨#[]⟩, .sl .ro 5 (encs [])]) rfl rfl rfl rfl rfl rfl rfl rfl rfl rfl rfl rfl rfl ?_
           refine Av (nc := ⟨rfl⟩) (.int .i64 0) rfl ?_
           refine AW.ret ?_
           obtain rfl := Option.some.inj hr
           exact RetQ.w good (.inr rfl) rfl rfl (Wv.refl _) (by simp)
          ·replace hr := cnd_f h40 hr
           refine AW.seq (Rg ?_)
           refine AL.sb good (d := 107) (b := (a0.data.toList == [99, 97, 116])) rfl rfl rfl rfl rfl rfl rfl ?_
           refine Av (.bool (a0.data.toList == [99, 97, 116])) rfl ?_
           refine AW.if rfl (fun h47 => ?_) (fun h47 => ?_)
           ·replace hr := cnd_t h47 hr
            refine AW.seq ?_
            refine AW.draw (M := fun i => false) good.wide (by kernel_rfl) ?_
            refine Av (.sl .ro 5 (encs a2)) rfl ?_
            obtain ⟨x48, h49, hr⟩ := bnd1 hr
            refine AL.ix good (d := 109) (r := [.int .i64 x48.kind, .int .i64 x48.i, .bool x48.b, .str x48.s, .sl .ro 5 (encs x48.t)]) rfl rfl rfl rfl rfl rfl rfl (by decide) (encs_get h49) ?_
            refine Av (.ep [.str x48.s, .sl .ro 5 (encs x48.t)]) rfl ?_
            refine Av (.str x48.s) rfl ?_
            refine Av (.sl .ro 5 (encs a2)) rfl ?_
            obtain ⟨x50, h51, hr⟩ := bnd1 hr
            refine AL.ix good (d := 113) (r := [.int .i64 x50.kind, .int .i64 x50.i, .bool x50.b, .str x50.s, .sl .ro 5 (encs x50.t)]) rfl rfl rfl rfl rfl rfl rfl (by decide) (encs_get h51) ?_
            refine Av (.ep [.str x50.s, .sl .ro 5 (encs x50.t)]) rfl ?_
            refine Av (.str x50.s) rfl ?_
            obtain ⟨h52, hr⟩ := grd hr
            refine AL.cat good (d := 116) rfl rfl rfl rfl rfl rfl h52 ?_
            refine Av (.str (x48.s ++ x50.s)) rfl ?_
            refine AW.seq ?_
            refine AW.seq (Rg ?_)
            refine Av (.str (x48.s ++ x50.s)) rfl ?_
            refine Av (.int .i64 ((x48.s ++ x50.s).size : Int)) rfl ?_
            refine Av (.bool (decide (((x48.s ++ x50.s).size : Int) > 255))) rfl ?_
            refine AW.if rfl (fun h53 => ?_) (fun h53 => ?_)
            ·replace hr := cnd_t h53 hr
             refine AW.seq (Rg ?_)
             refine AL.bld good (d := 120) (l := [.int .i64 0, .int .i64 0, .bool false, .str ⟨#[]⟩, .sl .nil 0 []]) rfl rfl rfl rfl rfl rfl rfl ?_
             refine AL.st2 good (c2 := [.int .i64 0, .int .i64 0, .bool false, .str ⟨#[]⟩, .sl .nil 0 []]) rfl rfl rfl rfl rfl rfl rfl rfl rfl rfl rfl rfl ?_
             refine Av (.int .i64 4) rfl ?_
             refine AW.ret ?_
             obtain rfl := Option.some.inj hr
             exact RetQ.w good (.inr rfl) rfl rfl ⟨⟨Wv.refl _, Wv.refl _, Wv.refl _, Wv.refl _, ⟨.inr rfl, trivial, .inr rfl⟩, trivial⟩, Wv.refl _, trivial⟩ (by simp)
            ·replace hr := cnd_f h53 hr
             refine AW.skip ?_
             refine AW.seq (Rg ?_)
             refine Av (.str (x48.s ++ x50.s)) rfl ?_
             refine AL.bld good (d := 122) (l := [.int .i64 3, .int .i64 0, .bool false, .str (x48.s ++ x50.s), .sl .nil 0 []]) rfl rfl rfl rfl rfl rfl rfl ?_
             refine AL.st2 good (c2 := [.int .i64 3, .int .i64 0, .bool false, .str (x48.s ++ x50.s), .sl .nil 0 []]) rfl rfl rfl rfl rfl rfl rfl rfl rfl rfl rfl rfl ?_
             refine Av (.int .i64 0) rfl ?_
             refine AW.ret ?_
             obtain rfl := Option.some.inj hr
             exact RetQ.w good (.inr rfl) rfl rfl ⟨⟨Wv.refl _, Wv.refl _, Wv.refl _, Wv.refl _, ⟨.inr rfl, trivial, .inr rfl⟩, trivial⟩, Wv.refl _, trivial⟩ (by simp)
           ·replace hr := cnd_f h47 hr
            refine AW.skip ?_
            refine AW.seq ?_
            refine AW.seq (Rg ?_)
            refine Av (.sl .ro 5 (encs a2)) rfl ?_
            obtain ⟨x54, h55, hr⟩ := bnd1 hr
            refine AL.ix good (d := 124) (r := [.int .i64 x54.kind, .int .i64 x54.i, .bool x54.b, .str x54.s, .sl .ro 5 (encs x54.t)]) rfl rfl rfl rfl rfl rfl rfl (by decide) (encs_get h55) ?_
            refine Av (.ep [.int .i64 x54.i, .bool x54.b, .str x54.s, .sl .ro 5 (encs x54.t)]) rfl ?_
            refine Av (.int .i64 x54.i) rfl ?_
            refine Av (.bool (x54.i == 0)) rfl ?_
            refine AW.if rfl (fun h56 => ?_) (fun h56 => ?_)
            ·replace hr := cnd_t h56 hr
             refine AW.seq (Rg ?_)
             refine AL.bld good (d := 128) (l := [.int .i64 0, .int .i64 0, .bool false, .str ⟨#[]⟩, .sl .nil 0 []]) rfl rfl rfl rfl rfl rfl rfl ?_
             refine AL.st2 good (c2 := [.int .i64 0, .int .i64 0, .bool false, .str ⟨#[]⟩, .sl .nil 0 []]) rfl rfl rfl rfl rfl rfl rfl rfl rfl rfl rfl rfl ?_
             refine Av (.int .i64 8) rfl ?_
             refine AW.ret ?_
             obtain rfl := Option.some.inj hr
             exact RetQ.w good (.inr rfl) rfl rfl ⟨⟨Wv.refl _, Wv.refl _, Wv.refl _, Wv.refl _, ⟨.inr rfl, trivial, .inr rfl⟩, trivial⟩, Wv.refl _, trivial⟩ (by simp)
            ·replace hr := cnd_f h56 hr
             refine AW.skip ?_
             refine AW.seq ?_
             refine AW.seq (Rg ?_)
             refine Av (.sl .ro 5 (encs a2)) rfl ?_
             obtain ⟨x57, h58, hr⟩ := bnd1 hr
             refine AL.ix good (d := 130) (r := [.int .i64 x57.kind, .int .i64 x57.i, .bool x57.b, .str x57.s, .sl .ro 5 (encs x57.t)]) rfl rfl rfl rfl rfl rfl rfl (by decide) (encs_get h58) ?_
             refine Av (.ep [.int .i64 x57.i, .bool x57.b, .str x57.s, .sl .ro 5 (encs x57.t)]) rfl ?_
             refine Av (.int .i64 x57.i) rfl ?_
             refine Av (.bool (x57.i == (-1))) rfl ?_
             refine AW.if rfl (fun h59 => ?_) (fun h59 => ?_)
             ·replace hr := cnd_t h59 hr
              refine AW.seq ?_
              refine AW.seq (Rg ?_)
              refine Av (.str a0) rfl ?_
              refine AL.sb good (d := 135) (b := (a0.data.toList == [100, 105, 118])) rfl rfl rfl rfl rfl rfl rfl ?_
              refine AW.if rfl (fun h60 => ?_) (fun h60 => ?_)
              ·replace hr := cnd_t h60 hr
               refine AW.seq (Rg ?_)
               refine Av (.sl .ro 5 (encs a2)) rfl ?_
               obtain ⟨x61, h62, hr⟩ := bnd1 hr
               refine AL.ix good (d := 137) (r := [.int .i64 x61.kind, .int .i64 x61.i, .bool x61.b, .str x61.s, .sl .ro 5 (encs x61.t)]) rfl rfl rfl rfl rfl rfl rfl (by decide) (encs_get h62) ?_
               refine Av (.ep [.int .i64 x61.i, .bool x61.b, .str x61.s, .sl .ro 5 (encs x61.t)]) rfl ?_
               refine Av (.int .i64 x61.i) rfl ?_
               refine Av (.int .i64 (IntKind.i64.wrap (0 - x61.i))) rfl ?_
               refine AL.cw good (d := 141) (xs := [.int .i64 (IntKind.i64.wrap (0 - x61.i))]) (res := .agg [.int .i64 1, .int .i64 (IntKind.i64.wrap (0 - x61.i)), .bool false, .str ⟨#[]⟩, .sl .ro 5 (encs [])]) rfl rfl rfl rfl rfl rfl rfl (w_f53 (IntKind.i64.wrap (0 - x61.i))) ⟨(Wv.refl _), trivial⟩ (by simp) ?_
               refine AL.st2 good (c2 := [.int .i64 1, .int .i64 (IntKind.i64.wrap (0 - x61.i)), .bool false, .str ⟨#[]⟩, .sl .ro 5 (encs [])]) rfl rfl rfl rfl rfl rfl rfl rfl rfl rfl rfl rfl ?_
               refine Av (.int .i64 0) rfl ?_
               refine AW.ret ?_
               obtain rfl := Option.some.inj hr
               exact RetQ.w good (.inr rfl) rfl rfl (Wv.refl _) (by simp)
              ·replace hr := cnd_f h60 hr
               refine AW.skip ?_
               refine AW.seq (Rg ?_)
               refine AL.cw good (d := 142) (xs := [.int .i64 0]) (res := .agg [.int .i64 1, .int .i64 0, .bool false, .str ⟨#[]⟩, .sl .ro 5 (encs [])]) rfl rfl rfl rfl rfl rfl rfl (w_f53 0) ⟨(Wv.refl _), trivial⟩ (by simp) ?_
               refine AL.st2 good (c2 := [.int .i64 1, .int .i64 0, .bool false, .str ⟨#[]⟩, .sl .ro 5 (encs [])]) rfl rfl rfl rfl rfl rfl rfl rfl rfl rfl rfl rfl ?_
               refine Av (.int .i64 0) rfl ?_
               refine AW.ret ?_
               obtain rfl := Option.some.inj hr
               exact RetQ.w good (.inr rfl) rfl rfl (Wv.refl _) (by simp)
             ·replace hr := cnd_f h59 hr
              refine AW.skip ?_
              refine AW.seq ?_
              refine AW.seq (Rg ?_)
              refine Av (.str a0) rfl ?_
              refine AL.sb good (d := 144) (b := (a0.data.toList == [100, 105, 118])) rfl rfl rfl rfl rfl rfl rfl ?_
              refine AW.if rfl (fun h63 => ?_) (fun h63 => ?_)
              ·replace hr := cnd_t h63 hr
               refine AW.seq ?_
               refine AW.drawc (M := fun i => ⟨Nat.beq i 10, bif Nat.beq i 3 then some { ids := [] } else bif Nat.beq i 7 then some { ids := [] } else bif Nat.beq i 10 then some { ids := [0] } else none⟩) good.wide (by kernel_rfl) ?_
               refine Av (nc := ⟨rfl⟩) (.sl .ro 5 (encs a2)) rfl ?_
               obtain ⟨x64, h65, hr⟩ := bnd1 hr
               refine AL.ix (nc := ⟨rfl⟩) good (d := 146) (r := [.int .i64 x64.kind, .int .i64 x64.i, .bool x64.b, .str x64.s, .sl .ro 5 (encs x64.t)]) rfl rfl rfl rfl rfl rfl rfl (by decide) (encs_get h65) ?_
               refine Av (nc := ⟨rfl⟩) (.ep [.int .i64 x64.i, .bool x64.b, .str x64.s, .sl .ro 5 (encs x64.t)]) rfl ?_
               refine AL.vc good (d := 148) (v := .int .i64 x64.i) rfl rfl rfl rfl rfl rfl (fun _ h => by cases h) ?_
               refine Av (nc := ⟨rfl⟩) (.sl .ro 5 (encs a2)) rfl ?_
               obtain ⟨x66, h67, hr⟩ := bnd1 hr
               refine AL.ix (nc := ⟨rfl⟩) good (d := 150) (r := [.int .i64 x66.kind, .int .i64 x66.i, .bool x66.b, .str x66.s, .sl .ro 5 (encs x66.t)]) rfl rfl rfl rfl rfl rfl rfl (by decide) (encs_get h67) ?_
               refine Av (nc := ⟨rfl⟩) (.ep [.int .i64 x66.i, .bool x66.b, .str x66.s, .sl .ro 5 (encs x66.t)]) rfl ?_
               refine AL.vc good (d := 152) (v := .int .i64 x66.i) rfl rfl rfl rfl rfl rfl (fun _ h => by cases h) ?_
               obtain ⟨h68, hr⟩ := grd hr
               refine AL.v (nc := ⟨rfl⟩) good (d := 153) (v := .int .i64 (IntKind.i64.wrap (x64.i.tdiv x66.i))) rfl rfl rfl (by simp only [aval]; exact avq_quo h68) ?_
               refine AL.cw (nc := ⟨rfl⟩) good (d := 154) (xs := [.int .i64 (IntKind.i64.wrap (x64.i.tdiv x66.i))]) (res := .agg [.int .i64 1, .int .i64 (IntKind.i64.wrap (x64.i.tdiv x66.i)), .bool false, .str ⟨#[]⟩, .sl .ro 5 (encs [])]) rfl rfl rfl rfl rfl rfl rfl (w_f53 (IntKind.i64.wrap (x64.i.tdiv x66.i))) ⟨(Wv.refl _), trivial⟩ (by simp) ?_
               refine AL.st2c good (c2 := [.int .i64 1, .int .i64 (IntKind.i64.wrap (x64.i.tdiv x66.i)), .bool false, .str ⟨#[]⟩, .sl .ro 5 (encs [])]) rfl rfl rfl rfl rfl rfl rfl rfl rfl rfl rfl rfl rfl ?_
               refine Av (nc := ⟨rfl⟩) (.int .i64 0) rfl ?_
               refine AW.ret ?_
               obtain rfl := Option.some.inj hr
               exact RetQ.w good (.inr rfl) rfl rfl (Wv.refl _) (by simp)
              ·replace hr := cnd_f h63 hr
               refine AW.skip ?_
               refine AW.seq ?_
               refine AW.drawc (M := fun i => ⟨Nat.beq i 10, bif Nat.beq i 3 then some { ids := [] } else bif Nat.beq i 7 then some { ids := [] } else bif Nat.beq i 10 then some { ids := [0] } else none⟩) good.wide (by kernel_rfl) ?_
               refine Av (nc := ⟨rfl⟩) (.sl .ro 5 (encs a2)) rfl ?_
               obtain ⟨x69, h70, hr⟩ := bnd1 hr
               refine AL.ix (nc := ⟨rfl⟩) good (d := 156) (r := [.int .i64 x69.kind, .int .i64 x69.i, .bool x69.b, .str x69.s, .sl .ro 5 (encs x69.t)]) rfl rfl rfl rfl rfl rfl rfl (by decide) (encs_get h70) ?_
               refine Av (nc := ⟨rfl⟩) (.ep [.int .i64 x69.i, .bool x69.b, .str x69.s, .sl .ro 5 (encs x69.t)]) rfl ?_
               refine AL.vc good (d := 158) (v := .int .i64 x69.i) rfl rfl rfl rfl rfl rfl (fun _ h => by cases h) ?_
               refine Av (nc := ⟨rfl⟩) (.sl .ro 5 (encs a2)) rfl ?_
               obtain ⟨x71, h72, hr⟩ := bnd1 hr
               refine AL.ix (nc := ⟨rfl⟩) good (d := 160) (r := [.int .i64 x71.kind, .int .i64 x71.i, .bool x71.b, .str x71.s, .sl .ro 5 (encs x71.t)]) rfl rfl rfl rfl rfl rfl rfl (by decide) (encs_get h72) ?_
               refine Av (nc := ⟨rfl⟩) (.ep [.int .i64 x71.i, .bool x71.b, .str x71.s, .sl .ro 5 (encs x71.t)]) rfl ?_
               refine AL.vc good (d := 162) (v := .int .i64 x71.i) rfl rfl rfl rfl rfl rfl (fun _ h => by cases h) ?_
               obtain ⟨h73, hr⟩ := grd hr
               refine AL.v (nc := ⟨rfl⟩) good (d := 163) (v := .int .i64 (x69.i.tmod x71.i)) rfl rfl rfl (by simp only [aval]; exact avq_rem h73) ?_
               refine AL.cw (nc := ⟨rfl⟩) good (d := 164) (xs := [.int .i64 (x69.i.tmod x71.i)]) (res := .agg [.int .i64 1, .int .i64 (x69.i.tmod x71.i), .bool false, .str ⟨#[]⟩, .sl .ro 5 (encs [])]) rfl rfl rfl rfl rfl rfl rfl (w_f53 (x69.i.tmod x71.i)) ⟨(Wv.refl _), trivial⟩ (by simp) ?_
               refine AL.st2c good (c2 := [.int .i64 1, .int .i64 (x69.i.tmod x71.i), .bool false, .str ⟨#[]⟩, .sl .ro 5 (encs [])]) rfl rfl rfl rfl rfl rfl rfl rfl rfl rfl rfl rfl rfl ?_
               refine Av (nc := ⟨rfl⟩) (.int .i64 0) rfl ?_
               refine AW.ret ?_
               obtain rfl := Option.some.inj hr
               exact RetQ.w good (.inr rfl) rfl rfl (Wv.refl _) (by simp)

mutual
def s_f24 : Nat → Ex → Val → Option (Val × Int)
  | 0, _, _ => none
  | n + 1, a0, a1 => (bif (a0.op.data.toList == [108, 105, 116]) then some (a0.v, 0) else (bif (a0.op.data.toList == [120]) then some (a1, 0) else ((a0.a[0]?).bind fun x3 => ((s_f24 n x3 a1).bind fun q5 => (bif (q5.2 != 0) then some ((Val.mk 0 0 false ⟨#[]⟩ []), q5.2) else (bif (a0.op.data.toList == [97, 110, 100]) then (bif (!q5.1.b) then some (q5.1, 0) else ((a0.a[1]?).bind fun x10 => ((s_f24 n x10 a1).bind fun q12 => some (q12.1, q12.2)))) else (bif (a0.op.data.toList == [111, 114]) then (bif q5.1.b then some (q5.1, 0) else ((a0.a[1]?).bind fun x16 => ((s_f24 n x16 a1).bind fun q18 => some (q18.1, q18.2)))) else (bif (a0.op.data.toList == [105, 102]) then (bif q5.1.b then ((a0.a[1]?).bind fun x22 => ((s_f24 n x22 a1).bind fun q24 => some (q24.1, q24.2))) else ((a0.a[2]?).bind fun x26 => ((s_f24 n x26 a1).bind fun q28 => some (q28.1, q28.2)))) else (s_f24_l1 n a0 a1 [q5.1] 1)))))))))
def s_f24_l1 : Nat → Ex → Val → (List Val) → Nat → Option (Val × Int)
  | 0, _, _, _, _ => none
  | n + 1, a0, a1, v1_1, v1_2 => (bif (decide ((v1_2 : Int) < (a0.a.length : Int))) then ((a0.a[v1_2]?).bind fun x40 => ((s_f24 n x40 a1).bind fun q42 => (bif (q42.2 != 0) then some ((Val.mk 0 0 false ⟨#[]⟩ []), q42.2) else (if v1_1.length + 1 ≤ 1000000 then (s_f24_l1 n a0 a1 (v1_1 ++ [q42.1]) (v1_2 + 1)) else none)))) else ((s_f63 n a0.op a0.n v1_1).bind fun q46 => some (q46.1, q46.2)))
end

theorem w_f24_a (n : Nat) (ih : ∀ (m : Nat) (a0 : Ex) (a1 : Val) (r : Val × Int), s_f24 m a0 a1 = some r → m < n → ACall Tryz.prog 15 [.agg (exC a0), .agg (valC a1)] (.tup [.agg (valC r.1), .int .i64 r.2])) (a0 : Ex) (a1 : Val) (r : Val × Int) (hr : s_f24 n a0 a1 = some r) : ACall Tryz.prog 15 [.agg (exC a0), .agg (valC a1)] (.tup [.agg (valC r.1), .int .i64 r.2]) := by
 refine ACall.go [(0, .agg (exC a0)), (1, .agg (valC a1))] Tryz.func15 rfl Tryz.ntmps15 rfl rfl (by simp) ?_
 cases n with
 | zero => rw [s_f24] at hr; cases hr
 | succ n =>
  rw [s_f24] at hr
  refine AW.seq (Rg ?_)
  refine AL.bx good (d := 2) (l := [.str a0.op, .int .i64 a0.v.kind, .int .i64 a0.v.i, .bool a0.v.b, .str a0.v.s, .sl .ro 5 (encs a0.v.t), .int .i64 a0.n, .sl .ro 8 (enxs a0.a)]) rfl rfl rfl rfl rfl rfl 0 rfl ?_
  refine AL.bx good (d := 3) (l := [.int .i64 a1.kind, .int .i64 a1.i, .bool a1.b, .str a1.s, .sl .ro 5 (encs a1.t)]) rfl rfl rfl rfl rfl rfl 1 rfl ?_
  refine AL.alc good (d := 4) rfl rfl rfl rfl rfl 2 rfl ?_
  refine Av (.int .i64 0) rfl ?_
  refine AW.seq ?_
  refine AW.seq (Rg ?_)
  refine Av (.ptr 0 0) rfl ?_
  refine Av (.str a0.op) rfl ?_
  refine AW.block ?_
  refine AW.seq (Rg ?_)
  refine AL.sb good (d := 15) (b := (a0.op.data.toList == [108, 105, 116])) rfl rfl rfl rfl rfl rfl rfl ?_
  refine Av (.bool (a0.op.data.toList == [108, 105, 116])) rfl ?_
  refine AW.if rfl (fun h1 => ?_) (fun h1 => ?_)
  ·replace hr := cnd_t h1 hr
   refine AW.seq (Rg ?_)
   refine Av (.ptr 0 1) rfl ?_
   refine Av (.agg [.int .i64 a0.v.kind, .int .i64 a0.v.i, .bool a0.v.b, .str a0.v.s, .sl .ro 5 (encs a0.v.t)]) rfl ?_
   refine AL.st2 good (c2 := [.int .i64 a0.v.kind, .int .i64 a0.v.i, .bool a0.v.b, .str a0.v.s, .sl .ro 5 (encs a0.v.t)]) rfl rfl rfl rfl rfl rfl rfl rfl rfl rfl rfl rfl ?_
   refine Av (.int .i64 0) rfl ?_
   refine AW.ret ?_
   obtain rfl := Option.some.inj hr
   exact RetQ.w good (.inr rfl) rfl rfl (Wv.refl _) (by simp)
  ·replace hr := cnd_f h1 hr
   refine AW.seq (Rg ?_)
   refine AL.sb good (d := 19) (b := (a0.op.data.toList == [120])) rfl rfl rfl rfl rfl rfl rfl ?_
   refine Av (.bool (a0.op.data.toList == [120])) rfl ?_
   refine AW.if rfl (fun h2 => ?_) (fun h2 => ?_)
   ·replace hr := cnd_t h2 hr
    refine AW.seq (Rg ?_)
    refine Av (.agg [.int .i64 a1.kind, .int .i64 a1.i, .bool a1.b, .str a1.s, .sl .ro 5 (encs a1.t)]) rfl ?_
    refine AL.st2 good (c2 := [.int .i64 a1.kind, .int .i64 a1.i, .bool a1.b, .str a1.s, .sl .ro 5 (encs a1.t)]) rfl rfl rfl rfl rfl rfl rfl rfl rfl rfl rfl rfl ?_
    refine Av (.int .i64 0) rfl ?_
    refine AW.ret ?_
    obtain rfl := Option.some.inj hr
    exact RetQ.w good (.inr rfl) rfl rfl (Wv.refl _) (by simp)
   ·replace hr := cnd_f h2 hr
    refine AW.skip ?_
    refine AW.seq ?_
    refine AW.drawc (M := fun i => ⟨Nat.beq i 10, bif Nat.beq i 1 then some { ids := [0] } else bif Nat.beq i 3 then some { ids := [] } else bif Nat.beq i 4 then some { ids := [1] } else bif Nat.beq i 9 then some { ids := [3] } else bif Nat.beq i 10 then some { ids := [3] } else none⟩) good.wide (by kernel_rfl) ?_
    refine Av (nc := ⟨rfl⟩) (.ptr 0 7) rfl ?_
    refine AL.vc good (d := 23) (v := .sl .ro 8 (enxs a0.a)) rfl rfl rfl rfl rfl rfl (fmc ⟨.head _, (fun _ h => by cases h)⟩) ?_
    obtain ⟨x3, h4, hr⟩ := bnd1 hr
    refine AL.ix (nc := ⟨rfl⟩) good (d := 24) (r := [.str x3.op, .int .i64 x3.v.kind, .int .i64 x3.v.i, .bool x3.v.b, .str x3.v.s, .sl .ro 5 (encs x3.v.t), .int .i64 x3.n, .sl .ro 8 (enxs x3.a)]) rfl rfl rfl rfl rfl rfl rfl (by decide) (enxs_get h4) ?_
    refine AL.vc good (d := 25) (v := .agg [.str x3.op, .int .i64 x3.v.kind, .int .i64 x3.v.i, .bool x3.v.b, .str x3.v.s, .sl .ro 5 (encs x3.v.t), .int .i64 x3.n, .sl .ro 8 (enxs x3.a)]) rfl rfl rfl rfl rfl rfl (fun _ h => by cases h) ?_
    refine AL.vc good (d := 26) (v := .agg [.int .i64 a1.kind, .int .i64 a1.i, .bool a1.b, .str a1.s, .sl .ro 5 (encs a1.t)]) rfl rfl rfl rfl rfl rfl (fmc ⟨.head _, (fun _ h => by cases h)⟩) ?_
    obtain ⟨q5, h6, hr⟩ := bnd1 hr
    refine AL.cw (nc := ⟨rfl⟩) good (d := 27) (xs := [.agg (exC x3), .agg (valC a1)]) (res := .tup [.agg [.int .i64 q5.1.kind, .int .i64 q5.1.i, .bool q5.1.b, .str q5.1.s, .sl .ro 5 (encs q5.1.t)], .int .i64 q5.2]) rfl rfl rfl rfl rfl rfl rfl (ih _ _ _ _ h6 (by omega)) ⟨(Wv.refl _), (Wv.refl _), trivial⟩ (by simp) ?_
    refine Av (nc := ⟨rfl⟩) (.tup [.agg [.int .i64 q5.1.kind, .int .i64 q5.1.i, .bool q5.1.b, .str q5.1.s, .sl .ro 5 (encs q5.1.t)], .int .i64 q5.2]) rfl ?_
    refine Av (nc := ⟨rfl⟩) (.agg [.int .i64 q5.1.kind, .int .i64 q5.1.i, .bool q5.1.b, .str q5.1.s, .sl .ro 5 (encs q5.1.t)]) rfl ?_
    refine Av (nc := ⟨rfl⟩) (.int .i64 q5.2) rfl ?_
    refine AL.alcC good (d := 6) rfl rfl rfl rfl rfl 3 rfl (ColN.mk rfl rfl (fun _ h => by cases h) (fmc ⟨.head _, (fun _ h => by cases h)⟩) (fun _ h => by cases h)) ?_
    refine AL.st2c good (c2 := [.int .i64 q5.1.kind, .int .i64 q5.1.i, .bool q5.1.b, .str q5.1.s, .sl .ro 5 (encs q5.1.t)]) rfl rfl rfl rfl rfl rfl rfl rfl rfl rfl rfl rfl rfl ?_
    refine Av (nc := ⟨rfl⟩) (.int .i64 q5.2) rfl ?_
    refine AW.seq ?_
    refine AW.seq (Rg ?_)
    refine Av (.int .i64 q5.2) rfl ?_
    refine Av (.bool (q5.2 != 0)) rfl ?_
    refine AW.if rfl (fun h7 => ?_) (fun h7 => ?_)
    ·replace hr := cnd_t h7 hr
     refine AW.seq (Rg ?_)
     refine AL.bld good (d := 32) (l := [.int .i64 0, .int .i64 0, .bool false, .str ⟨#[]⟩, .sl .nil 0 []]) rfl rfl rfl rfl rfl rfl rfl ?_
     refine Av (.int .i64 q5.2) rfl ?_
     refine AL.st2 good (c2 := [.int .i64 0, .int .i64 0, .bool false, .str ⟨#[]⟩, .sl .nil 0 []]) rfl rfl rfl rfl rfl rfl rfl rfl rfl rfl rfl rfl ?_
     refine Av (.int .i64 q5.2) rfl ?_
     refine AW.ret ?_
     obtain rfl := Option.some.inj hr
     exact RetQ.w good (.inr rfl) rfl rfl ⟨⟨Wv.refl _, Wv.refl _, Wv.refl _, Wv.refl _, ⟨.inr rfl, trivial, .inr rfl⟩, trivial⟩, Wv.refl _, trivial⟩ (by simp)
    ·replace hr := cnd_f h7 hr
     refine AW.skip ?_
     refine AW.seq ?_
     refine AW.seq (Rg ?_)
     refine Av (.ptr 0 0) rfl ?_
     refine Av (.str a0.op) rfl ?_
     refine AW.block ?_
     refine AW.seq (Rg ?_)
     refine AL.sb good (d := 37) (b := (a0.op.data.toList == [97, 110, 100])) rfl rfl rfl rfl rfl rfl rfl ?_
     refine Av (.bool (a0.op.data.toList == [97, 110, 100])) rfl ?_
     refine AW.if rfl (fun h8 => ?_) (fun h8 => ?_)
     ·replace hr := cnd_t h8 hr
      refine AW.seq ?_
      refine AW.seq (Rg ?_)
      refine Av (.ptr 3 2) rfl ?_
      refine Av (.bool q5.1.b) rfl ?_
      refine Av (.bool (!q5.1.b)) rfl ?_
      refine AW.if rfl (fun h9 => ?_) (fun h9 => ?_)
      ·replace hr := cnd_t h9 hr
       refine AW.seq (Rg ?_)
       refine Av (.agg [.int .i64 q5.1.kind, .int .i64 q5.1.i, .bool q5.1.b, .str q5.1.s, .sl .ro 5 (encs q5.1.t)]) rfl ?_
       refine AL.st2 good (c2 := [.int .i64 q5.1.kind, .int .i64 q5.1.i, .bool q5.1.b, .str q5.1.s, .sl .ro 5 (encs q5.1.t)]) rfl rfl rfl rfl rfl rfl rfl rfl rfl rfl rfl rfl ?_
       refine Av (.int .i64 0) rfl ?_
       refine AW.ret ?_
       obtain rfl := Option.some.inj hr
       exact RetQ.w good (.inr rfl) rfl rfl (Wv.refl _) (by simp)
      ·replace hr := cnd_f h9 hr
       refine AW.skip ?_
       refine AW.seq ?_
       refine AW.drawc (M := fun i => ⟨Nat.beq i 8, bif Nat.beq i 1 then some { ids := [0] } else bif Nat.beq i 3 then some { ids := [] } else bif Nat.beq i 4 then some { ids := [1] } else bif Nat.beq i 8 then some { ids := [2] } else none⟩) good.wide (by kernel_rfl) ?_
       refine Av (nc := ⟨rfl⟩) (.ptr 0 7) rfl ?_
       refine AL.vc good (d := 43) (v := .sl .ro 8 (enxs a0.a)) rfl rfl rfl rfl rfl rfl (fmc ⟨.head _, (fun _ h => by cases h)⟩) ?_
       obtain ⟨x10, h11, hr⟩ := bnd1 hr
       refine AL.ix (nc := ⟨rfl⟩) good (d := 44) (r := [.str x10.op, .int .i64 x10.v.kind, .int .i64 x10.v.i, .bool x10.v.b, .str x10.v.s, .sl .ro 5 (encs x10.v.t), .int .i64 x10.n, .sl .ro 8 (enxs x10.a)]) rfl rfl rfl rfl rfl rfl rfl (by decide) (enxs_get h11) ?_
       refine AL.vc good (d := 45) (v := .agg [.str x10.op, .int .i64 x10.v.kind, .int .i64 x10.v.i, .bool x10.v.b, .str x10.v.s, .sl .ro 5 (encs x10.v.t), .int .i64 x10.n, .sl .ro 8 (enxs x10.a)]) rfl rfl rfl rfl rfl rfl (fun _ h => by cases h) ?_
       refine AL.vc good (d := 46) (v := .agg [.int .i64 a1.kind, .int .i64 a1.i, .bool a1.b, .str a1.s, .sl .ro 5 (encs a1.t)]) rfl rfl rfl rfl rfl rfl (fmc ⟨.head _, (fun _ h => by cases h)⟩) ?_
       obtain ⟨q12, h13, hr⟩ := bnd1 hr
       refine AL.cw (nc := ⟨rfl⟩) good (d := 47) (xs := [.agg (exC x10), .agg (valC a1)]) (res := .tup [.agg [.int .i64 q12.1.kind, .int .i64 q12.1.i, .bool q12.1.b, .str q12.1.s, .sl .ro 5 (encs q12.1.t)], .int .i64 q12.2]) rfl rfl rfl rfl rfl rfl rfl (ih _ _ _ _ h13 (by omega)) ⟨(Wv.refl _), (Wv.refl _), trivial⟩ (by simp) ?_
       refine Av (nc := ⟨rfl⟩) (.agg [.int .i64 q12.1.kind, .int .i64 q12.1.i, .bool q12.1.b, .str q12.1.s, .sl .ro 5 (encs q12.1.t)]) rfl ?_
       refine Av (nc := ⟨rfl⟩) (.int .i64 q12.2) rfl ?_
       refine AL.st2c good (c2 := [.int .i64 q12.1.kind, .int .i64 q12.1.i, .bool q12.1.b, .str q12.1.s, .sl .ro 5 (encs q12.1.t)]) rfl rfl rfl rfl rfl rfl rfl rfl rfl rfl rfl rfl rfl ?_
       refine Av (nc := ⟨rfl⟩) (.int .i64 q12.2) rfl ?_
       refine AW.ret ?_
       obtain rfl := Option.some.inj hr
       exact RetQ.w good (.inr rfl) rfl rfl (Wv.refl _) (by simp)
     ·replace hr := cnd_f h8 hr
      refine AW.seq (Rg ?_)
      refine AL.sb good (d := 51) (b := (a0.op.data.toList == [111, 114])) rfl rfl rfl rfl rfl rfl rfl ?_
      refine Av (.bool (a0.op.data.toList == [111, 114])) rfl ?_
      refine AW.if rfl (fun h14 => ?_) (fun h14 => ?_)
      ·replace hr := cnd_t h14 hr
       refine AW.seq ?_
       refine AW.seq (Rg ?_)
       refine Av (.ptr 3 2) rfl ?_
       refine Av (.bool q5.1.b) rfl ?_
       refine AW.if rfl (fun h15 => ?_) (fun h15 => ?_)
       ·replace hr := cnd_t h15 hr
        refine AW.seq (Rg ?_)
        refine Av (.agg [.int .i64 q5.1.kind, .int .i64 q5.1.i, .bool q5.1.b, .str q5.1.s, .sl .ro 5 (encs q5.1.t)]) rfl ?_
        refine AL.st2 good (c2 := [.int .i64 q5.1.kind, .int .i64 q5.1.i, .bool q5.1.b, .str q5.1.s, .sl .ro 5 (encs q5.1.t)]) rfl rfl rfl rfl rfl rfl rfl rfl rfl rfl rfl rfl ?_
        refine Av (.int .i64 0) rfl ?_
        refine AW.ret ?_
        obtain rfl := Option.some.inj hr
        exact RetQ.w good (.inr rfl) rfl rfl (Wv.refl _) (by simp)
       ·replace hr := cnd_f h15 hr
        refine AW.skip ?_
        refine AW.seq ?_
        refine AW.drawc (M := fun i => ⟨Nat.beq i 8, bif Nat.beq i 1 then some { ids := [0] } else bif Nat.beq i 3 then some { ids := [] } else bif Nat.beq i 4 then some { ids := [1] } else bif Nat.beq i 8 then some { ids := [2] } else none⟩) good.wide (by kernel_rfl) ?_
        refine Av (nc := ⟨rfl⟩) (.ptr 0 7) rfl ?_
        refine AL.vc good (d := 56) (v := .sl .ro 8 (enxs a0.a)) rfl rfl rfl rfl rfl rfl (fmc ⟨.head _, (fun _ h => by cases h)⟩) ?_
        obtain ⟨x16, h17, hr⟩ := bnd1 hr
        refine AL.ix (nc := ⟨rfl⟩) good (d := 57) (r := [.str x16.op, .int .i64 x16.v.kind, .int .i64 x16.v.i, .bool x16.v.b, .str x16.v.s, .sl .ro 5 (encs x16.v.t), .int .i64 x16.n, .sl .ro 8 (enxs x16.a)]) rfl rfl rfl rfl rfl rfl rfl (by decide) (enxs_get h17) ?_
        refine AL.vc good (d := 58) (v := .agg [.str x16.op, .int .i64 x16.v.kind, .int .i64 x16.v.i, .bool x16.v.b, .str x16.v.s, .sl .ro 5 (encs x16.v.t), .int .i64 x16.n, .sl .ro 8 (enxs x16.a)]) rfl rfl rfl rfl rfl rfl (fun _ h => by cases h) ?_
        refine AL.vc good (d := 59) (v := .agg [.int .i64 a1.kind, .int .i64 a1.i, .bool a1.b, .str a1.s, .sl .ro 5 (encs a1.t)]) rfl rfl rfl rfl rfl rfl (fmc ⟨.head _, (fun _ h => by cases h)⟩) ?_
        obtain ⟨q18, h19, hr⟩ := bnd1 hr
        refine AL.cw (nc := ⟨rfl⟩) good (d := 60) (xs := [.agg (exC x16), .agg (valC a1)]) (res := .tup [.agg [.int .i64 q18.1.kind, .int .i64 q18.1.i, .bool q18.1.b, .str q18.1.s, .sl .ro 5 (encs q18.1.t)], .int .i64 q18.2]) rfl rfl rfl rfl rfl rfl rfl (ih _ _ _ _ h19 (by omega)) ⟨(Wv.refl _), (Wv.refl _), trivial⟩ (by simp) ?_
        refine Av (nc := ⟨rfl⟩) (.agg [.int .i64 q18.1.kind, .int .i64 q18.1.i, .bool q18.1.b, .str q18.1.s, .sl .ro 5 (encs q18.1.t)]) rfl ?_
        refine Av (nc := ⟨rfl⟩) (.int .i64 q18.2) rfl ?_
        refine AL.st2c good (c2 := [.int .i64 q18.1.kind, .int .i64 q18.1.i, .bool q18.1.b, .str q18.1.s, .sl .ro 5 (encs q18.1.t)]) rfl rfl rfl rfl rfl rfl rfl rfl rfl rfl rfl rfl rfl ?_
        refine Av (nc := ⟨rfl⟩) (.int .i64 q18.2) rfl ?_
        refine AW.ret ?_
        obtain rfl := Option.some.inj hr
        exact RetQ.w good (.inr rfl) rfl rfl (Wv.refl _) (by simp)
      ·replace hr := cnd_f h14 hr
       refine AW.seq (Rg ?_)
       refine AL.sb good (d := 64) (b := (a0.op.data.toList == [105, 102])) rfl rfl rfl rfl rfl rfl rfl ?_
       refine Av (.bool (a0.op.data.toList == [105, 102])) rfl ?_
       refine AW.if rfl (fun h20 => ?_) (fun h20 => ?_)
       ·replace hr := cnd_t h20 hr
        refine AW.seq ?_
        refine AW.seq (Rg ?_)
        refine Av (.ptr 3 2) rfl ?_
        refine Av (.bool q5.1.b) rfl ?_
        refine AW.if rfl (fun h21 => ?_) (fun h21 => ?_)
        ·replace hr := cnd_t h21 hr
         refine AW.seq ?_
         refine AW.drawc (M := fun i => ⟨Nat.beq i 8, bif Nat.beq i 1 then some { ids := [0] } else bif Nat.beq i 3 then some { ids := [] } else bif Nat.beq i 4 then some { ids := [1] } else bif Nat.beq i 8 then some { ids := [2] } else none⟩) good.wide (by kernel_rfl) ?_
         refine Av (nc := ⟨rfl⟩) (.ptr 0 7) rfl ?_
         refine AL.vc good (d := 68) (v := .sl .ro 8 (enxs a0.a)) rfl rfl rfl rfl rfl rfl (fmc ⟨.head _, (fun _ h => by cases h)⟩) ?_
         obtain ⟨x22, h23, hr⟩ := bnd1 hr
         refine AL.ix (nc := ⟨rfl⟩) good (d := 69) (r := [.str x22.op, .int .i64 x22.v.kind, .int .i64 x22.v.i, .bool x22.v.b, .str x22.v.s, .sl .ro 5 (encs x22.v.t), .int .i64 x22.n, .sl .ro 8 (enxs x22.a)]) rfl rfl rfl rfl rfl rfl rfl (by decide) (enxs_get h23) ?_
         refine AL.vc good (d := 70) (v := .agg [.str x22.op, .int .i64 x22.v.kind, .int .i64 x22.v.i, .bool x22.v.b, .str x22.v.s, .sl .ro 5 (encs x22.v.t), .int .i64 x22.n, .sl .ro 8 (enxs x22.a)]) rfl rfl rfl rfl rfl rfl (fun _ h => by cases h) ?_
         refine AL.vc good (d := 71) (v := .agg [.int .i64 a1.kind, .int .i64 a1.i, .bool a1.b, .str a1.s, .sl .ro 5 (encs a1.t)]) rfl rfl rfl rfl rfl rfl (fmc ⟨.head _, (fun _ h => by cases h)⟩) ?_
         obtain ⟨q24, h25, hr⟩ := bnd1 hr
         refine AL.cw (nc := ⟨rfl⟩) good (d := 72) (xs := [.agg (exC x22), .agg (valC a1)]) (res := .tup [.agg [.int .i64 q24.1.kind, .int .i64 q24.1.i, .bool q24.1.b, .str q24.1.s, .sl .ro 5 (encs q24.1.t)], .int .i64 q24.2]) rfl rfl rfl rfl rfl rfl rfl (ih _ _ _ _ h25 (by omega)) ⟨(Wv.refl _), (Wv.refl _), trivial⟩ (by simp) ?_
         refine Av (nc := ⟨rfl⟩) (.agg [.int .i64 q24.1.kind, .int .i64 q24.1.i, .bool q24.1.b, .str q24.1.s, .sl .ro 5 (encs q24.1.t)]) rfl ?_
         refine Av (nc := ⟨rfl⟩) (.int .i64 q24.2) rfl ?_
         refine AL.st2c good (c2 := [.int .i64 q24.1.kind, .int .i64 q24.1.i, .bool q24.1.b, .str q24.1.s, .sl .ro 5 (encs q24.1.t)]) rfl rfl rfl rfl rfl rfl rfl rfl rfl rfl rfl rfl rfl ?_
         refine Av (nc := ⟨rfl⟩) (.int .i64 q24.2) rfl ?_
         refine AW.ret ?_
         obtain rfl := Option.some.inj hr
         exact RetQ.w good (.inr rfl) rfl rfl (Wv.refl _) (by simp)
        ·replace hr := cnd_f h21 hr
         refine AW.skip ?_
         refine AW.seq ?_
         refine AW.drawc (M := fun i => ⟨Nat.beq i 8, bif Nat.beq i 1 then some { ids := [0] } else bif Nat.beq i 3 then some { ids := [] } else bif Nat.beq i 4 then some { ids := [1] } else bif Nat.beq i 8 then some { ids := [2] } else none⟩) good.wide (by kernel_rfl) ?_
         refine Av (nc := ⟨rfl⟩) (.ptr 0 7) rfl ?_
         refine AL.vc good (d := 76) (v := .sl .ro 8 (enxs a0.a)) rfl rfl rfl rfl rfl rfl (fmc ⟨.head _, (fun _ h => by cases h)⟩) ?_
         obtain ⟨x26, h27, hr⟩ := bnd1 hr
         refine AL.ix (nc := ⟨rfl⟩) good (d := 77) (r := [.str x26.op, .int .i64 x26.v.kind, .int .i64 x26.v.i, .bool x26.v.b, .str x26.v.s, .sl .ro 5 (encs x26.v.t), .int .i64 x26.n, .sl .ro 8 (enxs x26.a)]) rfl rfl rfl rfl rfl rfl rfl (by decide) (enxs_get h27) ?_
         refine AL.vc good (d := 78) (v := .agg [.str x26.op, .int .i64 x26.v.kind, .int .i64 x26.v.i, .bool x26.v.b, .str x26.v.s, .sl .ro 5 (encs x26.v.t), .int .i64 x26.n, .sl .ro 8 (enxs x26.a)]) rfl rfl rfl rfl rfl rfl (fun _ h => by cases h) ?_
         refine AL.vc good (d := 79) (v := .agg [.int .i64 a1.kind, .int .i64 a1.i, .bool a1.b, .str a1.s, .sl .ro 5 (encs a1.t)]) rfl rfl rfl rfl rfl rfl (fmc ⟨.head _, (fun _ h => by cases h)⟩) ?_
         obtain ⟨q28, h29, hr⟩ := bnd1 hr
         refine AL.cw (nc := ⟨rfl⟩) good (d := 80) (xs := [.agg (exC x26), .agg (valC a1)]) (res := .tup [.agg [.int .i64 q28.1.kind, .int .i64 q28.1.i, .bool q28.1.b, .str q28.1.s, .sl .ro 5 (encs q28.1.t)], .int .i64 q28.2]) rfl rfl rfl rfl rfl rfl rfl (ih _ _ _ _ h29 (by omega)) ⟨(Wv.refl _), (Wv.refl _), trivial⟩ (by simp) ?_
         refine Av (nc := ⟨rfl⟩) (.agg [.int .i64 q28.1.kind, .int .i64 q28.1.i, .bool q28.1.b, .str q28.1.s, .sl .ro 5 (encs q28.1.t)]) rfl ?_
         refine Av (nc := ⟨rfl⟩) (.int .i64 q28.2) rfl ?_
         refine AL.st2c good (c2 := [.int .i64 q28.1.kind, .int .i64 q28.1.i, .bool q28.1.b, .str q28.1.s, .sl .ro 5 (encs q28.1.t)]) rfl rfl rfl rfl rfl rfl rfl rfl rfl rfl rfl rfl rfl ?_
         refine Av (nc := ⟨rfl⟩) (.int .i64 q28.2) rfl ?_
         refine AW.ret ?_
         obtain rfl := Option.some.inj hr
         exact RetQ.w good (.inr rfl) rfl rfl (Wv.refl _) (by simp)
       ·replace hr := cnd_f h20 hr
        refine AW.skip ?_
        refine AW.seq (Rg ?_)
        refine Av (.agg [.int .i64 q5.1.kind, .int .i64 q5.1.i, .bool q5.1.b, .str q5.1.s, .sl .ro 5 (encs q5.1.t)]) rfl ?_
        refine AL.lit good (d := 84) (rows := [[.int .i64 q5.1.kind, .int .i64 q5.1.i, .bool q5.1.b, .str q5.1.s, .sl .ro 5 (encs q5.1.t)]]) rfl rfl rfl rfl rfl rfl rfl rfl rfl 4 rfl ?_
        refine Av (.sl (.own 4) 5 [[.int .i64 q5.1.kind, .int .i64 q5.1.i, .bool q5.1.b, .str q5.1.s, .sl .ro 5 (encs q5.1.t)]]) rfl ?_
        refine AW.seq ?_
        refine AW.seq (Rg ?_)
        refine Av (.int .i64 1) rfl ?_
        refine AW.block ?_
        refine AW.lensB 0 rfl (fun hl38 => ?_)
        replace hl38 : a0.a.length ≤ 9223372036854775807 := by rw [← enxs_length a0.a]; exact hl38.2.2.2.2.2.2.2.1
        refine AW.lpw (fun x : Nat × (List Val) × Nat => [(2, .ptr 0 0), (3, .ptr 1 0), (4, .ptr 2 0), (8, .sl (.own 4) 5 (encs x.2.1)), (9, .int .i64 (x.2.2 : Int))]) (fun x => [(0, .box 44 [.str a0.op, .int .i64 a0.v.kind, .int .i64 a0.v.i, .bool a0.v.b, .str a0.v.s, .sl .ro 5 (encs a0.v.t), .int .i64 a0.n, .sl .ro 8 (enxs a0.a)]), (1, .box 42 [.int .i64 a1.kind, .int .i64 a1.i, .bool a1.b, .str a1.s, .sl .ro 5 (encs a1.t)]), (2, .box 42 [.int .i64 0, .int .i64 0, .bool false, .str ⟨#[]⟩, .sl .nil 0 []]), (4, .row 42 5 (encs x.2.1).length)]) (fun x => s_f24_l1 x.1 a0 a1 x.2.1 x.2.2 = some r ∧ x.1 ≤ n) (fun x => x.1) (n, [q5.1], 1) ⟨(fun _ h => by cases h), fmc ⟨⟨⟨_, rfl, Wv.refl _⟩, (by simp)⟩, fmc ⟨⟨⟨_, rfl, Wv.refl _⟩, (by simp)⟩, fmc ⟨⟨⟨_, rfl, Wv.refl _⟩, (by simp)⟩, fmc ⟨⟨⟨_, rfl, ⟨.inl rfl, (WvR_encs ⟨⟨Wv.refl _, Wv.refl _, Wv.refl _, Wv.refl _, Wv.refl _, trivial⟩, trivial⟩), .inl rfl⟩⟩, (by simp)⟩, fmc ⟨⟨⟨_, rfl, Wv.refl _⟩, (by simp)⟩, (fun _ h => by cases h)⟩⟩⟩⟩⟩, fmc ⟨⟨⟨_, rfl, ⟨rfl, ⟨Wv.refl _, Wv.refl _, Wv.refl _, Wv.refl _, Wv.refl _, Wv.refl _, Wv.refl _, Wv.refl _, trivial⟩⟩⟩, (by simp)⟩, fmc ⟨⟨⟨_, rfl, ⟨rfl, ⟨Wv.refl _, Wv.refl _, Wv.refl _, Wv.refl _, Wv.refl _, trivial⟩⟩⟩, (by simp)⟩, fmc ⟨⟨⟨_, rfl, ⟨rfl, ⟨Wv.refl _, Wv.refl _, Wv.refl _, Wv.refl _, Wv.refl _, trivial⟩⟩⟩, (by simp)⟩, fmc ⟨⟨⟨_, rfl, ⟨rfl, rfl, rfl⟩⟩, (by simp)⟩, (fun _ h => by cases h)⟩⟩⟩⟩⟩ ⟨hr, Nat.le_refl _⟩ (fun ⟨m, v1_1, v1_2⟩ hx => ?_)
        obtain ⟨hr, hm⟩ := hx
        try dsimp only at hr hm
        cases m with
        | zero => rw [s_f24_l1] at hr; cases hr
        | succ m =>
         rw [s_f24_l1] at hr
         show AW Tryz.prog _ _ _ (mkS 118 [(2, .ptr 0 0), (3, .ptr 1 0), (4, .ptr 2 0), (8, .sl (.own 4) 5 (encs v1_1)), (9, .int .i64 (v1_2 : Int))] [(0, .box 44 [.str a0.op, .int .i64 a0.v.kind, .int .i64 a0.v.i, .bool a0.v.b, .str a0.v.s, .sl .ro 5 (encs a0.v.t), .int .i64 a0.n, .sl .ro 8 (enxs a0.a)]), (1, .box 42 [.int .i64 a1.kind, .int .i64 a1.i, .bool a1.b, .str a1.s, .sl .ro 5 (encs a1.t)]), (2, .box 42 [.int .i64 0, .int .i64 0, .bool false, .str ⟨#[]⟩, .sl .nil 0 []]), (4, .row 42 5 (encs v1_1).length)])
         refine AW.seq ?_
         refine AW.seq (Rg ?_)
         refine Av (.int .i64 (v1_2 : Int)) rfl ?_
         refine Av (.ptr 0 7) rfl ?_
         refine Av (.sl .ro 8 (enxs a0.a)) rfl ?_
         refine AL.ln good (d := 88) (m := a0.a.length) rfl rfl rfl rfl rfl rfl (enxs_length _) ?_
         refine Av (.bool (decide ((v1_2 : Int) < (a0.a.length : Int)))) rfl ?_
         refine AW.if rfl (fun h39 => ?_) (fun h39 => ?_)
         ·replace hr := cnd_t h39 hr
          refine AW.skip ?_
          refine AW.seq ?_
          refine AW.block ?_
          refine AW.seq ?_
          refine AW.drawc (M := fun i => ⟨Nat.beq i 11, bif Nat.beq i 1 then some { ids := [0] } else bif Nat.beq i 4 then some { ids := [] } else bif Nat.beq i 5 then some { ids := [1] } else bif Nat.beq i 10 then some { ids := [5] } else bif Nat.beq i 11 then some { ids := [5] } else none⟩) good.wide (by kernel_rfl) ?_
          refine Av (nc := ⟨rfl⟩) (.ptr 0 7) rfl ?_
          refine AL.vc good (d := 94) (v := .sl .ro 8 (enxs a0.a)) rfl rfl rfl rfl rfl rfl (fmc ⟨.head _, (fun _ h => by cases h)⟩) ?_
          refine Av (nc := ⟨rfl⟩) (.int .i64 (v1_2 : Int)) rfl ?_
          obtain ⟨x40, h41, hr⟩ := bnd1 hr
          refine AL.ix (nc := ⟨rfl⟩) good (d := 96) (r := [.str x40.op, .int .i64 x40.v.kind, .int .i64 x40.v.i, .bool x40.v.b, .str x40.v.s, .sl .ro 5 (encs x40.v.t), .int .i64 x40.n, .sl .ro 8 (enxs x40.a)]) rfl rfl rfl rfl rfl rfl rfl (Int.natCast_nonneg _) (enxs_get h41) ?_
          refine AL.vc good (d := 97) (v := .agg [.str x40.op, .int .i64 x40.v.kind, .int .i64 x40.v.i, .bool x40.v.b, .str x40.v.s, .sl .ro 5 (encs x40.v.t), .int .i64 x40.n, .sl .ro 8 (enxs x40.a)]) rfl rfl rfl rfl rfl rfl (fun _ h => by cases h) ?_
          refine AL.vc good (d := 98) (v := .agg [.int .i64 a1.kind, .int .i64 a1.i, .bool a1.b, .str a1.s, .sl .ro 5 (encs a1.t)]) rfl rfl rfl rfl rfl rfl (fmc ⟨.head _, (fun _ h => by cases h)⟩) ?_
          obtain ⟨q42, h43, hr⟩ := bnd1 hr
          refine AL.cw (nc := ⟨rfl⟩) good (d := 99) (xs := [.agg (exC x40), .agg (valC a1)]) (res := .tup [.agg [.int .i64 q42.1.kind, .int .i64 q42.1.i, .bool q42.1.b, .str q42.1.s, .sl .ro 5 (encs q42.1.t)], .int .i64 q42.2]) rfl rfl rfl rfl rfl rfl rfl (ih _ _ _ _ h43 (by omega)) ⟨(Wv.refl _), (Wv.refl _), trivial⟩ (by simp) ?_
          refine Av (nc := ⟨rfl⟩) (.tup [.agg [.int .i64 q42.1.kind, .int .i64 q42.1.i, .bool q42.1.b, .str q42.1.s, .sl .ro 5 (encs q42.1.t)], .int .i64 q42.2]) rfl ?_
          refine Av (nc := ⟨rfl⟩) (.agg [.int .i64 q42.1.kind, .int .i64 q42.1.i, .bool q42.1.b, .str q42.1.s, .sl .ro 5 (encs q42.1.t)]) rfl ?_
          refine Av (nc := ⟨rfl⟩) (.int .i64 q42.2) rfl ?_
          refine AL.alcC good (d := 10) rfl rfl rfl rfl rfl 5 rfl (ColN.mk rfl rfl (fun _ h => by cases h) (fmc ⟨.head _, (fun _ h => by cases h)⟩) (fun _ h => by cases h)) ?_
          refine AL.st2c good (c2 := [.int .i64 q42.1.kind, .int .i64 q42.1.i, .bool q42.1.b, .str q42.1.s, .sl .ro 5 (encs q42.1.t)]) rfl rfl rfl rfl rfl rfl rfl rfl rfl rfl rfl rfl rfl ?_
          refine Av (nc := ⟨rfl⟩) (.int .i64 q42.2) rfl ?_
          refine AW.seq ?_
          refine AW.seq (Rg ?_)
          refine Av (.int .i64 q42.2) rfl ?_
          refine Av (.bool (q42.2 != 0)) rfl ?_
          refine AW.if rfl (fun h44 => ?_) (fun h44 => ?_)
          ·replace hr := cnd_t h44 hr
           refine AW.seq (Rg ?_)
           refine AL.bld good (d := 104) (l := [.int .i64 0, .int .i64 0, .bool false, .str ⟨#[]⟩, .sl .nil 0 []]) rfl rfl rfl rfl rfl rfl rfl ?_
           refine Av (.int .i64 q42.2) rfl ?_
           refine AL.st2 good (c2 := [.int .i64 0, .int .i64 0, .bool false, .str ⟨#[]⟩, .sl .nil 0 []]) rfl rfl rfl rfl rfl rfl rfl rfl rfl rfl rfl rfl ?_
           refine Av (.int .i64 q42.2) rfl ?_
           refine AW.ret ?_
           obtain rfl := Option.some.inj hr
           exact RetQ.w good (.inr rfl) rfl rfl ⟨⟨Wv.refl _, Wv.refl _, Wv.refl _, Wv.refl _, ⟨.inr rfl, trivial, .inr rfl⟩, trivial⟩, Wv.refl _, trivial⟩ (by simp)
          ·replace hr := cnd_f h44 hr
           refine AW.skip ?_
           refine Rg ?_
           refine Av (.sl (.own 4) 5 (encs v1_1)) rfl ?_
           refine Av (.agg [.int .i64 q42.1.kind, .int .i64 q42.1.i, .bool q42.1.b, .str q42.1.s, .sl .ro 5 (encs q42.1.t)]) rfl ?_
           refine AL.lit good (d := 108) (rows := [[.int .i64 q42.1.kind, .int .i64 q42.1.i, .bool q42.1.b, .str q42.1.s, .sl .ro 5 (encs q42.1.t)]]) rfl rfl rfl rfl rfl rfl rfl rfl rfl 6 rfl ?_
           obtain ⟨h45, hr⟩ := grd hr
           refine AL.aw2 good (d := 109) (rows := encs v1_1) (news := [(valC q42.1)]) (rows2 := encs (v1_1 ++ [q42.1])) rfl rfl rfl rfl rfl rfl rfl rfl rfl (by simp) rfl rfl rfl ⟨⟨Wv.refl _, Wv.refl _, Wv.refl _, Wv.refl _, Wv.refl _, trivial⟩, trivial⟩ (by simp [encs_map]) (by rw [encs_length, List.length_append]; exact h45) rfl ?_
           refine Av (.sl (.own 4) 5 (encs (v1_1 ++ [q42.1]))) rfl ?_
           refine Rg ?_
           refine Av (.int .i64 (v1_2 : Int)) rfl ?_
           refine Av (.int .i64 (IntKind.i64.wrap ((v1_2 : Int) + 1))) rfl ?_
           refine Av (.int .i64 (IntKind.i64.wrap ((v1_2 : Int) + 1))) rfl ?_
           exact ⟨(m, (v1_1 ++ [q42.1]), (v1_2 + 1)), _, _, rfl, ⟨(fun _ h => by cases h), fmc ⟨⟨⟨_, rfl, Wv.refl _⟩, (by simp)⟩, fmc ⟨⟨⟨_, rfl, Wv.refl _⟩, (by simp)⟩, fmc ⟨⟨⟨_, rfl, Wv.refl _⟩, (by simp)⟩, fmc ⟨⟨⟨_, rfl, Wv.refl _⟩, (by simp)⟩, fmc ⟨⟨⟨_, rfl, (wnx h39 hl38)⟩, (by simp)⟩, (fun _ h => by cases h)⟩⟩⟩⟩⟩, fmc ⟨⟨⟨_, rfl, ⟨rfl, ⟨Wv.refl _, Wv.refl _, Wv.refl _, Wv.refl _, Wv.refl _, Wv.refl _, Wv.refl _, Wv.refl _, trivial⟩⟩⟩, (by simp)⟩, fmc ⟨⟨⟨_, rfl, ⟨rfl, ⟨Wv.refl _, Wv.refl _, Wv.refl _, Wv.refl _, Wv.refl _, trivial⟩⟩⟩, (by simp)⟩, fmc ⟨⟨⟨_, rfl, ⟨rfl, ⟨Wv.refl _, Wv.refl _, Wv.refl _, Wv.refl _, Wv.refl _, trivial⟩⟩⟩, (by simp)⟩, fmc ⟨⟨⟨_, rfl, ⟨rfl, rfl, rfl⟩⟩, (by simp)⟩, (fun _ h => by cases h)⟩⟩⟩⟩⟩, ⟨hr, Nat.le_of_succ_le hm⟩, Nat.lt_succ_self _⟩
         ·replace hr := cnd_f h39 hr
          refine AW.exit ?_
          refine AW.seq (Rg ?_)
          refine Av (.ptr 0 0) rfl ?_
          refine Av (.str a0.op) rfl ?_
          refine Av (.ptr 0 6) rfl ?_
          refine Av (.int .i64 a0.n) rfl ?_
          refine Av (.sl (.own 4) 5 (encs v1_1)) rfl ?_
          obtain ⟨q46, h47, hr⟩ := bnd1 hr
          refine AL.cw good (d := 115) (xs := [.str a0.op, .int .i64 a0.n, .sl .ro 5 (encs v1_1)]) (res := .tup [.agg [.int .i64 q46.1.kind, .int .i64 q46.1.i, .bool q46.1.b, .str q46.1.s, .sl .ro 5 (encs q46.1.t)], .int .i64 q46.2]) rfl rfl rfl rfl rfl rfl rfl (w_f63 _ _ _ _ _ h47) ⟨(Wv.refl _), (Wv.refl _), ⟨.inr rfl, WvR.refl _, .inl rfl⟩, trivial⟩ (by simp) ?_
          refine Av (.agg [.int .i64 q46.1.kind, .int .i64 q46.1.i, .bool q46.1.b, .str q46.1.s, .sl .ro 5 (encs q46.1.t)]) rfl ?_
          refine Av (.int .i64 q46.2) rfl ?_
          refine AL.st2 good (c2 := [.int .i64 q46.1.kind, .int .i64 q46.1.i, .bool q46.1.b, .str q46.1.s, .sl .ro 5 (encs q46.1.t)]) rfl rfl rfl rfl rfl rfl rfl rfl rfl rfl rfl rfl ?_
          refine Av (.int .i64 q46.2) rfl ?_
          refine AW.ret ?_
          obtain rfl := Option.some.inj hr
          exact RetQ.w good (.inr rfl) rfl rfl (Wv.refl _) (by simp)
theorem w_f24 (n : Nat) : ∀ (a0 : Ex) (a1 : Val) (r : Val × Int) (hr : s_f24 n a0 a1 = some r), ACall Tryz.prog 15 [.agg (exC a0), .agg (valC a1)] (.tup [.agg (valC r.1), .int .i64 r.2]) := by
 induction n using Nat.strongRecOn with
 | _ n ih =>
  intro a0 a1 r hr
  exact w_f24_a n (fun m a0 a1 r h hm => ih m hm a0 a1 r h) a0 a1 r hr

end
end Go.Proofs.YtbcjcekoonebiaaGreat.Tl

set_option linter.unusedVariables false
set_option linter.unusedSimpArgs false
namespace Go.Proofs.YtbcjcekoonebiaaGreat.Tl
open Go Go.RowKit
section
attribute [local simp] pureA pureL pureR inA inL inR inO idsIn encs_pure enxs_pure enys_pure valC_pure exC_pure tyC_pure r_int_u8_pure r_st_GInst_pure r_sl_st_GInst_pure r_st_GMiss_pure
theorem w_f86 (a0 : ByteArray) (a1 : Int) : ACall Tryz.prog 38 [.str a0, .int .i64 a1] (.agg [.str a0, .int .i64 0, .int .i64 0, .bool false, .str ⟨#[]⟩, .sl .ro 5 (encs []), .int .i64 a1]) := by
 refine ACall.go [(0, .str a0), (1, .int .i64 a1)] Tryz.func38 rfl Tryz.ntmps38 rfl rfl (by simp) ?_
 refine AW.seq (Rg ?_)
 refine AL.alc good (d := 4) rfl rfl rfl rfl rfl 0 rfl ?_
 refine AW.seq (Rg ?_)
 refine Av (.str a0) rfl ?_
 refine Av (.int .i64 a1) rfl ?_
 refine AL.bld good (d := 7) (l := [.str a0, .int .i64 0, .int .i64 0, .bool false, .str ⟨#[]⟩, .sl .nil 0 [], .int .i64 a1]) rfl rfl rfl rfl rfl rfl rfl ?_
 refine AL.st2 good (c2 := [.str a0, .int .i64 0, .int .i64 0, .bool false, .str ⟨#[]⟩, .sl .nil 0 [], .int .i64 a1]) rfl rfl rfl rfl rfl rfl rfl rfl rfl rfl rfl rfl ?_
 refine AW.ret ?_
 exact RetQ.w good (.inr rfl) rfl rfl ⟨Wv.refl _, Wv.refl _, Wv.refl _, Wv.refl _, Wv.refl _, ⟨.inr rfl, trivial, .inr rfl⟩, Wv.refl _, trivial⟩ (by simp)


theorem w_f88 (a0 : Bool) : ACall Tryz.prog 59 [.bool a0] (.agg [.str ⟨#[112, 117, 115, 104]⟩, .int .i64 2, .int .i64 0, .bool a0, .str ⟨#[]⟩, .sl .ro 5 (encs []), .int .i64 0]) := by
 refine ACall.go [(0, .bool a0)] Tryz.func59 rfl Tryz.ntmps59 rfl rfl (by simp) ?_
 refine AW.seq (Rg ?_)
 refine AL.alc good (d := 2) rfl rfl rfl rfl rfl 0 rfl ?_
 refine AW.seq (Rg ?_)
 refine Av (.bool a0) rfl ?_
 refine AL.cw good (d := 4) (xs := [.bool a0]) (res := .agg [.int .i64 2, .int .i64 0, .bool a0, .str ⟨#[]⟩, .sl .ro 5 (encs [])]) rfl rfl rfl rfl rfl rfl rfl (w_f99 a0) ⟨(Wv.refl _), trivial⟩ (by simp) ?_
 refine AL.bld good (d := 5) (l := [.str ⟨#[112, 117, 115, 104]⟩, .int .i64 2, .int .i64 0, .bool a0, .str ⟨#[]⟩, .sl .ro 5 (encs []), .int .i64 0]) rfl rfl rfl rfl rfl rfl rfl ?_
 refine AL.st2 good (c2 := [.str ⟨#[112, 117, 115, 104]⟩, .int .i64 2, .int .i64 0, .bool a0, .str ⟨#[]⟩, .sl .ro 5 (encs []), .int .i64 0]) rfl rfl rfl rfl rfl rfl rfl rfl rfl rfl rfl rfl ?_
 refine AW.ret ?_
 exact RetQ.w good (.inr rfl) rfl rfl (Wv.refl _) (by simp)

mutual
def s_f85 : Nat → Val → Option Val
  | 0, _ => none
  | n + 1, a0 => (s_f85_l1 n a0 0 [])
def s_f85_l1 : Nat → Val → Nat → (List Val) → Option Val
  | 0, _, _, _ => none
  | n + 1, a0, v1_1, v1_2 => (bif (decide ((v1_1 : Int) < (a0.t.length : Int))) then ((a0.t[v1_1]?).bind fun x10 => ((s_f85 n x10).bind fun q12 => (if v1_2.length + 1 ≤ 1000000 then (s_f85_l1 n a0 (v1_1 + 1) (v1_2 ++ [q12])) else none))) else some (Val.mk a0.kind a0.i a0.b a0.s v1_2))
end

theorem w_f85_a (n : Nat) (ih : ∀ (m : Nat) (a0 : Val) (r : Val), s_f85 m a0 = some r → m < n → ACall Tryz.prog 36 [.agg (valC a0)] (.agg (valC r))) (a0 : Val) (r : Val) (hr : s_f85 n a0 = some r) : ACall Tryz.prog 36 [.agg (valC a0)] (.agg (valC r)) := by
 refine ACall.go [(0, .agg (valC a0))] Tryz.func36 rfl Tryz.ntmps36 rfl rfl (by simp) ?_
 cases n with
 | zero => rw [s_f85] at hr; cases hr
 | succ n =>
  rw [s_f85] at hr
  refine AW.seq (Rg ?_)
  refine AL.bx good (d := 1) (l := [.int .i64 a0.kind, .int .i64 a0.i, .bool a0.b, .str a0.s, .sl .ro 5 (encs a0.t)]) rfl rfl rfl rfl rfl rfl 0 rfl ?_
  refine AL.alc good (d := 2) rfl rfl rfl rfl rfl 1 rfl ?_
  refine AW.seq (Rg ?_)
  refine Av (.ptr 0 0) rfl ?_
  refine Av (.int .i64 a0.kind) rfl ?_
  refine Av (.ptr 0 1) rfl ?_
  refine Av (.int .i64 a0.i) rfl ?_
  refine Av (.ptr 0 2) rfl ?_
  refine Av (.bool a0.b) rfl ?_
  refine Av (.ptr 0 3) rfl ?_
  refine Av (.str a0.s) rfl ?_
  refine AL.bld good (d := 13) (l := [.int .i64 a0.kind, .int .i64 a0.i, .bool a0.b, .str a0.s, .sl .nil 0 []]) rfl rfl rfl rfl rfl rfl rfl ?_
  refine AL.alc good (d := 3) rfl rfl rfl rfl rfl 2 rfl ?_
  refine AL.st2 good (c2 := [.int .i64 a0.kind, .int .i64 a0.i, .bool a0.b, .str a0.s, .sl .nil 0 []]) rfl rfl rfl rfl rfl rfl rfl rfl rfl rfl rfl rfl ?_
  refine AW.seq ?_
  refine AW.seq (Rg ?_)
  refine Av (.int .i64 0) rfl ?_
  refine AW.block ?_
  refine AW.adoptB 2 rfl 4 rfl 3 5 28 rfl rfl ?_
  refine AW.lensB 0 rfl (fun hl8 => ?_)
  replace hl8 : a0.t.length ≤ 9223372036854775807 := by rw [← encs_length a0.t]; exact hl8.2.2.2.2.1
  refine AW.lpw (fun x : Nat × Nat × (List Val) => [(1, .ptr 0 0), (2, .ptr 1 0), (3, .ptr 2 0), (4, .int .i64 (x.2.1 : Int))]) (fun x => [(0, .box 42 [.int .i64 a0.kind, .int .i64 a0.i, .bool a0.b, .str a0.s, .sl .ro 5 (encs a0.t)]), (1, .box 28 [.int .i64 0, .int .i64 0, .bool false, .str ⟨#[]⟩, .sl .nil 0 []]), (2, .box 28 [.int .i64 a0.kind, .int .i64 a0.i, .bool a0.b, .str a0.s, .sl (.own 3) 5 (encs x.2.2)]), (3, .row 28 5 (encs x.2.2).length)]) (fun x => s_f85_l1 x.1 a0 x.2.1 x.2.2 = some r ∧ x.1 ≤ n) (fun x => x.1) (n, 0, []) ⟨(fun _ h => by cases h), fmc ⟨⟨⟨_, rfl, Wv.refl _⟩, (by simp)⟩, fmc ⟨⟨⟨_, rfl, Wv.refl _⟩, (by simp)⟩, fmc ⟨⟨⟨_, rfl, Wv.refl _⟩, (by simp)⟩, fmc ⟨⟨⟨_, rfl, Wv.refl _⟩, (by simp)⟩, (fun _ h => by cases h)⟩⟩⟩⟩, fmc ⟨⟨⟨_, rfl, ⟨rfl, ⟨Wv.refl _, Wv.refl _, Wv.refl _, Wv.refl _, Wv.refl _, trivial⟩⟩⟩, (by simp)⟩, fmc ⟨⟨⟨_, rfl, ⟨rfl, ⟨Wv.refl _, Wv.refl _, Wv.refl _, Wv.refl _, Wv.refl _, trivial⟩⟩⟩, (by simp)⟩, fmc ⟨⟨⟨_, rfl, ⟨rfl, ⟨Wv.refl _, Wv.refl _, Wv.refl _, Wv.refl _, Wv.refl _, trivial⟩⟩⟩, (by simp)⟩, fmc ⟨⟨⟨_, rfl, ⟨rfl, rfl, rfl⟩⟩, (by simp)⟩, (fun _ h => by cases h)⟩⟩⟩⟩⟩ ⟨hr, Nat.le_refl _⟩ (fun ⟨m, v1_1, v1_2⟩ hx => ?_)
  obtain ⟨hr, hm⟩ := hx
  try dsimp only at hr hm
  cases m with
  | zero => rw [s_f85_l1] at hr; cases hr
  | succ m =>
   rw [s_f85_l1] at hr
   show AW Tryz.prog _ _ _ (mkS 33 [(1, .ptr 0 0), (2, .ptr 1 0), (3, .ptr 2 0), (4, .int .i64 (v1_1 : Int))] [(0, .box 42 [.int .i64 a0.kind, .int .i64 a0.i, .bool a0.b, .str a0.s, .sl .ro 5 (encs a0.t)]), (1, .box 28 [.int .i64 0, .int .i64 0, .bool false, .str ⟨#[]⟩, .sl .nil 0 []]), (2, .box 28 [.int .i64 a0.kind, .int .i64 a0.i, .bool a0.b, .str a0.s, .sl (.own 3) 5 (encs v1_2)]), (3, .row 28 5 (encs v1_2).length)])
   refine AW.seq ?_
   refine AW.seq (Rg ?_)
   refine Av (.int .i64 (v1_1 : Int)) rfl ?_
   refine Av (.ptr 0 4) rfl ?_
   refine Av (.sl .ro 5 (encs a0.t)) rfl ?_
   refine AL.ln good (d := 17) (m := a0.t.length) rfl rfl rfl rfl rfl rfl (encs_length _) ?_
   refine Av (.bool (decide ((v1_1 : Int) < (a0.t.length : Int)))) rfl ?_
   refine AW.if rfl (fun h9 => ?_) (fun h9 => ?_)
   ·replace hr := cnd_t h9 hr
    refine AW.skip ?_
    refine AW.seq ?_
    refine AW.block ?_
    refine AW.drawc (M := fun i => ⟨Nat.beq i 9 || Nat.beq i 11, bif Nat.beq i 1 then some { ids := [2] } else bif Nat.beq i 3 then some { ids := [0] } else bif Nat.beq i 6 then some { ids := [] } else bif Nat.beq i 8 then some { ids := [4] } else bif Nat.beq i 9 then some { ids := [3] } else bif Nat.beq i 11 then some { ids := [2] } else none⟩) good.wide (by kernel_rfl) ?_
    refine Av (nc := ⟨rfl⟩) (.ptr 2 4) rfl ?_
    refine AL.vc good (d := 22) (v := .sl (.own 3) 5 (encs v1_2)) rfl rfl rfl rfl rfl rfl (fmc ⟨.head _, (fun _ h => by cases h)⟩) ?_
    refine Av (nc := ⟨rfl⟩) (.ptr 0 4) rfl ?_
    refine AL.vc good (d := 24) (v := .sl .ro 5 (encs a0.t)) rfl rfl rfl rfl rfl rfl (fmc ⟨.head _, (fun _ h => by cases h)⟩) ?_
    refine Av (nc := ⟨rfl⟩) (.int .i64 (v1_1 : Int)) rfl ?_
    obtain ⟨x10, h11, hr⟩ := bnd1 hr
    refine AL.ix (nc := ⟨rfl⟩) good (d := 26) (r := [.int .i64 x10.kind, .int .i64 x10.i, .bool x10.b, .str x10.s, .sl .ro 5 (encs x10.t)]) rfl rfl rfl rfl rfl rfl rfl (Int.natCast_nonneg _) (encs_get h11) ?_
    refine AL.vc good (d := 27) (v := .agg [.int .i64 x10.kind, .int .i64 x10.i, .bool x10.b, .str x10.s, .sl .ro 5 (encs x10.t)]) rfl rfl rfl rfl rfl rfl (fun _ h => by cases h) ?_
    obtain ⟨q12, h13, hr⟩ := bnd1 hr
    refine AL.cw (nc := ⟨rfl⟩) good (d := 28) (xs := [.agg (valC x10)]) (res := .agg [.int .i64 q12.kind, .int .i64 q12.i, .bool q12.b, .str q12.s, .sl .ro 5 (encs q12.t)]) rfl rfl rfl rfl rfl rfl rfl (ih _ _ _ h13 (by omega)) ⟨(Wv.refl _), trivial⟩ (by simp) ?_
    refine AL.litC good (d := 29) (rows := [[.int .i64 q12.kind, .int .i64 q12.i, .bool q12.b, .str q12.s, .sl .ro 5 (encs q12.t)]]) rfl rfl rfl rfl rfl rfl rfl rfl rfl 4 rfl (ColN.mk rfl rfl (fun _ h => by cases h) (fmc ⟨.head _, (fun _ h => by cases h)⟩) (fun _ h => by cases h)) ?_
    obtain ⟨h14, hr⟩ := grd hr
    refine AL.aw2c good (d := 30) (rows := encs v1_2) (news := [(valC q12)]) (rows2 := encs (v1_2 ++ [q12])) rfl rfl rfl rfl rfl rfl rfl rfl rfl (by simp) rfl rfl rfl rfl ⟨⟨Wv.refl _, Wv.refl _, Wv.refl _, Wv.refl _, Wv.refl _, trivial⟩, trivial⟩ (by simp [encs_map]) (by rw [encs_length, List.length_append]; exact h14) rfl ?_
    refine Av (nc := ⟨rfl⟩) (.ptr 2 4) rfl ?_
    refine AL.st2c good (c2 := [.int .i64 a0.kind, .int .i64 a0.i, .bool a0.b, .str a0.s, .sl (.own 3) 5 (encs (v1_2 ++ [q12]))]) rfl rfl rfl rfl rfl rfl rfl rfl rfl rfl rfl rfl rfl ?_
    refine Rg ?_
    refine Av (.int .i64 (v1_1 : Int)) rfl ?_
    refine Av (.int .i64 (IntKind.i64.wrap ((v1_1 : Int) + 1))) rfl ?_
    refine Av (.int .i64 (IntKind.i64.wrap ((v1_1 : Int) + 1))) rfl ?_
    exact ⟨(m, (v1_1 + 1), (v1_2 ++ [q12])), _, _, rfl, ⟨(fun _ h => by cases h), fmc ⟨⟨⟨_, rfl, Wv.refl _⟩, (by simp)⟩, fmc ⟨⟨⟨_, rfl, Wv.refl _⟩, (by simp)⟩, fmc ⟨⟨⟨_, rfl, Wv.refl _⟩, (by simp)⟩, fmc ⟨⟨⟨_, rfl, (wnx h9 hl8)⟩, (by simp)⟩, (fun _ h => by cases h)⟩⟩⟩⟩, fmc ⟨⟨⟨_, rfl, ⟨rfl, ⟨Wv.refl _, Wv.refl _, Wv.refl _, Wv.refl _, Wv.refl _, trivial⟩⟩⟩, (by simp)⟩, fmc ⟨⟨⟨_, rfl, ⟨rfl, ⟨Wv.refl _, Wv.refl _, Wv.refl _, Wv.refl _, Wv.refl _, trivial⟩⟩⟩, (by simp)⟩, fmc ⟨⟨⟨_, rfl, ⟨rfl, ⟨Wv.refl _, Wv.refl _, Wv.refl _, Wv.refl _, Wv.refl _, trivial⟩⟩⟩, (by simp)⟩, fmc ⟨⟨⟨_, rfl, ⟨rfl, rfl, rfl⟩⟩, (by simp)⟩, (fun _ h => by cases h)⟩⟩⟩⟩⟩, ⟨hr, Nat.le_of_succ_le hm⟩, Nat.lt_succ_self _⟩
   ·replace hr := cnd_f h9 hr
    refine AW.exit ?_
    refine AW.seq (Rg ?_)
    refine Av (.agg [.int .i64 a0.kind, .int .i64 a0.i, .bool a0.b, .str a0.s, .sl (.own 3) 5 (encs v1_2)]) rfl ?_
    refine AL.st2 good (c2 := [.int .i64 a0.kind, .int .i64 a0.i, .bool a0.b, .str a0.s, .sl (.own 3) 5 (encs v1_2)]) rfl rfl rfl rfl rfl rfl rfl rfl rfl rfl rfl rfl ?_
    refine AW.ret ?_
    obtain rfl := Option.some.inj hr
    exact RetQ.w good (.inr rfl) rfl rfl ⟨Wv.refl _, Wv.refl _, Wv.refl _, Wv.refl _, ⟨.inr rfl, WvR.refl _, .inl rfl⟩, trivial⟩ (by simp)
theorem w_f85 (n : Nat) : ∀ (a0 : Val) (r : Val) (hr : s_f85 n a0 = some r), ACall Tryz.prog 36 [.agg (valC a0)] (.agg (valC r)) := by
 induction n using Nat.strongRecOn with
 | _ n ih =>
  intro a0 r hr
  exact w_f85_a n (fun m a0 r h hm => ih m hm a0 r h) a0 r hr

mutual
def s_f51_l1 : Nat → (List GInst) → (List GInst) → Nat → Option (List GInst)
  | 0, _, _, _ => none
  | n + 1, a0, v1_1, v1_2 => (bif (decide ((v1_2 : Int) < (a0.length : Int))) then ((a0[v1_2]?).bind fun x16 => ((a0[v1_2]?).bind fun x18 => ((s_f85 n x18.f1).bind fun q20 => ((a0[v1_2]?).bind fun x22 => (if v1_1.length + 1 ≤ 1000000 then (s_f51_l1 n a0 (v1_1 ++ [(GInst.mk x16.f0 q20 x22.f2)]) (v1_2 + 1)) else none))))) else some v1_1)
end
def s_f51 (n : Nat) (a0 : List GInst) : Option (List GInst) :=
  (s_f51_l1 n a0 [] 0)

theorem w_f51 (n : Nat) (a0 : List GInst) (r : List GInst) (hr : s_f51 n a0 = some r) (id : Nat) : ACallN Tryz.prog 13 [.sl .ro 7 (r_st_GInst a0)] id (.row 69 7 (r_st_GInst r).length) (.sl (.own id) 7 (r_st_GInst r)) := by
 refine ACallN.go (rows := r_st_GInst r) [(0, .sl .ro 7 (r_st_GInst a0))] Tryz.func13 rfl Tryz.ntmps13 rfl rfl (by simp) (by simp) ?_ id
 rw [s_f51] at hr
 refine AW.seq (Rg ?_)
 refine Av (.sl .nil 0 []) rfl ?_
 refine AW.seq (Rg ?_)
 refine Av (.sl .nil 0 []) rfl ?_
 refine AW.seq ?_
 refine AW.seq (Rg ?_)
 refine Av (.int .i64 0) rfl ?_
 refine AW.block ?_
 refine AW.adopt 3 rfl 0 7 69 rfl rfl ?_
 refine AW.lens 0 rfl (fun hl14 => ?_)
 replace hl14 : a0.length ≤ 9223372036854775807 := by rw [← r_st_GInst_length a0]; exact hl14
 refine AW.lpw (fun x : Nat × (List GInst) × Nat => [(0, .sl .ro 7 (r_st_GInst a0)), (3, .sl (.own 0) 7 (r_st_GInst x.2.1)), (4, .int .i64 (x.2.2 : Int))]) (fun x => [(0, .row 69 7 (r_st_GInst x.2.1).length)]) (fun x => s_f51_l1 x.1 a0 x.2.1 x.2.2 = some r ∧ x.1 ≤ n) (fun x => x.1) (n, [], 0) ⟨(fun _ h => by cases h), fmc ⟨⟨⟨_, rfl, Wv.refl _⟩, (by simp)⟩, fmc ⟨⟨⟨_, rfl, Wv.refl _⟩, (by simp)⟩, fmc ⟨⟨⟨_, rfl, Wv.refl _⟩, (by simp)⟩, (fun _ h => by cases h)⟩⟩⟩, fmc ⟨⟨⟨_, rfl, ⟨rfl, rfl, rfl⟩⟩, (by simp)⟩, (fun _ h => by cases h)⟩⟩ ⟨hr, Nat.le_refl _⟩ (fun ⟨m, v1_1, v1_2⟩ hx => ?_)
 obtain ⟨hr, hm⟩ := hx
 try dsimp only at hr hm
 cases m with
 | zero => rw [s_f51_l1] at hr; cases hr
 | succ m =>
  rw [s_f51_l1] at hr
  show AW Tryz.prog _ _ _ (mkS 32 [(0, .sl .ro 7 (r_st_GInst a0)), (3, .sl (.own 0) 7 (r_st_GInst v1_1)), (4, .int .i64 (v1_2 : Int))] [(0, .row 69 7 (r_st_GInst v1_1).length)])
  refine AW.seq ?_
  refine AW.seq (Rg ?_)
  refine Av (.int .i64 (v1_2 : Int)) rfl ?_
  refine Av (.sl .ro 7 (r_st_GInst a0)) rfl ?_
  refine AL.ln good (d := 7) (m := a0.length) rfl rfl rfl rfl rfl rfl (r_st_GInst_length _) ?_
  refine Av (.bool (decide ((v1_2 : Int) < (a0.length : Int)))) rfl ?_
  refine AW.if rfl (fun h15 => ?_) (fun h15 => ?_)
  ·replace hr := cnd_t h15 hr
   refine AW.skip ?_
   refine AW.seq ?_
   refine AW.block ?_
   refine AW.drawc (M := fun i => ⟨Nat.beq i 19, bif Nat.beq i 5 then some { ids := [] } else bif Nat.beq i 10 then some { ids := [] } else bif Nat.beq i 16 then some { ids := [] } else bif Nat.beq i 18 then some { ids := [1] } else bif Nat.beq i 19 then some { ids := [0] } else none⟩) good.wide (by kernel_rfl) ?_
   refine Av (nc := ⟨rfl⟩) (.sl (.own 0) 7 (r_st_GInst v1_1)) rfl ?_
   refine Av (nc := ⟨rfl⟩) (.sl .ro 7 (r_st_GInst a0)) rfl ?_
   refine Av (nc := ⟨rfl⟩) (.int .i64 (v1_2 : Int)) rfl ?_
   obtain ⟨x16, h17, hr⟩ := bnd1 hr
   refine AL.ix (nc := ⟨rfl⟩) good (d := 14) (r := [.str x16.f0, .int .i64 x16.f1.kind, .int .i64 x16.f1.i, .bool x16.f1.b, .str x16.f1.s, .sl .ro 5 (encs x16.f1.t), .int .i64 x16.f2]) rfl rfl rfl rfl rfl rfl rfl (Int.natCast_nonneg _) (r_st_GInst_get h17) ?_
   refine Av (nc := ⟨rfl⟩) (.ep [.str x16.f0, .int .i64 x16.f1.kind, .int .i64 x16.f1.i, .bool x16.f1.b, .str x16.f1.s, .sl .ro 5 (encs x16.f1.t), .int .i64 x16.f2]) rfl ?_
   refine AL.vc good (d := 16) (v := .str x16.f0) rfl rfl rfl rfl rfl rfl (fun _ h => by cases h) ?_
   refine Av (nc := ⟨rfl⟩) (.sl .ro 7 (r_st_GInst a0)) rfl ?_
   refine Av (nc := ⟨rfl⟩) (.int .i64 (v1_2 : Int)) rfl ?_
   obtain ⟨x18, h19, hr⟩ := bnd1 hr
   refine AL.ix (nc := ⟨rfl⟩) good (d := 19) (r := [.str x18.f0, .int .i64 x18.f1.kind, .int .i64 x18.f1.i, .bool x18.f1.b, .str x18.f1.s, .sl .ro 5 (encs x18.f1.t), .int .i64 x18.f2]) rfl rfl rfl rfl rfl rfl rfl (Int.natCast_nonneg _) (r_st_GInst_get h19) ?_
   refine Av (nc := ⟨rfl⟩) (.ep [.int .i64 x18.f1.kind, .int .i64 x18.f1.i, .bool x18.f1.b, .str x18.f1.s, .sl .ro 5 (encs x18.f1.t), .int .i64 x18.f2]) rfl ?_
   refine AL.vc good (d := 21) (v := .agg [.int .i64 x18.f1.kind, .int .i64 x18.f1.i, .bool x18.f1.b, .str x18.f1.s, .sl .ro 5 (encs x18.f1.t)]) rfl rfl rfl rfl rfl rfl (fun _ h => by cases h) ?_
   obtain ⟨q20, h21, hr⟩ := bnd1 hr
   refine AL.cw (nc := ⟨rfl⟩) good (d := 22) (xs := [.agg (valC x18.f1)]) (res := .agg [.int .i64 q20.kind, .int .i64 q20.i, .bool q20.b, .str q20.s, .sl .ro 5 (encs q20.t)]) rfl rfl rfl rfl rfl rfl rfl (w_f85 _ _ _ h21) ⟨(Wv.refl _), trivial⟩ (by simp) ?_
   refine Av (nc := ⟨rfl⟩) (.sl .ro 7 (r_st_GInst a0)) rfl ?_
   refine Av (nc := ⟨rfl⟩) (.int .i64 (v1_2 : Int)) rfl ?_
   obtain ⟨x22, h23, hr⟩ := bnd1 hr
   refine AL.ix (nc := ⟨rfl⟩) good (d := 25) (r := [.str x22.f0, .int .i64 x22.f1.kind, .int .i64 x22.f1.i, .bool x22.f1.b, .str x22.f1.s, .sl .ro 5 (encs x22.f1.t), .int .i64 x22.f2]) rfl rfl rfl rfl rfl rfl rfl (Int.natCast_nonneg _) (r_st_GInst_get h23) ?_
   refine Av (nc := ⟨rfl⟩) (.ep [.int .i64 x22.f2]) rfl ?_
   refine AL.vc good (d := 27) (v := .int .i64 x22.f2) rfl rfl rfl rfl rfl rfl (fun _ h => by cases h) ?_
   refine AL.bld (nc := ⟨rfl⟩) good (d := 28) (l := [.str x16.f0, .int .i64 q20.kind, .int .i64 q20.i, .bool q20.b, .str q20.s, .sl .ro 5 (encs q20.t), .int .i64 x22.f2]) rfl rfl rfl rfl rfl rfl rfl ?_
   refine AL.litC good (d := 29) (rows := [[.str x16.f0, .int .i64 q20.kind, .int .i64 q20.i, .bool q20.b, .str q20.s, .sl .ro 5 (encs q20.t), .int .i64 x22.f2]]) rfl rfl rfl rfl rfl rfl rfl rfl rfl 1 rfl (ColN.mk rfl rfl (fun _ h => by cases h) (fmc ⟨.head _, (fun _ h => by cases h)⟩) (fun _ h => by cases h)) ?_
   obtain ⟨h24, hr⟩ := grd hr
   refine AL.aw2c good (d := 30) (rows := r_st_GInst v1_1) (news := [[.str (((GInst.mk x16.f0 q20 x22.f2)).f0), .int .i64 ((((GInst.mk x16.f0 q20 x22.f2)).f1).kind), .int .i64 ((((GInst.mk x16.f0 q20 x22.f2)).f1).i), .bool ((((GInst.mk x16.f0 q20 x22.f2)).f1).b), .str ((((GInst.mk x16.f0 q20 x22.f2)).f1).s), .sl .ro 5 (encs ((((GInst.mk x16.f0 q20 x22.f2)).f1).t)), .int .i64 (((GInst.mk x16.f0 q20 x22.f2)).f2)]]) (rows2 := r_st_GInst (v1_1 ++ [(GInst.mk x16.f0 q20 x22.f2)])) rfl rfl rfl rfl rfl rfl rfl rfl rfl (by simp) rfl rfl rfl rfl ⟨⟨Wv.refl _, Wv.refl _, Wv.refl _, Wv.refl _, Wv.refl _, Wv.refl _, Wv.refl _, trivial⟩, trivial⟩ (by simp [r_st_GInst, rowF]) (by rw [r_st_GInst_length, List.length_append]; exact h24) rfl ?_
   refine Av (nc := ⟨rfl⟩) (.sl (.own 0) 7 (r_st_GInst (v1_1 ++ [(GInst.mk x16.f0 q20 x22.f2)]))) rfl ?_
   refine Rg ?_
   refine Av (.int .i64 (v1_2 : Int)) rfl ?_
   refine Av (.int .i64 (IntKind.i64.wrap ((v1_2 : Int) + 1))) rfl ?_
   refine Av (.int .i64 (IntKind.i64.wrap ((v1_2 : Int) + 1))) rfl ?_
   exact ⟨(m, (v1_1 ++ [(GInst.mk x16.f0 q20 x22.f2)]), (v1_2 + 1)), _, _, rfl, ⟨(fun _ h => by cases h), fmc ⟨⟨⟨_, rfl, Wv.refl _⟩, (by simp)⟩, fmc ⟨⟨⟨_, rfl, Wv.refl _⟩, (by simp)⟩, fmc ⟨⟨⟨_, rfl, (wnx h15 hl14)⟩, (by simp)⟩, (fun _ h => by cases h)⟩⟩⟩, fmc ⟨⟨⟨_, rfl, ⟨rfl, rfl, rfl⟩⟩, (by simp)⟩, (fun _ h => by cases h)⟩⟩, ⟨hr, Nat.le_of_succ_le hm⟩, Nat.lt_succ_self _⟩
  ·replace hr := cnd_f h15 hr
   refine AW.exit ?_
   refine AW.seq (Rg ?_)
   refine Av (.sl (.own 0) 7 (r_st_GInst v1_1)) rfl ?_
   refine Av (.sl (.own 0) 7 (r_st_GInst v1_1)) rfl ?_
   refine AW.ret ?_
   obtain rfl := Option.some.inj hr
   exact RetN.w good (.inr rfl) rfl rfl (WvR.refl _) rfl

mutual
def s_f120_l1 : Nat → (List GInst) → Int → (List GInst) → Nat → Option (List GInst)
  | 0, _, _, _, _ => none
  | n + 1, a0, a1, v1_1, v1_2 => (bif (decide ((v1_2 : Int) < (a0.length : Int))) then ((a0[v1_2]?).bind fun x12 => (bif ((x12.f0.data.toList == [106, 109, 112]) || (x12.f0.data.toList == [106, 102])) then (if v1_1.length + 1 ≤ 1000000 then (s_f120_l1 n a0 a1 (v1_1 ++ [(GInst.mk x12.f0 x12.f1 (IntKind.i64.wrap (x12.f2 + a1)))]) (v1_2 + 1)) else none) else (if v1_1.length + 1 ≤ 1000000 then (s_f120_l1 n a0 a1 (v1_1 ++ [x12]) (v1_2 + 1)) else none))) else some v1_1)
end
def s_f120 (n : Nat) (a0 : List GInst) (a1 : Int) : Option (List GInst) :=
  (s_f120_l1 n a0 a1 [] 0)

theorem w_f120 (n : Nat) (a0 : List GInst) (a1 : Int) (r : List GInst) (hr : s_f120 n a0 a1 = some r) (id : Nat) : ACallN Tryz.prog 63 [.sl .ro 7 (r_st_GInst a0), .int .i64 a1] id (.row 94 7 (r_st_GInst r).length) (.sl (.own id) 7 (r_st_GInst r)) := by
 refine ACallN.go (rows := r_st_GInst r) [(0, .sl .ro 7 (r_st_GInst a0)), (1, .int .i64 a1)] Tryz.func63 rfl Tryz.ntmps63 rfl rfl (by simp) (by simp) ?_ id
 rw [s_f120] at hr
 refine AW.seq (Rg ?_)
 refine Av (.sl .nil 0 []) rfl ?_
 refine AW.seq (Rg ?_)
 refine Av (.sl .nil 0 []) rfl ?_
 refine AW.seq ?_
 refine AW.seq (Rg ?_)
 refine Av (.int .i64 0) rfl ?_
 refine AW.block ?_
 refine AW.adopt 5 rfl 0 7 94 rfl rfl ?_
 refine AW.lens 0 rfl (fun hl10 => ?_)
 replace hl10 : a0.length ≤ 9223372036854775807 := by rw [← r_st_GInst_length a0]; exact hl10
 refine AW.lpw (fun x : Nat × (List GInst) × Nat => [(0, .sl .ro 7 (r_st_GInst a0)), (1, .int .i64 a1), (5, .sl (.own 0) 7 (r_st_GInst x.2.1)), (6, .int .i64 (x.2.2 : Int))]) (fun x => [(0, .row 94 7 (r_st_GInst x.2.1).length)]) (fun x => s_f120_l1 x.1 a0 a1 x.2.1 x.2.2 = some r ∧ x.1 ≤ n) (fun x => x.1) (n, [], 0) ⟨(fun _ h => by cases h), fmc ⟨⟨⟨_, rfl, Wv.refl _⟩, (by simp)⟩, fmc ⟨⟨⟨_, rfl, Wv.refl _⟩, (by simp)⟩, fmc ⟨⟨⟨_, rfl, Wv.refl _⟩, (by simp)⟩, fmc ⟨⟨⟨_, rfl, Wv.refl _⟩, (by simp)⟩, (fun _ h => by cases h)⟩⟩⟩⟩, fmc ⟨⟨⟨_, rfl, ⟨rfl, rfl, rfl⟩⟩, (by simp)⟩, (fun _ h => by cases h)⟩⟩ ⟨hr, Nat.le_refl _⟩ (fun ⟨m, v1_1, v1_2⟩ hx => ?_)
 obtain ⟨hr, hm⟩ := hx
 try dsimp only at hr hm
 cases m with
 | zero => rw [s_f120_l1] at hr; cases hr
 | succ m =>
  rw [s_f120_l1] at hr
  show AW Tryz.prog _ _ _ (mkS 36 [(0, .sl .ro 7 (r_st_GInst a0)), (1, .int .i64 a1), (5, .sl (.own 0) 7 (r_st_GInst v1_1)), (6, .int .i64 (v1_2 : Int))] [(0, .row 94 7 (r_st_GInst v1_1).length)])
  refine AW.seq ?_
  refine AW.seq (Rg ?_)
  refine Av (.int .i64 (v1_2 : Int)) rfl ?_
  refine Av (.sl .ro 7 (r_st_GInst a0)) rfl ?_
  refine AL.ln good (d := 10) (m := a0.length) rfl rfl rfl rfl rfl rfl (r_st_GInst_length _) ?_
  refine Av (.bool (decide ((v1_2 : Int) < (a0.length : Int)))) rfl ?_
  refine AW.if rfl (fun h11 => ?_) (fun h11 => ?_)
  ·replace hr := cnd_t h11 hr
   refine AW.skip ?_
   refine AW.seq ?_
   refine AW.block ?_
   refine AW.seq (Rg ?_)
   refine Av (.sl .ro 7 (r_st_GInst a0)) rfl ?_
   refine Av (.int .i64 (v1_2 : Int)) rfl ?_
   obtain ⟨x12, h13, hr⟩ := bnd1 hr
   refine AL.ix good (d := 16) (r := [.str x12.f0, .int .i64 x12.f1.kind, .int .i64 x12.f1.i, .bool x12.f1.b, .str x12.f1.s, .sl .ro 5 (encs x12.f1.t), .int .i64 x12.f2]) rfl rfl rfl rfl rfl rfl rfl (Int.natCast_nonneg _) (r_st_GInst_get h13) ?_
   refine Av (.agg [.str x12.f0, .int .i64 x12.f1.kind, .int .i64 x12.f1.i, .bool x12.f1.b, .str x12.f1.s, .sl .ro 5 (encs x12.f1.t), .int .i64 x12.f2]) rfl ?_
   refine AL.alc good (d := 7) rfl rfl rfl rfl rfl 1 rfl ?_
   refine AL.st2 good (c2 := [.str x12.f0, .int .i64 x12.f1.kind, .int .i64 x12.f1.i, .bool x12.f1.b, .str x12.f1.s, .sl .ro 5 (encs x12.f1.t), .int .i64 x12.f2]) rfl rfl rfl rfl rfl rfl rfl rfl rfl rfl rfl rfl ?_
   refine AW.seq ?_
   refine AW.seq (Rg ?_)
   refine Av (.ptr 1 0) rfl ?_
   refine Av (.str x12.f0) rfl ?_
   refine AL.sb good (d := 20) (b := (x12.f0.data.toList == [106, 109, 112])) rfl rfl rfl rfl rfl rfl rfl ?_
   refine AL.vb good (d := 21) (b := (x12.f0.data.toList == [106, 109, 112])) rfl rfl rfl rfl (fun g14 h15 => ?_)
   refine Gv ((!g14)) (.ptr 1 0) rfl (by cases g14 <;> exact ⟨rfl, fun h => by first | rfl | cases h⟩) ?_
   refine Gv ((!g14)) (.str x12.f0) rfl (by cases g14 <;> exact ⟨rfl, fun h => by first | rfl | cases h⟩) ?_
   refine AL.gsb good (d := 24) (c := (!g14)) (b := (x12.f0.data.toList == [106, 102])) rfl rfl (by cases g14 <;> rfl) rfl (fun h => by cases g14 <;> first | rfl | exact absurd h (by decide)) (fun h => by cases g14 <;> first | rfl | exact absurd h (by decide)) rfl ?_
   refine AL.v good (d := 25) (v := .bool (g14 || (x12.f0.data.toList == [106, 102]))) (rd := []) rfl rfl rfl (by cases g14 <;> rfl) ?_
   subst h15
   refine AW.if rfl (fun h16 => ?_) (fun h16 => ?_)
   ·replace hr := cnd_t h16 hr
    refine Rg ?_
    refine Av (.ptr 1 6) rfl ?_
    refine Av (.int .i64 x12.f2) rfl ?_
    refine Av (.int .i64 a1) rfl ?_
    refine Av (.int .i64 (IntKind.i64.wrap (x12.f2 + a1))) rfl ?_
    refine Av (.ptr 1 6) rfl ?_
    refine AL.st2 good (c2 := [.str x12.f0, .int .i64 x12.f1.kind, .int .i64 x12.f1.i, .bool x12.f1.b, .str x12.f1.s, .sl .ro 5 (encs x12.f1.t), .int .i64 (IntKind.i64.wrap (x12.f2 + a1))]) rfl rfl rfl rfl rfl rfl rfl rfl rfl rfl rfl rfl ?_
    refine Rg ?_
    refine Av (.sl (.own 0) 7 (r_st_GInst v1_1)) rfl ?_
    refine Av (.agg [.str x12.f0, .int .i64 x12.f1.kind, .int .i64 x12.f1.i, .bool x12.f1.b, .str x12.f1.s, .sl .ro 5 (encs x12.f1.t), .int .i64 (IntKind.i64.wrap (x12.f2 + a1))]) rfl ?_
    refine AL.lit good (d := 33) (rows := [[.str x12.f0, .int .i64 x12.f1.kind, .int .i64 x12.f1.i, .bool x12.f1.b, .str x12.f1.s, .sl .ro 5 (encs x12.f1.t), .int .i64 (IntKind.i64.wrap (x12.f2 + a1))]]) rfl rfl rfl rfl rfl rfl rfl rfl rfl 2 rfl ?_
    obtain ⟨h17, hr⟩ := grd hr
    refine AL.aw2 good (d := 34) (rows := r_st_GInst v1_1) (news := [[.str (((GInst.mk x12.f0 x12.f1 (IntKind.i64.wrap (x12.f2 + a1)))).f0), .int .i64 ((((GInst.mk x12.f0 x12.f1 (IntKind.i64.wrap (x12.f2 + a1)))).f1).kind), .int .i64 ((((GInst.mk x12.f0 x12.f1 (IntKind.i64.wrap (x12.f2 + a1)))).f1).i), .bool ((((GInst.mk x12.f0 x12.f1 (IntKind.i64.wrap (x12.f2 + a1)))).f1).b), .str ((((GInst.mk x12.f0 x12.f1 (IntKind.i64.wrap (x12.f2 + a1)))).f1).s), .sl .ro 5 (encs ((((GInst.mk x12.f0 x12.f1 (IntKind.i64.wrap (x12.f2 + a1)))).f1).t)), .int .i64 (((GInst.mk x12.f0 x12.f1 (IntKind.i64.wrap (x12.f2 + a1)))).f2)]]) (rows2 := r_st_GInst (v1_1 ++ [(GInst.mk x12.f0 x12.f1 (IntKind.i64.wrap (x12.f2 + a1)))])) rfl rfl rfl rfl rfl rfl rfl rfl rfl (by simp) rfl rfl rfl ⟨⟨Wv.refl _, Wv.refl _, Wv.refl _, Wv.refl _, Wv.refl _, Wv.refl _, Wv.refl _, trivial⟩, trivial⟩ (by simp [r_st_GInst, rowF]) (by rw [r_st_GInst_length, List.length_append]; exact h17) rfl ?_
    refine Av (.sl (.own 0) 7 (r_st_GInst (v1_1 ++ [(GInst.mk x12.f0 x12.f1 (IntKind.i64.wrap (x12.f2 + a1)))]))) rfl ?_
    refine Rg ?_
    refine Av (.int .i64 (v1_2 : Int)) rfl ?_
    refine Av (.int .i64 (IntKind.i64.wrap ((v1_2 : Int) + 1))) rfl ?_
    refine Av (.int .i64 (IntKind.i64.wrap ((v1_2 : Int) + 1))) rfl ?_
    exact ⟨(m, (v1_1 ++ [(GInst.mk x12.f0 x12.f1 (IntKind.i64.wrap (x12.f2 + a1)))]), (v1_2 + 1)), _, _, rfl, ⟨(fun _ h => by cases h), fmc ⟨⟨⟨_, rfl, Wv.refl _⟩, (by simp)⟩, fmc ⟨⟨⟨_, rfl, Wv.refl _⟩, (by simp)⟩, fmc ⟨⟨⟨_, rfl, Wv.refl _⟩, (by simp)⟩, fmc ⟨⟨⟨_, rfl, (wnx h11 hl10)⟩, (by simp)⟩, (fun _ h => by cases h)⟩⟩⟩⟩, fmc ⟨⟨⟨_, rfl, ⟨rfl, rfl, rfl⟩⟩, (by simp)⟩, (fun _ h => by cases h)⟩⟩, ⟨hr, Nat.le_of_succ_le hm⟩, Nat.lt_succ_self _⟩
   ·replace hr := cnd_f h16 hr
    refine AW.skip ?_
    refine Rg ?_
    refine Av (.sl (.own 0) 7 (r_st_GInst v1_1)) rfl ?_
    refine Av (.agg [.str x12.f0, .int .i64 x12.f1.kind, .int .i64 x12.f1.i, .bool x12.f1.b, .str x12.f1.s, .sl .ro 5 (encs x12.f1.t), .int .i64 x12.f2]) rfl ?_
    refine AL.lit good (d := 33) (rows := [[.str x12.f0, .int .i64 x12.f1.kind, .int .i64 x12.f1.i, .bool x12.f1.b, .str x12.f1.s, .sl .ro 5 (encs x12.f1.t), .int .i64 x12.f2]]) rfl rfl rfl rfl rfl rfl rfl rfl rfl 2 rfl ?_
    obtain ⟨h18, hr⟩ := grd hr
    refine AL.aw2 good (d := 34) (rows := r_st_GInst v1_1) (news := [[.str x12.f0, .int .i64 x12.f1.kind, .int .i64 x12.f1.i, .bool x12.f1.b, .str x12.f1.s, .sl .ro 5 (encs x12.f1.t), .int .i64 x12.f2]]) (rows2 := r_st_GInst (v1_1 ++ [x12])) rfl rfl rfl rfl rfl rfl rfl rfl rfl (by simp) rfl rfl rfl ⟨⟨Wv.refl _, Wv.refl _, Wv.refl _, Wv.refl _, Wv.refl _, Wv.refl _, Wv.refl _, trivial⟩, trivial⟩ (by simp [r_st_GInst, rowF]) (by rw [r_st_GInst_length, List.length_append]; exact h18) rfl ?_
    refine Av (.sl (.own 0) 7 (r_st_GInst (v1_1 ++ [x12]))) rfl ?_
    refine Rg ?_
    refine Av (.int .i64 (v1_2 : Int)) rfl ?_
    refine Av (.int .i64 (IntKind.i64.wrap ((v1_2 : Int) + 1))) rfl ?_
    refine Av (.int .i64 (IntKind.i64.wrap ((v1_2 : Int) + 1))) rfl ?_
    exact ⟨(m, (v1_1 ++ [x12]), (v1_2 + 1)), _, _, rfl, ⟨(fun _ h => by cases h), fmc ⟨⟨⟨_, rfl, Wv.refl _⟩, (by simp)⟩, fmc ⟨⟨⟨_, rfl, Wv.refl _⟩, (by simp)⟩, fmc ⟨⟨⟨_, rfl, Wv.refl _⟩, (by simp)⟩, fmc ⟨⟨⟨_, rfl, (wnx h11 hl10)⟩, (by simp)⟩, (fun _ h => by cases h)⟩⟩⟩⟩, fmc ⟨⟨⟨_, rfl, ⟨rfl, rfl, rfl⟩⟩, (by simp)⟩, (fun _ h => by cases h)⟩⟩, ⟨hr, Nat.le_of_succ_le hm⟩, Nat.lt_succ_self _⟩
  ·replace hr := cnd_f h11 hr
   refine AW.exit ?_
   refine AW.seq (Rg ?_)
   refine Av (.sl (.own 0) 7 (r_st_GInst v1_1)) rfl ?_
   refine Av (.sl (.own 0) 7 (r_st_GInst v1_1)) rfl ?_
   refine AW.ret ?_
   obtain rfl := Option.some.inj hr
   exact RetN.w good (.inr rfl) rfl rfl (WvR.refl _) rfl

def s_f89 (n : Nat) (a0 : List GInst) (a1 : List GInst) : Option (List GInst) :=
  (if a0.length ≤ 1000000 then ((s_f120 n a1 (a0.length : Int)).bind fun q2 => (if a0.length + q2.length ≤ 1000000 then some (a0 ++ q2) else none)) else none)

theorem w_f89 (n : Nat) (a0 : List GInst) (a1 : List GInst) (r : List GInst) (hr : s_f89 n a0 a1 = some r) (id : Nat) : ACallN Tryz.prog 41 [.sl .ro 7 (r_st_GInst a0), .sl .ro 7 (r_st_GInst a1)] id (.row 94 7 (r_st_GInst r).length) (.sl (.own id) 7 (r_st_GInst r)) := by
 refine ACallN.go (rows := r_st_GInst r) [(0, .sl .ro 7 (r_st_GInst a0)), (1, .sl .ro 7 (r_st_GInst a1))] Tryz.func41 rfl Tryz.ntmps41 rfl rfl (by simp) (by simp) ?_ id
 rw [s_f89] at hr
 refine AW.seq (Rg ?_)
 refine Av (.sl .nil 0 []) rfl ?_
 refine AW.seq (Rg ?_)
 refine AL.lit good (d := 5) (rows := []) rfl rfl rfl rfl rfl rfl rfl rfl rfl 0 rfl ?_
 refine Av (.sl .ro 7 (r_st_GInst a0)) rfl ?_
 obtain ⟨h1, hr⟩ := grd hr
 refine AL.aw2 good (d := 7) (rows := r_st_GInst []) (news := r_st_GInst a0) (rows2 := r_st_GInst a0) rfl rfl rfl rfl rfl rfl rfl rfl rfl (by simp) rfl rfl rfl (WvR.refl _) (by simp [r_st_GInst, rowF]) (by rw [r_st_GInst_length]; exact h1) rfl ?_
 refine Av (.sl .ro 7 (r_st_GInst a1)) rfl ?_
 refine Av (.sl .ro 7 (r_st_GInst a0)) rfl ?_
 refine AL.ln good (d := 10) (m := a0.length) rfl rfl rfl rfl rfl rfl (r_st_GInst_length _) ?_
 obtain ⟨q2, h3, hr⟩ := bnd1 hr
 refine AL.clF good (d := 11) (xs := [.sl .ro 7 (r_st_GInst a1), .int .i64 (a0.length : Int)]) (ob := .row 94 7 (r_st_GInst q2).length) (res := .sl (.own 1) 7 (r_st_GInst q2)) rfl rfl rfl rfl rfl rfl rfl 1 rfl (w_f120 _ _ _ _ h3 1) ⟨(Wv.refl _), (Wv.refl _), trivial⟩ rfl ColN.no ?_
 obtain ⟨h4, hr⟩ := grd hr
 refine AL.aw2 good (d := 12) (rows := r_st_GInst a0) (news := r_st_GInst q2) (rows2 := r_st_GInst (a0 ++ q2)) rfl rfl rfl rfl rfl rfl rfl rfl rfl (by simp) rfl rfl rfl (WvR.refl _) (by simp [r_st_GInst, rowF]) (by rw [r_st_GInst_length, List.length_append]; exact h4) rfl ?_
 refine Av (.sl (.own 0) 7 (r_st_GInst (a0 ++ q2))) rfl ?_
 refine AW.ret ?_
 obtain rfl := Option.some.inj hr
 exact RetN.w good (.inr rfl) rfl rfl (WvR.refl _) rfl

def s_f87 (n : Nat) (a0 : List GInst) (a1 : List GInst) (a2 : List GInst) : Option (List GInst) :=
  (if a0.length ≤ 1000000 then (if a0.length + 1 ≤ 1000000 then ((s_f89 n (a0 ++ [(GInst.mk ⟨#[106, 102]⟩ (Val.mk 0 0 false ⟨#[]⟩ []) (IntKind.i64.wrap ((IntKind.i64.wrap ((IntKind.i64.wrap ((a0.length : Int) + 1)) + (a1.length : Int))) + 1)))]) a1).bind fun q3 => (if q3.length + 1 ≤ 1000000 then ((s_f89 n (q3 ++ [(GInst.mk ⟨#[106, 109, 112]⟩ (Val.mk 0 0 false ⟨#[]⟩ []) (IntKind.i64.wrap ((IntKind.i64.wrap ((IntKind.i64.wrap ((IntKind.i64.wrap ((a0.length : Int) + 1)) + (a1.length : Int))) + 1)) + (a2.length : Int))))]) a2).bind fun q6 => some q6) else none)) else none) else none)

theorem w_f87 (n : Nat) (a0 : List GInst) (a1 : List GInst) (a2 : List GInst) (r : List GInst) (hr : s_f87 n a0 a1 a2 = some r) (id : Nat) : ACallN Tryz.prog 58 [.sl .ro 7 (r_st_GInst a0), .sl .ro 7 (r_st_GInst a1), .sl .ro 7 (r_st_GInst a2)] id (.row 94 7 (r_st_GInst r).length) (.sl (.own id) 7 (r_st_GInst r)) := by
 refine ACallN.go (rows := r_st_GInst r) [(0, .sl .ro 7 (r_st_GInst a0)), (1, .sl .ro 7 (r_st_GInst a1)), (2, .sl .ro 7 (r_st_GInst a2))] Tryz.func58 rfl Tryz.ntmps58 rfl rfl (by simp) (by simp) ?_ id
 rw [s_f87] at hr
 refine AW.seq (Rg ?_)
 refine Av (.sl .nil 0 []) rfl ?_
 refine AW.seq (Rg ?_)
 refine Av (.sl .ro 7 (r_st_GInst a0)) rfl ?_
 refine AL.ln good (d := 10) (m := a0.length) rfl rfl rfl rfl rfl rfl (r_st_GInst_length _) ?_
 refine Av (.int .i64 (IntKind.i64.wrap ((a0.length : Int) + 1))) rfl ?_
 refine Av (.sl .ro 7 (r_st_GInst a1)) rfl ?_
 refine AL.ln good (d := 13) (m := a1.length) rfl rfl rfl rfl rfl rfl (r_st_GInst_length _) ?_
 refine Av (.int .i64 (IntKind.i64.wrap ((IntKind.i64.wrap ((a0.length : Int) + 1)) + (a1.length : Int)))) rfl ?_
 refine Av (.int .i64 (IntKind.i64.wrap ((IntKind.i64.wrap ((IntKind.i64.wrap ((a0.length : Int) + 1)) + (a1.length : Int))) + 1))) rfl ?_
 refine Av (.int .i64 (IntKind.i64.wrap ((IntKind.i64.wrap ((IntKind.i64.wrap ((a0.length : Int) + 1)) + (a1.length : Int))) + 1))) rfl ?_
 refine AW.seq (Rg ?_)
 refine AL.lit good (d := 16) (rows := []) rfl rfl rfl rfl rfl rfl rfl rfl rfl 0 rfl ?_
 refine Av (.sl .ro 7 (r_st_GInst a0)) rfl ?_
 obtain ⟨h1, hr⟩ := grd hr
 refine AL.aw2 good (d := 18) (rows := r_st_GInst []) (news := r_st_GInst a0) (rows2 := r_st_GInst a0) rfl rfl rfl rfl rfl rfl rfl rfl rfl (by simp) rfl rfl rfl (WvR.refl _) (by simp [r_st_GInst, rowF]) (by rw [r_st_GInst_length]; exact h1) rfl ?_
 refine Av (.int .i64 (IntKind.i64.wrap ((IntKind.i64.wrap ((IntKind.i64.wrap ((a0.length : Int) + 1)) + (a1.length : Int))) + 1))) rfl ?_
 refine AL.cw good (d := 20) (xs := [.str ⟨#[106, 102]⟩, .int .i64 (IntKind.i64.wrap ((IntKind.i64.wrap ((IntKind.i64.wrap ((a0.length : Int) + 1)) + (a1.length : Int))) + 1))]) (res := .agg [.str ⟨#[106, 102]⟩, .int .i64 0, .int .i64 0, .bool false, .str ⟨#[]⟩, .sl .ro 5 (encs []), .int .i64 (IntKind.i64.wrap ((IntKind.i64.wrap ((IntKind.i64.wrap ((a0.length : Int) + 1)) + (a1.length : Int))) + 1))]) rfl rfl rfl rfl rfl rfl rfl (w_f86 ⟨#[106, 102]⟩ (IntKind.i64.wrap ((IntKind.i64.wrap ((IntKind.i64.wrap ((a0.length : Int) + 1)) + (a1.length : Int))) + 1))) ⟨(Wv.refl _), (Wv.refl _), trivial⟩ (by simp) ?_
 refine AL.lit good (d := 21) (rows := [[.str ⟨#[106, 102]⟩, .int .i64 0, .int .i64 0, .bool false, .str ⟨#[]⟩, .sl .ro 5 (encs []), .int .i64 (IntKind.i64.wrap ((IntKind.i64.wrap ((IntKind.i64.wrap ((a0.length : Int) + 1)) + (a1.length : Int))) + 1))]]) rfl rfl rfl rfl rfl rfl rfl rfl rfl 1 rfl ?_
 obtain ⟨h2, hr⟩ := grd hr
 refine AL.aw2 good (d := 22) (rows := r_st_GInst a0) (news := [[.str (((GInst.mk ⟨#[106, 102]⟩ (Val.mk 0 0 false ⟨#[]⟩ []) (IntKind.i64.wrap ((IntKind.i64.wrap ((IntKind.i64.wrap ((a0.length : Int) + 1)) + (a1.length : Int))) + 1)))).f0), .int .i64 ((((GInst.mk ⟨#[106, 102]⟩ (Val.mk 0 0 false ⟨#[]⟩ []) (IntKind.i64.wrap ((IntKind.i64.wrap ((IntKind.i64.wrap ((a0.length : Int) + 1)) + (a1.length : Int))) + 1)))).f1).kind), .int .i64 ((((GInst.mk ⟨#[106, 102]⟩ (Val.mk 0 0 false ⟨#[]⟩ []) (IntKind.i64.wrap ((IntKind.i64.wrap ((IntKind.i64.wrap ((a0.length : Int) + 1)) + (a1.length : Int))) + 1)))).f1).i), .bool ((((GInst.mk ⟨#[106, 102]⟩ (Val.mk 0 0 false ⟨#[]⟩ []) (IntKind.i64.wrap ((IntKind.i64.wrap ((IntKind.i64.wrap ((a0.length : Int) + 1)) + (a1.length : Int))) + 1)))).f1).b), .str ((((GInst.mk ⟨#[106, 102]⟩ (Val.mk 0 0 false ⟨#[]⟩ []) (IntKind.i64.wrap ((IntKind.i64.wrap ((IntKind.i64.wrap ((a0.length : Int) + 1)) + (a1.length : Int))) + 1)))).f1).s), .sl .ro 5 (encs ((((GInst.mk ⟨#[106, 102]⟩ (Val.mk 0 0 false ⟨#[]⟩ []) (IntKind.i64.wrap ((IntKind.i64.wrap ((IntKind.i64.wrap ((a0.length : Int) + 1)) + (a1.length : Int))) + 1)))).f1).t)), .int .i64 (((GInst.mk ⟨#[106, 102]⟩ (Val.mk 0 0 false ⟨#[]⟩ []) (IntKind.i64.wrap ((IntKind.i64.wrap ((IntKind.i64.wrap ((a0.length : Int) + 1)) + (a1.length : Int))) + 1)))).f2)]]) (rows2 := r_st_GInst (a0 ++ [(GInst.mk ⟨#[106, 102]⟩ (Val.mk 0 0 false ⟨#[]⟩ []) (IntKind.i64.wrap ((IntKind.i64.wrap ((IntKind.i64.wrap ((a0.length : Int) + 1)) + (a1.length : Int))) + 1)))])) rfl rfl rfl rfl rfl rfl rfl rfl rfl (by simp) rfl rfl rfl ⟨⟨Wv.refl _, Wv.refl _, Wv.refl _, Wv.refl _, Wv.refl _, Wv.refl _, Wv.refl _, trivial⟩, trivial⟩ (by simp [r_st_GInst, rowF]) (by rw [r_st_GInst_length, List.length_append]; exact h2) rfl ?_
 refine Av (.sl (.own 0) 7 (r_st_GInst (a0 ++ [(GInst.mk ⟨#[106, 102]⟩ (Val.mk 0 0 false ⟨#[]⟩ []) (IntKind.i64.wrap ((IntKind.i64.wrap ((IntKind.i64.wrap ((a0.length : Int) + 1)) + (a1.length : Int))) + 1)))]))) rfl ?_
 refine AW.seq (Rg ?_)
 refine Av (.sl (.own 0) 7 (r_st_GInst (a0 ++ [(GInst.mk ⟨#[106, 102]⟩ (Val.mk 0 0 false ⟨#[]⟩ []) (IntKind.i64.wrap ((IntKind.i64.wrap ((IntKind.i64.wrap ((a0.length : Int) + 1)) + (a1.length : Int))) + 1)))]))) rfl ?_
 refine Av (.sl .ro 7 (r_st_GInst a1)) rfl ?_
 obtain ⟨q3, h4, hr⟩ := bnd1 hr
 refine AL.clF good (d := 25) (xs := [.sl .ro 7 (r_st_GInst (a0 ++ [(GInst.mk ⟨#[106, 102]⟩ (Val.mk 0 0 false ⟨#[]⟩ []) (IntKind.i64.wrap ((IntKind.i64.wrap ((IntKind.i64.wrap ((a0.length : Int) + 1)) + (a1.length : Int))) + 1)))])), .sl .ro 7 (r_st_GInst a1)]) (ob := .row 94 7 (r_st_GInst q3).length) (res := .sl (.own 2) 7 (r_st_GInst q3)) rfl rfl rfl rfl rfl rfl rfl 2 rfl (w_f89 _ _ _ _ h4 2) ⟨⟨.inr rfl, WvR.refl _, .inl rfl⟩, (Wv.refl _), trivial⟩ rfl ColN.no ?_
 refine Av (.sl (.own 2) 7 (r_st_GInst q3)) rfl ?_
 refine AW.ren 2 0 8 rfl rfl [(2, .sl .ro 7 (r_st_GInst a2)), (7, .int .i64 (IntKind.i64.wrap ((IntKind.i64.wrap ((IntKind.i64.wrap ((a0.length : Int) + 1)) + (a1.length : Int))) + 1)))] [] (fmc ⟨⟨rfl, (by simp)⟩, fmc ⟨⟨rfl, (by simp)⟩, (fun _ h => by cases h)⟩⟩) ((fun _ h => by cases h)) rfl rfl (fun _ h => by cases h) (r_st_GInst_pure _ _) ?_
 refine AW.seq (Rg ?_)
 refine Av (.sl (.own 0) 7 (r_st_GInst q3)) rfl ?_
 refine Av (.int .i64 (IntKind.i64.wrap ((IntKind.i64.wrap ((IntKind.i64.wrap ((a0.length : Int) + 1)) + (a1.length : Int))) + 1))) rfl ?_
 refine Av (.sl .ro 7 (r_st_GInst a2)) rfl ?_
 refine AL.ln good (d := 29) (m := a2.length) rfl rfl rfl rfl rfl rfl (r_st_GInst_length _) ?_
 refine Av (.int .i64 (IntKind.i64.wrap ((IntKind.i64.wrap ((IntKind.i64.wrap ((IntKind.i64.wrap ((a0.length : Int) + 1)) + (a1.length : Int))) + 1)) + (a2.length : Int)))) rfl ?_
 refine AL.cw good (d := 31) (xs := [.str ⟨#[106, 109, 112]⟩, .int .i64 (IntKind.i64.wrap ((IntKind.i64.wrap ((IntKind.i64.wrap ((IntKind.i64.wrap ((a0.length : Int) + 1)) + (a1.length : Int))) + 1)) + (a2.length : Int)))]) (res := .agg [.str ⟨#[106, 109, 112]⟩, .int .i64 0, .int .i64 0, .bool false, .str ⟨#[]⟩, .sl .ro 5 (encs []), .int .i64 (IntKind.i64.wrap ((IntKind.i64.wrap ((IntKind.i64.wrap ((IntKind.i64.wrap ((a0.length : Int) + 1)) + (a1.length : Int))) + 1)) + (a2.length : Int)))]) rfl rfl rfl rfl rfl rfl rfl (w_f86 ⟨#[106, 109, 112]⟩ (IntKind.i64.wrap ((IntKind.i64.wrap ((IntKind.i64.wrap ((IntKind.i64.wrap ((a0.length : Int) + 1)) + (a1.length : Int))) + 1)) + (a2.length : Int)))) ⟨(Wv.refl _), (Wv.refl _), trivial⟩ (by simp) ?_
 refine AL.lit good (d := 32) (rows := [[.str ⟨#[106, 109, 112]⟩, .int .i64 0, .int .i64 0, .bool false, .str ⟨#[]⟩, .sl .ro 5 (encs []), .int .i64 (IntKind.i64.wrap ((IntKind.i64.wrap ((IntKind.i64.wrap ((IntKind.i64.wrap ((a0.length : Int) + 1)) + (a1.length : Int))) + 1)) + (a2.length : Int)))]]) rfl rfl rfl rfl rfl rfl rfl rfl rfl 3 rfl ?_
 obtain ⟨h5, hr⟩ := grd hr
 refine AL.aw2 good (d := 33) (rows := r_st_GInst q3) (news := [[.str (((GInst.mk ⟨#[106, 109, 112]⟩ (Val.mk 0 0 false ⟨#[]⟩ []) (IntKind.i64.wrap ((IntKind.i64.wrap ((IntKind.i64.wrap ((IntKind.i64.wrap ((a0.length : Int) + 1)) + (a1.length : Int))) + 1)) + (a2.length : Int))))).f0), .int .i64 ((((GInst.mk ⟨#[106, 109, 112]⟩ (Val.mk 0 0 false ⟨#[]⟩ []) (IntKind.i64.wrap ((IntKind.i64.wrap ((IntKind.i64.wrap ((IntKind.i64.wrap ((a0.length : Int) + 1)) + (a1.length : Int))) + 1)) + (a2.length : Int))))).f1).kind), .int .i64 ((((GInst.mk ⟨#[106, 109, 112]⟩ (Val.mk 0 0 false ⟨#[]⟩ []) (IntKind.i64.wrap ((IntKind.i64.wrap ((IntKind.i64.wrap ((IntKind.i64.wrap ((a0.length : Int) + 1)) + (a1.length : Int))) + 1)) + (a2.length : Int))))).f1).i), .bool ((((GInst.mk ⟨#[106, 109, 112]⟩ (Val.mk 0 0 false ⟨#[]⟩ []) (IntKind.i64.wrap ((IntKind.i64.wrap ((IntKind.i64.wrap ((IntKind.i64.wrap ((a0.length : Int) + 1)) + (a1.length : Int))) + 1)) + (a2.length : Int))))).f1).b), .str ((((GInst.mk ⟨#[106, 109, 112]⟩ (Val.mk 0 0 false ⟨#[]⟩ []) (IntKind.i64.wrap ((IntKind.i64.wrap ((IntKind.i64.wrap ((IntKind.i64.wrap ((a0.length : Int) + 1)) + (a1.length : Int))) + 1)) + (a2.length : Int))))).f1).s), .sl .ro 5 (encs ((((GInst.mk ⟨#[106, 109, 112]⟩ (Val.mk 0 0 false ⟨#[]⟩ []) (IntKind.i64.wrap ((IntKind.i64.wrap ((IntKind.i64.wrap ((IntKind.i64.wrap ((a0.length : Int) + 1)) + (a1.length : Int))) + 1)) + (a2.length : Int))))).f1).t)), .int .i64 (((GInst.mk ⟨#[106, 109, 112]⟩ (Val.mk 0 0 false ⟨#[]⟩ []) (IntKind.i64.wrap ((IntKind.i64.wrap ((IntKind.i64.wrap ((IntKind.i64.wrap ((a0.length : Int) + 1)) + (a1.length : Int))) + 1)) + (a2.length : Int))))).f2)]]) (rows2 := r_st_GInst (q3 ++ [(GInst.mk ⟨#[106, 109, 112]⟩ (Val.mk 0 0 false ⟨#[]⟩ []) (IntKind.i64.wrap ((IntKind.i64.wrap ((IntKind.i64.wrap ((IntKind.i64.wrap ((a0.length : Int) + 1)) + (a1.length : Int))) + 1)) + (a2.length : Int))))])) rfl rfl rfl rfl rfl rfl rfl rfl rfl (by simp) rfl rfl rfl ⟨⟨Wv.refl _, Wv.refl _, Wv.refl _, Wv.refl _, Wv.refl _, Wv.refl _, Wv.refl _, trivial⟩, trivial⟩ (by simp [r_st_GInst, rowF]) (by rw [r_st_GInst_length, List.length_append]; exact h5) rfl ?_
 refine Av (.sl (.own 0) 7 (r_st_GInst (q3 ++ [(GInst.mk ⟨#[106, 109, 112]⟩ (Val.mk 0 0 false ⟨#[]⟩ []) (IntKind.i64.wrap ((IntKind.i64.wrap ((IntKind.i64.wrap ((IntKind.i64.wrap ((a0.length : Int) + 1)) + (a1.length : Int))) + 1)) + (a2.length : Int))))]))) rfl ?_
 refine AW.seq (Rg ?_)
 refine Av (.sl (.own 0) 7 (r_st_GInst (q3 ++ [(GInst.mk ⟨#[106, 109, 112]⟩ (Val.mk 0 0 false ⟨#[]⟩ []) (IntKind.i64.wrap ((IntKind.i64.wrap ((IntKind.i64.wrap ((IntKind.i64.wrap ((a0.length : Int) + 1)) + (a1.length : Int))) + 1)) + (a2.length : Int))))]))) rfl ?_
 refine Av (.sl .ro 7 (r_st_GInst a2)) rfl ?_
 obtain ⟨q6, h7, hr⟩ := bnd1 hr
 refine AL.clF good (d := 36) (xs := [.sl .ro 7 (r_st_GInst (q3 ++ [(GInst.mk ⟨#[106, 109, 112]⟩ (Val.mk 0 0 false ⟨#[]⟩ []) (IntKind.i64.wrap ((IntKind.i64.wrap ((IntKind.i64.wrap ((IntKind.i64.wrap ((a0.length : Int) + 1)) + (a1.length : Int))) + 1)) + (a2.length : Int))))])), .sl .ro 7 (r_st_GInst a2)]) (ob := .row 94 7 (r_st_GInst q6).length) (res := .sl (.own 4) 7 (r_st_GInst q6)) rfl rfl rfl rfl rfl rfl rfl 4 rfl (w_f89 _ _ _ _ h7 4) ⟨⟨.inr rfl, WvR.refl _, .inl rfl⟩, (Wv.refl _), trivial⟩ rfl ColN.no ?_
 refine Av (.sl (.own 4) 7 (r_st_GInst q6)) rfl ?_
 refine AW.ret ?_
 obtain rfl := Option.some.inj hr
 exact RetN.w good (.inr rfl) rfl rfl (WvR.refl _) rfl

mutual
def s_f52 : Nat → Ex → Option (List GInst)
  | 0, _ => none
  | n + 1, a0 => (bif (a0.op.data.toList == [108, 105, 116]) then some [(GInst.mk ⟨#[112, 117, 115, 104]⟩ a0.v 0)] else (bif (a0.op.data.toList == [120]) then some [(GInst.mk ⟨#[120]⟩ (Val.mk 0 0 false ⟨#[]⟩ []) 0)] else (bif (a0.op.data.toList == [97, 110, 100]) then ((a0.a[0]?).bind fun x4 => ((s_f52 n x4).bind fun q6 => ((a0.a[1]?).bind fun x8 => ((s_f52 n x8).bind fun q10 => ((s_f87 n q6 q10 [(GInst.mk ⟨#[112, 117, 115, 104]⟩ (Val.mk 2 0 false ⟨#[]⟩ []) 0)]).bind fun q12 => some q12))))) else (bif (a0.op.data.toList == [111, 114]) then ((a0.a[0]?).bind fun x15 => ((s_f52 n x15).bind fun q17 => ((a0.a[1]?).bind fun x19 => ((s_f52 n x19).bind fun q21 => ((s_f87 n q17 [(GInst.mk ⟨#[112, 117, 115, 104]⟩ (Val.mk 2 0 true ⟨#[]⟩ []) 0)] q21).bind fun q23 => some q23))))) else (bif (a0.op.data.toList == [105, 102]) then ((a0.a[0]?).bind fun x26 => ((s_f52 n x26).bind fun q28 => ((a0.a[1]?).bind fun x30 => ((s_f52 n x30).bind fun q32 => ((a0.a[2]?).bind fun x34 => ((s_f52 n x34).bind fun q36 => ((s_f87 n q28 q32 q36).bind fun q38 => some q38))))))) else (s_f52_l1 n a0 [] 0))))))
def s_f52_l1 : Nat → Ex → (List GInst) → Nat → Option (List GInst)
  | 0, _, _, _ => none
  | n + 1, a0, v1_1, v1_2 => (bif (decide ((v1_2 : Int) < (a0.a.length : Int))) then ((a0.a[v1_2]?).bind fun x50 => ((s_f52 n x50).bind fun q52 => ((s_f89 n v1_1 q52).bind fun q54 => (s_f52_l1 n a0 q54 (v1_2 + 1))))) else (bif (a0.op.data.toList == [97, 116]) then (if v1_1.length + 1 ≤ 1000000 then some (v1_1 ++ [(GInst.mk ⟨#[97, 116]⟩ (Val.mk 0 0 false ⟨#[]⟩ []) a0.n)]) else none) else (bif (a0.op.data.toList == [116, 117, 112]) then (if v1_1.length + 1 ≤ 1000000 then some (v1_1 ++ [(GInst.mk ⟨#[116, 117, 112]⟩ (Val.mk 0 0 false ⟨#[]⟩ []) (a0.a.length : Int))]) else none) else (if v1_1.length + 1 ≤ 1000000 then some (v1_1 ++ [(GInst.mk a0.op (Val.mk 0 0 false ⟨#[]⟩ []) 0)]) else none))))
end

theorem w_f52_a (n : Nat) (ih : ∀ (m : Nat) (a0 : Ex) (r : List GInst), s_f52 m a0 = some r → m < n → ∀ id, ACallN Tryz.prog 37 [.agg (exC a0)] id (.row 94 7 (r_st_GInst r).length) (.sl (.own id) 7 (r_st_GInst r))) (a0 : Ex) (r : List GInst) (hr : s_f52 n a0 = some r) (id : Nat) : ACallN Tryz.prog 37 [.agg (exC a0)] id (.row 94 7 (r_st_GInst r).length) (.sl (.own id) 7 (r_st_GInst r)) := by
 refine ACallN.go (rows := r_st_GInst r) [(0, .agg (exC a0))] Tryz.func37 rfl Tryz.ntmps37 rfl rfl (by simp) (by simp) ?_ id
 cases n with
 | zero => rw [s_f52] at hr; cases hr
 | succ n =>
  rw [s_f52] at hr
  refine AW.seq (Rg ?_)
  refine AL.bx good (d := 1) (l := [.str a0.op, .int .i64 a0.v.kind, .int .i64 a0.v.i, .bool a0.v.b, .str a0.v.s, .sl .ro 5 (encs a0.v.t), .int .i64 a0.n, .sl .ro 8 (enxs a0.a)]) rfl rfl rfl rfl rfl rfl 0 rfl ?_
  refine Av (.sl .nil 0 []) rfl ?_
  refine AW.seq ?_
  refine AW.seq (Rg ?_)
  refine Av (.ptr 0 0) rfl ?_
  refine Av (.str a0.op) rfl ?_
  refine AW.block ?_
  refine AW.seq (Rg ?_)
  refine AL.sb good (d := 8) (b := (a0.op.data.toList == [108, 105, 116])) rfl rfl rfl rfl rfl rfl rfl ?_
  refine Av (.bool (a0.op.data.toList == [108, 105, 116])) rfl ?_
  refine AW.if rfl (fun h1 => ?_) (fun h1 => ?_)
  ·replace hr := cnd_t h1 hr
   refine AW.seq (Rg ?_)
   refine Av (.ptr 0 1) rfl ?_
   refine Av (.agg [.int .i64 a0.v.kind, .int .i64 a0.v.i, .bool a0.v.b, .str a0.v.s, .sl .ro 5 (encs a0.v.t)]) rfl ?_
   refine AL.bld good (d := 11) (l := [.str ⟨#[112, 117, 115, 104]⟩, .int .i64 a0.v.kind, .int .i64 a0.v.i, .bool a0.v.b, .str a0.v.s, .sl .ro 5 (encs a0.v.t), .int .i64 0]) rfl rfl rfl rfl rfl rfl rfl ?_
   refine AL.lit good (d := 12) (rows := [[.str ⟨#[112, 117, 115, 104]⟩, .int .i64 a0.v.kind, .int .i64 a0.v.i, .bool a0.v.b, .str a0.v.s, .sl .ro 5 (encs a0.v.t), .int .i64 0]]) rfl rfl rfl rfl rfl rfl rfl rfl rfl 1 rfl ?_
   refine Av (.sl (.own 1) 7 [[.str ⟨#[112, 117, 115, 104]⟩, .int .i64 a0.v.kind, .int .i64 a0.v.i, .bool a0.v.b, .str a0.v.s, .sl .ro 5 (encs a0.v.t), .int .i64 0]]) rfl ?_
   refine AW.ret ?_
   obtain rfl := Option.some.inj hr
   exact RetN.w good (.inr rfl) rfl rfl (⟨⟨Wv.refl _, Wv.refl _, Wv.refl _, Wv.refl _, Wv.refl _, Wv.refl _, Wv.refl _, trivial⟩, trivial⟩) rfl
  ·replace hr := cnd_f h1 hr
   refine AW.seq (Rg ?_)
   refine AL.sb good (d := 14) (b := (a0.op.data.toList == [120])) rfl rfl rfl rfl rfl rfl rfl ?_
   refine Av (.bool (a0.op.data.toList == [120])) rfl ?_
   refine AW.if rfl (fun h2 => ?_) (fun h2 => ?_)
   ·replace hr := cnd_t h2 hr
    refine AW.seq (Rg ?_)
    refine AL.cw good (d := 15) (xs := [.str ⟨#[120]⟩, .int .i64 0]) (res := .agg [.str ⟨#[120]⟩, .int .i64 0, .int .i64 0, .bool false, .str ⟨#[]⟩, .sl .ro 5 (encs []), .int .i64 0]) rfl rfl rfl rfl rfl rfl rfl (w_f86 ⟨#[120]⟩ 0) ⟨(Wv.refl _), (Wv.refl _), trivial⟩ (by simp) ?_
    refine AL.lit good (d := 16) (rows := [[.str ⟨#[120]⟩, .int .i64 0, .int .i64 0, .bool false, .str ⟨#[]⟩, .sl .ro 5 (encs []), .int .i64 0]]) rfl rfl rfl rfl rfl rfl rfl rfl rfl 1 rfl ?_
    refine Av (.sl (.own 1) 7 [[.str ⟨#[120]⟩, .int .i64 0, .int .i64 0, .bool false, .str ⟨#[]⟩, .sl .ro 5 (encs []), .int .i64 0]]) rfl ?_
    refine AW.ret ?_
    obtain rfl := Option.some.inj hr
    exact RetN.w good (.inr rfl) rfl rfl (⟨⟨Wv.refl _, Wv.refl _, Wv.refl _, Wv.refl _, Wv.refl _, Wv.refl _, Wv.refl _, trivial⟩, trivial⟩) rfl
   ·replace hr := cnd_f h2 hr
    refine AW.seq (Rg ?_)
    refine AL.sb good (d := 18) (b := (a0.op.data.toList == [97, 110, 100])) rfl rfl rfl rfl rfl rfl rfl ?_
    refine Av (.bool (a0.op.data.toList == [97, 110, 100])) rfl ?_
    refine AW.if rfl (fun h3 => ?_) (fun h3 => ?_)
    ·replace hr := cnd_t h3 hr
     refine AW.seq ?_
     refine AW.drawc (M := fun i => ⟨Nat.beq i 4 || Nat.beq i 9 || Nat.beq i 12, bif Nat.beq i 1 then some { ids := [0] } else bif Nat.beq i 3 then some { ids := [] } else bif Nat.beq i 4 then some { ids := [1] } else bif Nat.beq i 6 then some { ids := [0] } else bif Nat.beq i 8 then some { ids := [] } else bif Nat.beq i 9 then some { ids := [2] } else bif Nat.beq i 11 then some { ids := [3] } else bif Nat.beq i 12 then some { ids := [4] } else none⟩) good.wide (by kernel_rfl) ?_
     refine Av (nc := ⟨rfl⟩) (.ptr 0 7) rfl ?_
     refine AL.vc good (d := 20) (v := .sl .ro 8 (enxs a0.a)) rfl rfl rfl rfl rfl rfl (fmc ⟨.head _, (fun _ h => by cases h)⟩) ?_
     obtain ⟨x4, h5, hr⟩ := bnd1 hr
     refine AL.ix (nc := ⟨rfl⟩) good (d := 21) (r := [.str x4.op, .int .i64 x4.v.kind, .int .i64 x4.v.i, .bool x4.v.b, .str x4.v.s, .sl .ro 5 (encs x4.v.t), .int .i64 x4.n, .sl .ro 8 (enxs x4.a)]) rfl rfl rfl rfl rfl rfl rfl (by decide) (enxs_get h5) ?_
     refine AL.vc good (d := 22) (v := .agg [.str x4.op, .int .i64 x4.v.kind, .int .i64 x4.v.i, .bool x4.v.b, .str x4.v.s, .sl .ro 5 (encs x4.v.t), .int .i64 x4.n, .sl .ro 8 (enxs x4.a)]) rfl rfl rfl rfl rfl rfl (fun _ h => by cases h) ?_
     obtain ⟨q6, h7, hr⟩ := bnd1 hr
     refine AL.clF good (d := 23) (xs := [.agg (exC x4)]) (ob := .row 94 7 (r_st_GInst q6).length) (res := .sl (.own 1) 7 (r_st_GInst q6)) rfl rfl rfl rfl rfl rfl rfl 1 rfl (ih _ _ _ h7 (by omega) 1) ⟨(Wv.refl _), trivial⟩ rfl (ColN.mk rfl rfl (fun _ h => by cases h) (fmc ⟨.head _, (fun _ h => by cases h)⟩) (fun _ h => by cases h)) ?_
     refine Av (nc := ⟨rfl⟩) (.ptr 0 7) rfl ?_
     refine AL.vc good (d := 25) (v := .sl .ro 8 (enxs a0.a)) rfl rfl rfl rfl rfl rfl (fmc ⟨.head _, (fun _ h => by cases h)⟩) ?_
     obtain ⟨x8, h9, hr⟩ := bnd1 hr
     refine AL.ix (nc := ⟨rfl⟩) good (d := 26) (r := [.str x8.op, .int .i64 x8.v.kind, .int .i64 x8.v.i, .bool x8.v.b, .str x8.v.s, .sl .ro 5 (encs x8.v.t), .int .i64 x8.n, .sl .ro 8 (enxs x8.a)]) rfl rfl rfl rfl rfl rfl rfl (by decide) (enxs_get h9) ?_
     refine AL.vc good (d := 27) (v := .agg [.str x8.op, .int .i64 x8.v.kind, .int .i64 x8.v.i, .bool x8.v.b, .str x8.v.s, .sl .ro 5 (encs x8.v.t), .int .i64 x8.n, .sl .ro 8 (enxs x8.a)]) rfl rfl rfl rfl rfl rfl (fun _ h => by cases h) ?_
     obtain ⟨q10, h11, hr⟩ := bnd1 hr
     refine AL.clF good (d := 28) (xs := [.agg (exC x8)]) (ob := .row 94 7 (r_st_GInst q10).length) (res := .sl (.own 2) 7 (r_st_GInst q10)) rfl rfl rfl rfl rfl rfl rfl 2 rfl (ih _ _ _ h11 (by omega) 2) ⟨(Wv.refl _), trivial⟩ rfl (ColN.mk rfl rfl (fun _ h => by cases h) (fmc ⟨.head _, (fun _ h => by cases h)⟩) (fun _ h => by cases h)) ?_
     refine AL.cw (nc := ⟨rfl⟩) good (d := 29) (xs := [.bool false]) (res := .agg [.str ⟨#[112, 117, 115, 104]⟩, .int .i64 2, .int .i64 0, .bool false, .str ⟨#[]⟩, .sl .ro 5 (encs []), .int .i64 0]) rfl rfl rfl rfl rfl rfl rfl (w_f88 false) ⟨(Wv.refl _), trivial⟩ (by simp) ?_
     refine AL.litC good (d := 30) (rows := [[.str ⟨#[112, 117, 115, 104]⟩, .int .i64 2, .int .i64 0, .bool false, .str ⟨#[]⟩, .sl .ro 5 (encs []), .int .i64 0]]) rfl rfl rfl rfl rfl rfl rfl rfl rfl 3 rfl (ColN.mk rfl rfl (fun _ h => by cases h) (fmc ⟨.head _, (fun _ h => by cases h)⟩) (fun _ h => by cases h)) ?_
     obtain ⟨q12, h13, hr⟩ := bnd1 hr
     refine AL.clF good (d := 31) (xs := [.sl .ro 7 (r_st_GInst q6), .sl .ro 7 (r_st_GInst q10), .sl .ro 7 (r_st_GInst [(GInst.mk ⟨#[112, 117, 115, 104]⟩ (Val.mk 2 0 false ⟨#[]⟩ []) 0)])]) (ob := .row 94 7 (r_st_GInst q12).length) (res := .sl (.own 4) 7 (r_st_GInst q12)) rfl rfl rfl rfl rfl rfl rfl 4 rfl (w_f87 _ _ _ _ _ h13 4) ⟨⟨.inr rfl, WvR.refl _, .inl rfl⟩, ⟨.inr rfl, WvR.refl _, .inl rfl⟩, ⟨.inr rfl, ⟨⟨Wv.refl _, Wv.refl _, Wv.refl _, Wv.refl _, Wv.refl _, Wv.refl _, Wv.refl _, trivial⟩, trivial⟩, .inl rfl⟩, trivial⟩ rfl (ColN.mk rfl rfl (fun _ h => by cases h) (fmc ⟨.head _, (fun _ h => by cases h)⟩) (fun _ h => by cases h)) ?_
     refine Av (nc := ⟨rfl⟩) (.sl (.own 4) 7 (r_st_GInst q12)) rfl ?_
     refine AW.ret ?_
     obtain rfl := Option.some.inj hr
     exact RetN.w good (.inr rfl) rfl rfl (WvR.refl _) rfl
    ·replace hr := cnd_f h3 hr
     refine AW.seq (Rg ?_)
     refine AL.sb good (d := 33) (b := (a0.op.data.toList == [111, 114])) rfl rfl rfl rfl rfl rfl rfl ?_
     refine Av (.bool (a0.op.data.toList == [111, 114])) rfl ?_
     refine AW.if rfl (fun h14 => ?_) (fun h14 => ?_)
     ·replace hr := cnd_t h14 hr
      refine AW.seq ?_
      refine AW.drawc (M := fun i => ⟨Nat.beq i 4 || Nat.beq i 11 || Nat.beq i 12, bif Nat.beq i 1 then some { ids := [0] } else bif Nat.beq i 3 then some { ids := [] } else bif Nat.beq i 4 then some { ids := [1] } else bif Nat.beq i 6 then some { ids := [2] } else bif Nat.beq i 8 then some { ids := [0] } else bif Nat.beq i 10 then some { ids := [] } else bif Nat.beq i 11 then some { ids := [3] } else bif Nat.beq i 12 then some { ids := [4] } else none⟩) good.wide (by kernel_rfl) ?_
      refine Av (nc := ⟨rfl⟩) (.ptr 0 7) rfl ?_
      refine AL.vc good (d := 35) (v := .sl .ro 8 (enxs a0.a)) rfl rfl rfl rfl rfl rfl (fmc ⟨.head _, (fun _ h => by cases h)⟩) ?_
      obtain ⟨x15, h16, hr⟩ := bnd1 hr
      refine AL.ix (nc := ⟨rfl⟩) good (d := 36) (r := [.str x15.op, .int .i64 x15.v.kind, .int .i64 x15.v.i, .bool x15.v.b, .str x15.v.s, .sl .ro 5 (encs x15.v.t), .int .i64 x15.n, .sl .ro 8 (enxs x15.a)]) rfl rfl rfl rfl rfl rfl rfl (by decide) (enxs_get h16) ?_
      refine AL.vc good (d := 37) (v := .agg [.str x15.op, .int .i64 x15.v.kind, .int .i64 x15.v.i, .bool x15.v.b, .str x15.v.s, .sl .ro 5 (encs x15.v.t), .int .i64 x15.n, .sl .ro 8 (enxs x15.a)]) rfl rfl rfl rfl rfl rfl (fun _ h => by cases h) ?_
      obtain ⟨q17, h18, hr⟩ := bnd1 hr
      refine AL.clF good (d := 38) (xs := [.agg (exC x15)]) (ob := .row 94 7 (r_st_GInst q17).length) (res := .sl (.own 1) 7 (r_st_GInst q17)) rfl rfl rfl rfl rfl rfl rfl 1 rfl (ih _ _ _ h18 (by omega) 1) ⟨(Wv.refl _), trivial⟩ rfl (ColN.mk rfl rfl (fun _ h => by cases h) (fmc ⟨.head _, (fun _ h => by cases h)⟩) (fun _ h => by cases h)) ?_
      refine AL.cw (nc := ⟨rfl⟩) good (d := 39) (xs := [.bool true]) (res := .agg [.str ⟨#[112, 117, 115, 104]⟩, .int .i64 2, .int .i64 0, .bool true, .str ⟨#[]⟩, .sl .ro 5 (encs []), .int .i64 0]) rfl rfl rfl rfl rfl rfl rfl (w_f88 true) ⟨(Wv.refl _), trivial⟩ (by simp) ?_
      refine AL.litC good (d := 40) (rows := [[.str ⟨#[112, 117, 115, 104]⟩, .int .i64 2, .int .i64 0, .bool true, .str ⟨#[]⟩, .sl .ro 5 (encs []), .int .i64 0]]) rfl rfl rfl rfl rfl rfl rfl rfl rfl 2 rfl (ColN.mk rfl rfl (fun _ h => by cases h) (fmc ⟨.head _, (fun _ h => by cases h)⟩) (fun _ h => by cases h)) ?_
      refine Av (nc := ⟨rfl⟩) (.ptr 0 7) rfl ?_
      refine AL.vc good (d := 42) (v := .sl .ro 8 (enxs a0.a)) rfl rfl rfl rfl rfl rfl (fmc ⟨.head _, (fun _ h => by cases h)⟩) ?_
      obtain ⟨x19, h20, hr⟩ := bnd1 hr
      refine AL.ix (nc := ⟨rfl⟩) good (d := 43) (r := [.str x19.op, .int .i64 x19.v.kind, .int .i64 x19.v.i, .bool x19.v.b, .str x19.v.s, .sl .ro 5 (encs x19.v.t), .int .i64 x19.n, .sl .ro 8 (enxs x19.a)]) rfl rfl rfl rfl rfl rfl rfl (by decide) (enxs_get h20) ?_
      refine AL.vc good (d := 44) (v := .agg [.str x19.op, .int .i64 x19.v.kind, .int .i64 x19.v.i, .bool x19.v.b, .str x19.v.s, .sl .ro 5 (encs x19.v.t), .int .i64 x19.n, .sl .ro 8 (enxs x19.a)]) rfl rfl rfl rfl rfl rfl (fun _ h => by cases h) ?_
      obtain ⟨q21, h22, hr⟩ := bnd1 hr
      refine AL.clF good (d := 45) (xs := [.agg (exC x19)]) (ob := .row 94 7 (r_st_GInst q21).length) (res := .sl (.own 3) 7 (r_st_GInst q21)) rfl rfl rfl rfl rfl rfl rfl 3 rfl (ih _ _ _ h22 (by omega) 3) ⟨(Wv.refl _), trivial⟩ rfl (ColN.mk rfl rfl (fun _ h => by cases h) (fmc ⟨.head _, (fun _ h => by cases h)⟩) (fun _ h => by cases h)) ?_
      obtain ⟨q23, h24, hr⟩ := bnd1 hr
      refine AL.clF good (d := 46) (xs := [.sl .ro 7 (r_st_GInst q17), .sl .ro 7 (r_st_GInst [(GInst.mk ⟨#[112, 117, 115, 104]⟩ (Val.mk 2 0 true ⟨#[]⟩ []) 0)]), .sl .ro 7 (r_st_GInst q21)]) (ob := .row 94 7 (r_st_GInst q23).length) (res := .sl (.own 4) 7 (r_st_GInst q23)) rfl rfl rfl rfl rfl rfl rfl 4 rfl (w_f87 _ _ _ _ _ h24 4) ⟨⟨.inr rfl, WvR.refl _, .inl rfl⟩, ⟨.inr rfl, ⟨⟨Wv.refl _, Wv.refl _, Wv.refl _, Wv.refl _, Wv.refl _, Wv.refl _, Wv.refl _, trivial⟩, trivial⟩, .inl rfl⟩, ⟨.inr rfl, WvR.refl _, .inl rfl⟩, trivial⟩ rfl (ColN.mk rfl rfl (fun _ h => by cases h) (fmc ⟨.head _, (fun _ h => by cases h)⟩) (fun _ h => by cases h)) ?_
      refine Av (nc := ⟨rfl⟩) (.sl (.own 4) 7 (r_st_GInst q23)) rfl ?_
      refine AW.ret ?_
      obtain rfl := Option.some.inj hr
      exact RetN.w good (.inr rfl) rfl rfl (WvR.refl _) rfl
     ·replace hr := cnd_f h14 hr
      refine AW.seq (Rg ?_)
      refine AL.sb good (d := 48) (b := (a0.op.data.toList == [105, 102])) rfl rfl rfl rfl rfl rfl rfl ?_
      refine Av (.bool (a0.op.data.toList == [105, 102])) rfl ?_
      refine AW.if rfl (fun h25 => ?_) (fun h25 => ?_)
      ·replace hr := cnd_t h25 hr
       refine AW.seq ?_
       refine AW.drawc (M := fun i => ⟨Nat.beq i 4 || Nat.beq i 9 || Nat.beq i 14 || Nat.beq i 15, bif Nat.beq i 1 then some { ids := [0] } else bif Nat.beq i 3 then some { ids := [] } else bif Nat.beq i 4 then some { ids := [1] } else bif Nat.beq i 6 then some { ids := [0] } else bif Nat.beq i 8 then some { ids := [] } else bif Nat.beq i 9 then some { ids := [2] } else bif Nat.beq i 11 then some { ids := [0] } else bif Nat.beq i 13 then some { ids := [] } else bif Nat.beq i 14 then some { ids := [3] } else bif Nat.beq i 15 then some { ids := [4] } else none⟩) good.wide (by kernel_rfl) ?_
       refine Av (nc := ⟨rfl⟩) (.ptr 0 7) rfl ?_
       refine AL.vc good (d := 50) (v := .sl .ro 8 (enxs a0.a)) rfl rfl rfl rfl rfl rfl (fmc ⟨.head _, (fun _ h => by cases h)⟩) ?_
       obtain ⟨x26, h27, hr⟩ := bnd1 hr
       refine AL.ix (nc := ⟨rfl⟩) good (d := 51) (r := [.str x26.op, .int .i64 x26.v.kind, .int .i64 x26.v.i, .bool x26.v.b, .str x26.v.s, .sl .ro 5 (encs x26.v.t), .int .i64 x26.n, .sl .ro 8 (enxs x26.a)]) rfl rfl rfl rfl rfl rfl rfl (by decide) (enxs_get h27) ?_
       refine AL.vc good (d := 52) (v := .agg [.str x26.op, .int .i64 x26.v.kind, .int .i64 x26.v.i, .bool x26.v.b, .str x26.v.s, .sl .ro 5 (encs x26.v.t), .int .i64 x26.n, .sl .ro 8 (enxs x26.a)]) rfl rfl rfl rfl rfl rfl (fun _ h => by cases h) ?_
       obtain ⟨q28, h29, hr⟩ := bnd1 hr
       refine AL.clF good (d := 53) (xs := [.agg (exC x26)]) (ob := .row 94 7 (r_st_GInst q28).length) (res := .sl (.own 1) 7 (r_st_GInst q28)) rfl rfl rfl rfl rfl rfl rfl 1 rfl (ih _ _ _ h29 (by omega) 1) ⟨(Wv.refl _), trivial⟩ rfl (ColN.mk rfl rfl (fun _ h => by cases h) (fmc ⟨.head _, (fun _ h => by cases h)⟩) (fun _ h => by cases h)) ?_
       refine Av (nc := ⟨rfl⟩) (.ptr 0 7) rfl ?_
       refine AL.vc good (d := 55) (v := .sl .ro 8 (enxs a0.a)) rfl rfl rfl rfl rfl rfl (fmc ⟨.head _, (fun _ h => by cases h)⟩) ?_
       obtain ⟨x30, h31, hr⟩ := bnd1 hr
       refine AL.ix (nc := ⟨rfl⟩) good (d := 56) (r := [.str x30.op, .int .i64 x30.v.kind, .int .i64 x30.v.i, .bool x30.v.b, .str x30.v.s, .sl .ro 5 (encs x30.v.t), .int .i64 x30.n, .sl .ro 8 (enxs x30.a)]) rfl rfl rfl rfl rfl rfl rfl (by decide) (enxs_get h31) ?_
       refine AL.vc good (d := 57) (v := .agg [.str x30.op, .int .i64 x30.v.kind, .int .i64 x30.v.i, .bool x30.v.b, .str x30.v.s, .sl .ro 5 (encs x30.v.t), .int .i64 x30.n, .sl .ro 8 (enxs x30.a)]) rfl rfl rfl rfl rfl rfl (fun _ h => by cases h) ?_
       obtain ⟨q32, h33, hr⟩ := bnd1 hr
       refine AL.clF good (d := 58) (xs := [.agg (exC x30)]) (ob := .row 94 7 (r_st_GInst q32).length) (res := .sl (.own 2) 7 (r_st_GInst q32)) rfl rfl rfl rfl rfl rfl rfl 2 rfl (ih _ _ _ h33 (by omega) 2) ⟨(Wv.refl _), trivial⟩ rfl (ColN.mk rfl rfl (fun _ h => by cases h) (fmc ⟨.head _, (fun _ h => by cases h)⟩) (fun _ h => by cases h)) ?_
       refine Av (nc := ⟨rfl⟩) (.ptr 0 7) rfl ?_
       refine AL.vc good (d := 60) (v := .sl .ro 8 (enxs a0.a)) rfl rfl rfl rfl rfl rfl (fmc ⟨.head _, (fun _ h => by cases h)⟩) ?_
       obtain ⟨x34, h35, hr⟩ := bnd1 hr
       refine AL.ix (nc := ⟨rfl⟩) good (d := 61) (r := [.str x34.op, .int .i64 x34.v.kind, .int .i64 x34.v.i, .bool x34.v.b, .str x34.v.s, .sl .ro 5 (encs x34.v.t), .int .i64 x34.n, .sl .ro 8 (enxs x34.a)]) rfl rfl rfl rfl rfl rfl rfl (by decide) (enxs_get h35) ?_
       refine AL.vc good (d := 62) (v := .agg [.str x34.op, .int .i64 x34.v.kind, .int .i64 x34.v.i, .bool x34.v.b, .str x34.v.s, .sl .ro 5 (encs x34.v.t), .int .i64 x34.n, .sl .ro 8 (enxs x34.a)]) rfl rfl rfl rfl rfl rfl (fun _ h => by cases h) ?_
       obtain ⟨q36, h37, hr⟩ := bnd1 hr
       refine AL.clF good (d := 63) (xs := [.agg (exC x34)]) (ob := .row 94 7 (r_st_GInst q36).length) (res := .sl (.own 3) 7 (r_st_GInst q36)) rfl rfl rfl rfl rfl rfl rfl 3 rfl (ih _ _ _ h37 (by omega) 3) ⟨(Wv.refl _), trivial⟩ rfl (ColN.mk rfl rfl (fun _ h => by cases h) (fmc ⟨.head _, (fun _ h => by cases h)⟩) (fun _ h => by cases h)) ?_
       obtain ⟨q38, h39, hr⟩ := bnd1 hr
       refine AL.clF good (d := 64) (xs := [.sl .ro 7 (r_st_GInst q28), .sl .ro 7 (r_st_GInst q32), .sl .ro 7 (r_st_GInst q36)]) (ob := .row 94 7 (r_st_GInst q38).length) (res := .sl (.own 4) 7 (r_st_GInst q38)) rfl rfl rfl rfl rfl rfl rfl 4 rfl (w_f87 _ _ _ _ _ h39 4) ⟨⟨.inr rfl, WvR.refl _, .inl rfl⟩, ⟨.inr rfl, WvR.refl _, .inl rfl⟩, ⟨.inr rfl, WvR.refl _, .inl rfl⟩, trivial⟩ rfl (ColN.mk rfl rfl (fun _ h => by cases h) (fmc ⟨.head _, (fun _ h => by cases h)⟩) (fun _ h => by cases h)) ?_
       refine Av (nc := ⟨rfl⟩) (.sl (.own 4) 7 (r_st_GInst q38)) rfl ?_
       refine AW.ret ?_
       obtain rfl := Option.some.inj hr
       exact RetN.w good (.inr rfl) rfl rfl (WvR.refl _) rfl
      ·replace hr := cnd_f h25 hr
       refine AW.skip ?_
       refine AW.seq (Rg ?_)
       refine Av (.sl .nil 0 []) rfl ?_
       refine AW.seq ?_
       refine AW.seq (Rg ?_)
       refine Av (.int .i64 0) rfl ?_
       refine AW.block ?_
       refine AW.adopt 3 rfl 1 7 94 rfl rfl ?_
       refine AW.lensB 0 rfl (fun hl48 => ?_)
       replace hl48 : a0.a.length ≤ 9223372036854775807 := by rw [← enxs_length a0.a]; exact hl48.2.2.2.2.2.2.2.1
       refine AW.lpw (fun x : Nat × (List GInst) × Nat => [(1, .ptr 0 0), (3, .sl (.own 1) 7 (r_st_GInst x.2.1)), (4, .int .i64 (x.2.2 : Int))]) (fun x => [(0, .box 44 [.str a0.op, .int .i64 a0.v.kind, .int .i64 a0.v.i, .bool a0.v.b, .str a0.v.s, .sl .ro 5 (encs a0.v.t), .int .i64 a0.n, .sl .ro 8 (enxs a0.a)]), (1, .row 94 7 (r_st_GInst x.2.1).length)]) (fun x => s_f52_l1 x.1 a0 x.2.1 x.2.2 = some r ∧ x.1 ≤ n) (fun x => x.1) (n, [], 0) ⟨(fun _ h => by cases h), fmc ⟨⟨⟨_, rfl, Wv.refl _⟩, (by simp)⟩, fmc ⟨⟨⟨_, rfl, Wv.refl _⟩, (by simp)⟩, fmc ⟨⟨⟨_, rfl, Wv.refl _⟩, (by simp)⟩, (fun _ h => by cases h)⟩⟩⟩, fmc ⟨⟨⟨_, rfl, ⟨rfl, ⟨Wv.refl _, Wv.refl _, Wv.refl _, Wv.refl _, Wv.refl _, Wv.refl _, Wv.refl _, Wv.refl _, trivial⟩⟩⟩, (by simp)⟩, fmc ⟨⟨⟨_, rfl, ⟨rfl, rfl, rfl⟩⟩, (by simp)⟩, (fun _ h => by cases h)⟩⟩⟩ ⟨hr, Nat.le_refl _⟩ (fun ⟨m, v1_1, v1_2⟩ hx => ?_)
       obtain ⟨hr, hm⟩ := hx
       try dsimp only at hr hm
       cases m with
       | zero => rw [s_f52_l1] at hr; cases hr
       | succ m =>
        rw [s_f52_l1] at hr
        show AW Tryz.prog _ _ _ (mkS 105 [(1, .ptr 0 0), (3, .sl (.own 1) 7 (r_st_GInst v1_1)), (4, .int .i64 (v1_2 : Int))] [(0, .box 44 [.str a0.op, .int .i64 a0.v.kind, .int .i64 a0.v.i, .bool a0.v.b, .str a0.v.s, .sl .ro 5 (encs a0.v.t), .int .i64 a0.n, .sl .ro 8 (enxs a0.a)]), (1, .row 94 7 (r_st_GInst v1_1).length)])
        refine AW.seq ?_
        refine AW.seq (Rg ?_)
        refine Av (.int .i64 (v1_2 : Int)) rfl ?_
        refine Av (.ptr 0 7) rfl ?_
        refine Av (.sl .ro 8 (enxs a0.a)) rfl ?_
        refine AL.ln good (d := 68) (m := a0.a.length) rfl rfl rfl rfl rfl rfl (enxs_length _) ?_
        refine Av (.bool (decide ((v1_2 : Int) < (a0.a.length : Int)))) rfl ?_
        refine AW.if rfl (fun h49 => ?_) (fun h49 => ?_)
        ·replace hr := cnd_t h49 hr
         refine AW.skip ?_
         refine AW.seq ?_
         refine AW.block ?_
         refine Rg ?_
         refine Av (.sl (.own 1) 7 (r_st_GInst v1_1)) rfl ?_
         refine Av (.ptr 0 7) rfl ?_
         refine Av (.sl .ro 8 (enxs a0.a)) rfl ?_
         refine Av (.int .i64 (v1_2 : Int)) rfl ?_
         obtain ⟨x50, h51, hr⟩ := bnd1 hr
         refine AL.ix good (d := 76) (r := [.str x50.op, .int .i64 x50.v.kind, .int .i64 x50.v.i, .bool x50.v.b, .str x50.v.s, .sl .ro 5 (encs x50.v.t), .int .i64 x50.n, .sl .ro 8 (enxs x50.a)]) rfl rfl rfl rfl rfl rfl rfl (Int.natCast_nonneg _) (enxs_get h51) ?_
         refine Av (.agg [.str x50.op, .int .i64 x50.v.kind, .int .i64 x50.v.i, .bool x50.v.b, .str x50.v.s, .sl .ro 5 (encs x50.v.t), .int .i64 x50.n, .sl .ro 8 (enxs x50.a)]) rfl ?_
         obtain ⟨q52, h53, hr⟩ := bnd1 hr
         refine AL.clF good (d := 78) (xs := [.agg (exC x50)]) (ob := .row 94 7 (r_st_GInst q52).length) (res := .sl (.own 2) 7 (r_st_GInst q52)) rfl rfl rfl rfl rfl rfl rfl 2 rfl (ih _ _ _ h53 (by omega) 2) ⟨(Wv.refl _), trivial⟩ rfl ColN.no ?_
         obtain ⟨q54, h55, hr⟩ := bnd1 hr
         refine AL.clF good (d := 79) (xs := [.sl .ro 7 (r_st_GInst v1_1), .sl .ro 7 (r_st_GInst q52)]) (ob := .row 94 7 (r_st_GInst q54).length) (res := .sl (.own 3) 7 (r_st_GInst q54)) rfl rfl rfl rfl rfl rfl rfl 3 rfl (w_f89 _ _ _ _ h55 3) ⟨⟨.inr rfl, WvR.refl _, .inl rfl⟩, ⟨.inr rfl, WvR.refl _, .inl rfl⟩, trivial⟩ rfl ColN.no ?_
         refine Av (.sl (.own 3) 7 (r_st_GInst q54)) rfl ?_
         refine AW.ren 3 1 3 rfl rfl [(1, .ptr 0 0), (4, .int .i64 (v1_2 : Int))] [(0, .box 44 [.str a0.op, .int .i64 a0.v.kind, .int .i64 a0.v.i, .bool a0.v.b, .str a0.v.s, .sl .ro 5 (encs a0.v.t), .int .i64 a0.n, .sl .ro 8 (enxs a0.a)])] (fmc ⟨⟨rfl, (by simp)⟩, fmc ⟨⟨rfl, (by simp)⟩, (fun _ h => by cases h)⟩⟩) (fmc ⟨⟨rfl, (by simp)⟩, (fun _ h => by cases h)⟩) rfl rfl (fun _ h => by cases h) (r_st_GInst_pure _ _) ?_
         refine Rg ?_
         refine Av (.int .i64 (v1_2 : Int)) rfl ?_
         refine Av (.int .i64 (IntKind.i64.wrap ((v1_2 : Int) + 1))) rfl ?_
         refine Av (.int .i64 (IntKind.i64.wrap ((v1_2 : Int) + 1))) rfl ?_
         exact ⟨(m, q54, (v1_2 + 1)), _, _, rfl, ⟨(fun _ h => by cases h), fmc ⟨⟨⟨_, rfl, Wv.refl _⟩, (by simp)⟩, fmc ⟨⟨⟨_, rfl, Wv.refl _⟩, (by simp)⟩, fmc ⟨⟨⟨_, rfl, (wnx h49 hl48)⟩, (by simp)⟩, (fun _ h => by cases h)⟩⟩⟩, fmc ⟨⟨⟨_, rfl, ⟨rfl, ⟨Wv.refl _, Wv.refl _, Wv.refl _, Wv.refl _, Wv.refl _, Wv.refl _, Wv.refl _, Wv.refl _, trivial⟩⟩⟩, (by simp)⟩, fmc ⟨⟨⟨_, rfl, ⟨rfl, rfl, rfl⟩⟩, (by simp)⟩, (fun _ h => by cases h)⟩⟩⟩, ⟨hr, Nat.le_of_succ_le hm⟩, Nat.lt_succ_self _⟩
        ·replace hr := cnd_f h49 hr
         refine AW.exit ?_
         refine AW.seq ?_
         refine AW.seq (Rg ?_)
         refine Av (.ptr 0 0) rfl ?_
         refine Av (.str a0.op) rfl ?_
         refine AW.block ?_
         refine AW.seq (Rg ?_)
         refine AL.sb good (d := 83) (b := (a0.op.data.toList == [97, 116])) rfl rfl rfl rfl rfl rfl rfl ?_
         refine Av (.bool (a0.op.data.toList == [97, 116])) rfl ?_
         refine AW.if rfl (fun h56 => ?_) (fun h56 => ?_)
         ·replace hr := cnd_t h56 hr
          refine AW.seq (Rg ?_)
          refine Av (.sl (.own 1) 7 (r_st_GInst v1_1)) rfl ?_
          refine Av (.ptr 0 6) rfl ?_
          refine Av (.int .i64 a0.n) rfl ?_
          refine AL.cw good (d := 87) (xs := [.str ⟨#[97, 116]⟩, .int .i64 a0.n]) (res := .agg [.str ⟨#[97, 116]⟩, .int .i64 0, .int .i64 0, .bool false, .str ⟨#[]⟩, .sl .ro 5 (encs []), .int .i64 a0.n]) rfl rfl rfl rfl rfl rfl rfl (w_f86 ⟨#[97, 116]⟩ a0.n) ⟨(Wv.refl _), (Wv.refl _), trivial⟩ (by simp) ?_
          refine AL.lit good (d := 88) (rows := [[.str ⟨#[97, 116]⟩, .int .i64 0, .int .i64 0, .bool false, .str ⟨#[]⟩, .sl .ro 5 (encs []), .int .i64 a0.n]]) rfl rfl rfl rfl rfl rfl rfl rfl rfl 2 rfl ?_
          obtain ⟨h57, hr⟩ := grd hr
          refine AL.aw2 good (d := 89) (rows := r_st_GInst v1_1) (news := [[.str (((GInst.mk ⟨#[97, 116]⟩ (Val.mk 0 0 false ⟨#[]⟩ []) a0.n)).f0), .int .i64 ((((GInst.mk ⟨#[97, 116]⟩ (Val.mk 0 0 false ⟨#[]⟩ []) a0.n)).f1).kind), .int .i64 ((((GInst.mk ⟨#[97, 116]⟩ (Val.mk 0 0 false ⟨#[]⟩ []) a0.n)).f1).i), .bool ((((GInst.mk ⟨#[97, 116]⟩ (Val.mk 0 0 false ⟨#[]⟩ []) a0.n)).f1).b), .str ((((GInst.mk ⟨#[97, 116]⟩ (Val.mk 0 0 false ⟨#[]⟩ []) a0.n)).f1).s), .sl .ro 5 (encs ((((GInst.mk ⟨#[97, 116]⟩ (Val.mk 0 0 false ⟨#[]⟩ []) a0.n)).f1).t)), .int .i64 (((GInst.mk ⟨#[97, 116]⟩ (Val.mk 0 0 false ⟨#[]⟩ []) a0.n)).f2)]]) (rows2 := r_st_GInst (v1_1 ++ [(GInst.mk ⟨#[97, 116]⟩ (Val.mk 0 0 false ⟨#[]⟩ []) a0.n)])) rfl rfl rfl rfl rfl rfl rfl rfl rfl (by simp) rfl rfl rfl ⟨⟨Wv.refl _, Wv.refl _, Wv.refl _, Wv.refl _, Wv.refl _, Wv.refl _, Wv.refl _, trivial⟩, trivial⟩ (by simp [r_st_GInst, rowF]) (by rw [r_st_GInst_length, List.length_append]; exact h57) rfl ?_
          refine Av (.sl (.own 1) 7 (r_st_GInst (v1_1 ++ [(GInst.mk ⟨#[97, 116]⟩ (Val.mk 0 0 false ⟨#[]⟩ []) a0.n)]))) rfl ?_
          refine AW.ret ?_
          obtain rfl := Option.some.inj hr
          exact RetN.w good (.inr rfl) rfl rfl (WvR.refl _) rfl
         ·replace hr := cnd_f h56 hr
          refine AW.seq (Rg ?_)
          refine AL.sb good (d := 91) (b := (a0.op.data.toList == [116, 117, 112])) rfl rfl rfl rfl rfl rfl rfl ?_
          refine Av (.bool (a0.op.data.toList == [116, 117, 112])) rfl ?_
          refine AW.if rfl (fun h58 => ?_) (fun h58 => ?_)
          ·replace hr := cnd_t h58 hr
           refine AW.seq (Rg ?_)
           refine Av (.sl (.own 1) 7 (r_st_GInst v1_1)) rfl ?_
           refine Av (.ptr 0 7) rfl ?_
           refine Av (.sl .ro 8 (enxs a0.a)) rfl ?_
           refine AL.ln good (d := 95) (m := a0.a.length) rfl rfl rfl rfl rfl rfl (enxs_length _) ?_
           refine AL.cw good (d := 96) (xs := [.str ⟨#[116, 117, 112]⟩, .int .i64 (a0.a.length : Int)]) (res := .agg [.str ⟨#[116, 117, 112]⟩, .int .i64 0, .int .i64 0, .bool false, .str ⟨#[]⟩, .sl .ro 5 (encs []), .int .i64 (a0.a.length : Int)]) rfl rfl rfl rfl rfl rfl rfl (w_f86 ⟨#[116, 117, 112]⟩ (a0.a.length : Int)) ⟨(Wv.refl _), (Wv.refl _), trivial⟩ (by simp) ?_
           refine AL.lit good (d := 97) (rows := [[.str ⟨#[116, 117, 112]⟩, .int .i64 0, .int .i64 0, .bool false, .str ⟨#[]⟩, .sl .ro 5 (encs []), .int .i64 (a0.a.length : Int)]]) rfl rfl rfl rfl rfl rfl rfl rfl rfl 2 rfl ?_
           obtain ⟨h59, hr⟩ := grd hr
           refine AL.aw2 good (d := 98) (rows := r_st_GInst v1_1) (news := [[.str (((GInst.mk ⟨#[116, 117, 112]⟩ (Val.mk 0 0 false ⟨#[]⟩ []) (a0.a.length : Int))).f0), .int .i64 ((((GInst.mk ⟨#[116, 117, 112]⟩ (Val.mk 0 0 false ⟨#[]⟩ []) (a0.a.length : Int))).f1).kind), .int .i64 ((((GInst.mk ⟨#[116, 117, 112]⟩ (Val.mk 0 0 false ⟨#[]⟩ []) (a0.a.length : Int))).f1).i), .bool ((((GInst.mk ⟨#[116, 117, 112]⟩ (Val.mk 0 0 false ⟨#[]⟩ []) (a0.a.length : Int))).f1).b), .str ((((GInst.mk ⟨#[116, 117, 112]⟩ (Val.mk 0 0 false ⟨#[]⟩ []) (a0.a.length : Int))).f1).s), .sl .ro 5 (encs ((((GInst.mk ⟨#[116, 117, 112]⟩ (Val.mk 0 0 false ⟨#[]⟩ []) (a0.a.length : Int))).f1).t)), .int .i64 (((GInst.mk ⟨#[116, 117, 112]⟩ (Val.mk 0 0 false ⟨#[]⟩ []) (a0.a.length : Int))).f2)]]) (rows2 := r_st_GInst (v1_1 ++ [(GInst.mk ⟨#[116, 117, 112]⟩ (Val.mk 0 0 false ⟨#[]⟩ []) (a0.a.length : Int))])) rfl rfl rfl rfl rfl rfl rfl rfl rfl (by simp) rfl rfl rfl ⟨⟨Wv.refl _, Wv.refl _, Wv.refl _, Wv.refl _, Wv.refl _, Wv.refl _, Wv.refl _, trivial⟩, trivial⟩ (by simp [r_st_GInst, rowF]) (by rw [r_st_GInst_length, List.length_append]; exact h59) rfl ?_
           refine Av (.sl (.own 1) 7 (r_st_GInst (v1_1 ++ [(GInst.mk ⟨#[116, 117, 112]⟩ (Val.mk 0 0 false ⟨#[]⟩ []) (a0.a.length : Int))]))) rfl ?_
           refine AW.ret ?_
           obtain rfl := Option.some.inj hr
           exact RetN.w good (.inr rfl) rfl rfl (WvR.refl _) rfl
          ·replace hr := cnd_f h58 hr
           refine AW.skip ?_
           refine AW.seq (Rg ?_)
           refine Av (.sl (.own 1) 7 (r_st_GInst v1_1)) rfl ?_
           refine Av (.ptr 0 0) rfl ?_
           refine Av (.str a0.op) rfl ?_
           refine AL.cw good (d := 102) (xs := [.str a0.op, .int .i64 0]) (res := .agg [.str a0.op, .int .i64 0, .int .i64 0, .bool false, .str ⟨#[]⟩, .sl .ro 5 (encs []), .int .i64 0]) rfl rfl rfl rfl rfl rfl rfl (w_f86 a0.op 0) ⟨(Wv.refl _), (Wv.refl _), trivial⟩ (by simp) ?_
           refine AL.lit good (d := 103) (rows := [[.str a0.op, .int .i64 0, .int .i64 0, .bool false, .str ⟨#[]⟩, .sl .ro 5 (encs []), .int .i64 0]]) rfl rfl rfl rfl rfl rfl rfl rfl rfl 2 rfl ?_
           obtain ⟨h60, hr⟩ := grd hr
           refine AL.aw2 good (d := 104) (rows := r_st_GInst v1_1) (news := [[.str (((GInst.mk a0.op (Val.mk 0 0 false ⟨#[]⟩ []) 0)).f0), .int .i64 ((((GInst.mk a0.op (Val.mk 0 0 false ⟨#[]⟩ []) 0)).f1).kind), .int .i64 ((((GInst.mk a0.op (Val.mk 0 0 false ⟨#[]⟩ []) 0)).f1).i), .bool ((((GInst.mk a0.op (Val.mk 0 0 false ⟨#[]⟩ []) 0)).f1).b), .str ((((GInst.mk a0.op (Val.mk 0 0 false ⟨#[]⟩ []) 0)).f1).s), .sl .ro 5 (encs ((((GInst.mk a0.op (Val.mk 0 0 false ⟨#[]⟩ []) 0)).f1).t)), .int .i64 (((GInst.mk a0.op (Val.mk 0 0 false ⟨#[]⟩ []) 0)).f2)]]) (rows2 := r_st_GInst (v1_1 ++ [(GInst.mk a0.op (Val.mk 0 0 false ⟨#[]⟩ []) 0)])) rfl rfl rfl rfl rfl rfl rfl rfl rfl (by simp) rfl rfl rfl ⟨⟨Wv.refl _, Wv.refl _, Wv.refl _, Wv.refl _, Wv.refl _, Wv.refl _, Wv.refl _, trivial⟩, trivial⟩ (by simp [r_st_GInst, rowF]) (by rw [r_st_GInst_length, List.length_append]; exact h60) rfl ?_
           refine Av (.sl (.own 1) 7 (r_st_GInst (v1_1 ++ [(GInst.mk a0.op (Val.mk 0 0 false ⟨#[]⟩ []) 0)]))) rfl ?_
           refine AW.ret ?_
           obtain rfl := Option.some.inj hr
           exact RetN.w good (.inr rfl) rfl rfl (WvR.refl _) rfl
theorem w_f52 (n : Nat) : ∀ (a0 : Ex) (r : List GInst) (hr : s_f52 n a0 = some r) (id : Nat), ACallN Tryz.prog 37 [.agg (exC a0)] id (.row 94 7 (r_st_GInst r).length) (.sl (.own id) 7 (r_st_GInst r)) := by
 induction n using Nat.strongRecOn with
 | _ n ih =>
  intro a0 r hr id
  exact w_f52_a n (fun m a0 r h hm => ih m hm a0 r h) a0 r hr id

end
end Go.Proofs.YtbcjcekoonebiaaGreat.Tl
