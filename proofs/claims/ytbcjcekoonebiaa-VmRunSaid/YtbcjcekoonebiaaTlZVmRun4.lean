/- Definitions and walks: types. Definitions and walks: the types of expressions. Definitions and walks: values of the document compared. Definitions and walks: the document comes to values. Definitions and walks: programs of expressions. Definitions and walks: programs of operators. Definitions and walks: fused chains. The tree logic, part Tb: rows of nought that are made; what is stored in an array, weakened. Conditions: none. -/
import Derived.Test.YtbcjcekoonebiaaTlZVmRun3
set_option linter.unusedVariables false
set_option linter.unusedSimpArgs false
namespace Go.Proofs.Ytbcjcekoonebiaa.Tl
open Go Go.RowKit
mutual
def s_f91 : Nat → Ty → Int → Option Int
  | 0, _, _ => none
  | n + 1, a0, a1 => (bif (((decide (a0.kind < 1)) || (decide (a0.kind > 4))) || ((a0.kind != 4) && (decide ((a0.of.length : Int) > 0)))) then some 5 else (bif (a0.kind != 4) then some 0 else (bif ((a0.of.length : Int) == 0) then some 1 else (bif (decide ((a0.of.length : Int) > 8)) then some 10 else (bif (decide (a1 > 4)) then some 9 else (s_f91_l1 n a0 a1 0))))))
def s_f91_l1 : Nat → Ty → Int → Nat → Option Int
  | 0, _, _, _ => none
  | n + 1, a0, a1, v1_1 => (bif (decide ((v1_1 : Int) < (a0.of.length : Int))) then ((a0.of[v1_1]?).bind fun x21 => ((s_f91 n x21 (IntKind.i64.wrap (a1 + 1))).bind fun q23 => (bif (q23 != 0) then some q23 else (s_f91_l1 n a0 a1 (v1_1 + 1))))) else some 0)
end

theorem w_f91_a (n : Nat) (ih : ∀ (m : Nat) (a0 : Ty) (a1 : Int) (r : Int), s_f91 m a0 a1 = some r → m < n → ACall Try.prog 91 [.agg (tyC a0), .int .i64 a1] (.int .i64 r)) (a0 : Ty) (a1 : Int) (r : Int) (hr : s_f91 n a0 a1 = some r) : ACall Try.prog 91 [.agg (tyC a0), .int .i64 a1] (.int .i64 r) := by
 refine ACall.go [(0, .agg (tyC a0)), (1, .int .i64 a1)] Try.func91 rfl Try.ntmps91 rfl rfl (by simp [pureA, pureL, pureR, inA, inL, inR, inO, idsIn, encs_pure, enys_pure, valC_pure, tyC_pure]) ?_
 cases n with
 | zero => rw [s_f91] at hr; cases hr
 | succ n =>
  rw [s_f91] at hr
  refine AW.seq ?_
  refine AW.rg ?_
  refine AL.bx good (d := 2) (l := [.int .i64 a0.kind, .sl .ro 2 (enys a0.of)]) rfl rfl rfl rfl rfl rfl 0 rfl ?_
  refine AL.v good (d := 4) (v := .int .i64 0) rfl rfl rfl rfl ?_
  refine AW.seq ?_
  refine AW.block ?_
  refine AW.seq ?_
  refine AW.rg ?_
  refine AL.v good (d := 8) (v := .ptr 0 0) rfl rfl rfl rfl ?_
  refine AL.v good (d := 9) (v := .int .i64 a0.kind) rfl rfl rfl rfl ?_
  refine AL.v good (d := 10) (v := .bool (decide (a0.kind < 1))) rfl rfl rfl rfl ?_
  refine AL.vb good (d := 11) (b := (decide (a0.kind < 1))) rfl rfl rfl rfl (fun g1 h2 => ?_)
  refine AL.gv good (d := 12) (c := (!g1)) (v := .ptr 0 0) (rd := []) rfl rfl (by cases g1 <;> rfl) (fun h => by cases g1 <;> first | rfl | exact absurd h (by decide)) ?_
  refine AL.gv good (d := 13) (c := (!g1)) (v := .int .i64 a0.kind) (rd := [(0, .box 40 [.int .i64 a0.kind, .sl .ro 2 (enys a0.of)])]) rfl rfl (by cases g1 <;> rfl) (fun h => by cases g1 <;> first | rfl | exact absurd h (by decide)) ?_
  refine AL.gv good (d := 14) (c := (!g1)) (v := .bool (decide (a0.kind > 4))) (rd := []) rfl rfl (by cases g1 <;> rfl) (fun h => by cases g1 <;> first | rfl | exact absurd h (by decide)) ?_
  refine AL.v good (d := 15) (v := .bool (g1 || (decide (a0.kind > 4)))) (rd := []) rfl rfl rfl (by cases g1 <;> rfl) ?_
  refine AL.vb good (d := 16) (b := (g1 || (decide (a0.kind > 4)))) rfl rfl rfl rfl (fun g3 h4 => ?_)
  refine AL.gv good (d := 17) (c := (!g3)) (v := .ptr 0 0) (rd := []) rfl rfl (by cases g3 <;> rfl) (fun h => by cases g3 <;> first | rfl | exact absurd h (by decide)) ?_
  refine AL.gv good (d := 18) (c := (!g3)) (v := .int .i64 a0.kind) (rd := [(0, .box 40 [.int .i64 a0.kind, .sl .ro 2 (enys a0.of)])]) rfl rfl (by cases g3 <;> rfl) (fun h => by cases g3 <;> first | rfl | exact absurd h (by decide)) ?_
  refine AL.gv good (d := 19) (c := (!g3)) (v := .bool (a0.kind != 4)) (rd := []) rfl rfl (by cases g3 <;> rfl) (fun h => by cases g3 <;> first | rfl | exact absurd h (by decide)) ?_
  refine AL.gvb good (d := 20) (c := (!g3)) (r := (a0.kind != 4)) (rd := []) rfl rfl (by cases g3 <;> rfl) (fun h => by cases g3 <;> first | rfl | exact absurd h (by decide)) (fun g5 h6 => ?_)
  refine AL.gv good (d := 21) (c := ((!g3) && g5)) (v := .ptr 0 1) (rd := []) rfl rfl (by cases g3 <;> cases g5 <;> rfl) (fun h => by cases g3 <;> cases g5 <;> first | rfl | exact absurd h (by decide)) ?_
  refine AL.gv good (d := 22) (c := ((!g3) && g5)) (v := .sl .ro 2 (enys a0.of)) (rd := [(0, .box 40 [.int .i64 a0.kind, .sl .ro 2 (enys a0.of)])]) rfl rfl (by cases g3 <;> cases g5 <;> rfl) (fun h => by cases g3 <;> cases g5 <;> first | rfl | exact absurd h (by decide)) ?_
  refine AL.gln good (d := 23) (c := ((!g3) && g5)) (m := a0.of.length) rfl rfl (by cases g3 <;> cases g5 <;> rfl) rfl rfl (fun h => by cases g3 <;> cases g5 <;> first | rfl | exact absurd h (by decide)) (enys_length _) ?_
  refine AL.gv good (d := 24) (c := ((!g3) && g5)) (v := .bool (decide ((a0.of.length : Int) > 0))) (rd := []) rfl rfl (by cases g3 <;> cases g5 <;> rfl) (fun h => by cases g3 <;> cases g5 <;> first | rfl | exact absurd h (by decide)) ?_
  refine AL.gv good (d := 25) (c := (!g3)) (v := .bool (g5 && (decide ((a0.of.length : Int) > 0)))) (rd := []) rfl rfl (by cases g3 <;> cases g5 <;> rfl) (fun h => by cases g3 <;> cases g5 <;> first | rfl | exact absurd h (by decide)) ?_
  refine AL.v good (d := 26) (v := .bool (g3 || (g5 && (decide ((a0.of.length : Int) > 0))))) (rd := []) rfl rfl rfl (by cases g3 <;> rfl) ?_
  refine AL.v good (d := 7) (v := .bool (g3 || (g5 && (decide ((a0.of.length : Int) > 0))))) rfl rfl rfl rfl ?_
  subst h2 h4 h6
  refine AW.if rfl (fun h7 => ?_) (fun h7 => ?_)
  ·replace hr := cnd_t h7 hr
   refine AW.seq ?_
   refine AW.rg ?_
   refine AL.v good (d := 4) (v := .int .i64 5) rfl rfl rfl rfl ?_
   refine AW.ret ?_
   obtain rfl := Option.some.inj hr
   exact RetQ.w good (.inr rfl) rfl rfl (Wv.refl _) (by simp [pureA, pureL, pureR, inA, inL, inR, inO, idsIn, encs_pure, enys_pure, valC_pure, tyC_pure])
  ·replace hr := cnd_f h7 hr
   refine AW.seq ?_
   refine AW.rg ?_
   refine AL.v good (d := 28) (v := .ptr 0 0) rfl rfl rfl rfl ?_
   refine AL.v good (d := 29) (v := .int .i64 a0.kind) rfl rfl rfl rfl ?_
   refine AL.v good (d := 30) (v := .bool (a0.kind != 4)) rfl rfl rfl rfl ?_
   refine AL.v good (d := 27) (v := .bool (a0.kind != 4)) rfl rfl rfl rfl ?_
   refine AW.if rfl (fun h8 => ?_) (fun h8 => ?_)
   ·replace hr := cnd_t h8 hr
    refine AW.seq ?_
    refine AW.rg ?_
    refine AL.v good (d := 4) (v := .int .i64 0) rfl rfl rfl rfl ?_
    refine AW.ret ?_
    obtain rfl := Option.some.inj hr
    exact RetQ.w good (.inr rfl) rfl rfl (Wv.refl _) (by simp [pureA, pureL, pureR, inA, inL, inR, inO, idsIn, encs_pure, enys_pure, valC_pure, tyC_pure])
   ·replace hr := cnd_f h8 hr
    refine AW.seq ?_
    refine AW.rg ?_
    refine AL.v good (d := 32) (v := .ptr 0 1) rfl rfl rfl rfl ?_
    refine AL.v good (d := 33) (v := .sl .ro 2 (enys a0.of)) rfl rfl rfl rfl ?_
    refine AL.ln good (d := 34) (m := a0.of.length) rfl rfl rfl rfl rfl rfl (enys_length _) ?_
    refine AL.v good (d := 35) (v := .bool ((a0.of.length : Int) == 0)) rfl rfl rfl rfl ?_
    refine AL.v good (d := 31) (v := .bool ((a0.of.length : Int) == 0)) rfl rfl rfl rfl ?_
    refine AW.if rfl (fun h9 => ?_) (fun h9 => ?_)
    ·replace hr := cnd_t h9 hr
     refine AW.seq ?_
     refine AW.rg ?_
     refine AL.v good (d := 4) (v := .int .i64 1) rfl rfl rfl rfl ?_
     refine AW.ret ?_
     obtain rfl := Option.some.inj hr
     exact RetQ.w good (.inr rfl) rfl rfl (Wv.refl _) (by simp [pureA, pureL, pureR, inA, inL, inR, inO, idsIn, encs_pure, enys_pure, valC_pure, tyC_pure])
    ·replace hr := cnd_f h9 hr
     refine AW.seq ?_
     refine AW.rg ?_
     refine AL.v good (d := 37) (v := .ptr 0 1) rfl rfl rfl rfl ?_
     refine AL.v good (d := 38) (v := .sl .ro 2 (enys a0.of)) rfl rfl rfl rfl ?_
     refine AL.ln good (d := 39) (m := a0.of.length) rfl rfl rfl rfl rfl rfl (enys_length _) ?_
     refine AL.v good (d := 40) (v := .bool (decide ((a0.of.length : Int) > 8))) rfl rfl rfl rfl ?_
     refine AL.v good (d := 36) (v := .bool (decide ((a0.of.length : Int) > 8))) rfl rfl rfl rfl ?_
     refine AW.if rfl (fun h10 => ?_) (fun h10 => ?_)
     ·replace hr := cnd_t h10 hr
      refine AW.seq ?_
      refine AW.rg ?_
      refine AL.v good (d := 4) (v := .int .i64 10) rfl rfl rfl rfl ?_
      refine AW.ret ?_
      obtain rfl := Option.some.inj hr
      exact RetQ.w good (.inr rfl) rfl rfl (Wv.refl _) (by simp [pureA, pureL, pureR, inA, inL, inR, inO, idsIn, encs_pure, enys_pure, valC_pure, tyC_pure])
     ·replace hr := cnd_f h10 hr
      refine AW.seq ?_
      refine AW.rg ?_
      refine AL.v good (d := 42) (v := .int .i64 a1) rfl rfl rfl rfl ?_
      refine AL.v good (d := 43) (v := .bool (decide (a1 > 4))) rfl rfl rfl rfl ?_
      refine AL.v good (d := 41) (v := .bool (decide (a1 > 4))) rfl rfl rfl rfl ?_
      refine AW.if rfl (fun h11 => ?_) (fun h11 => ?_)
      ·replace hr := cnd_t h11 hr
       refine AW.seq ?_
       refine AW.rg ?_
       refine AL.v good (d := 4) (v := .int .i64 9) rfl rfl rfl rfl ?_
       refine AW.ret ?_
       obtain rfl := Option.some.inj hr
       exact RetQ.w good (.inr rfl) rfl rfl (Wv.refl _) (by simp [pureA, pureL, pureR, inA, inL, inR, inO, idsIn, encs_pure, enys_pure, valC_pure, tyC_pure])
      ·replace hr := cnd_f h11 hr
       refine AW.skip ?_
       refine AW.seq ?_
       refine AW.seq ?_
       refine AW.rg ?_
       refine AL.v good (d := 5) (v := .int .i64 0) rfl rfl rfl rfl ?_
       refine AW.block ?_
       refine AW.lensB 0 rfl (fun hl19 => ?_)
       replace hl19 : a0.of.length ≤ 9223372036854775807 := by rw [← enys_length a0.of]; exact hl19.2.1
       refine AW.lpw (fun x : Nat × Nat => [(1, .int .i64 a1), (2, .ptr 0 0), (5, .int .i64 (x.2 : Int))]) (fun x => [(0, .box 40 [.int .i64 a0.kind, .sl .ro 2 (enys a0.of)])]) (fun x => s_f91_l1 x.1 a0 a1 x.2 = some r ∧ x.1 ≤ n) (fun x => x.1) (n, 0) ⟨(fun _ h => by cases h), fmc ⟨⟨⟨_, rfl, Wv.refl _⟩, (by simp [pureA, pureL, pureR, inA, inL, inR, inO, idsIn, encs_pure, enys_pure, valC_pure, tyC_pure])⟩, fmc ⟨⟨⟨_, rfl, Wv.refl _⟩, (by simp [pureA, pureL, pureR, inA, inL, inR, inO, idsIn, encs_pure, enys_pure, valC_pure, tyC_pure])⟩, fmc ⟨⟨⟨_, rfl, Wv.refl _⟩, (by simp [pureA, pureL, pureR, inA, inL, inR, inO, idsIn, encs_pure, enys_pure, valC_pure, tyC_pure])⟩, (fun _ h => by cases h)⟩⟩⟩, fmc ⟨⟨⟨_, rfl, ⟨rfl, ⟨Wv.refl _, Wv.refl _, trivial⟩⟩⟩, (by simp [pureA, pureL, pureR, inA, inL, inR, inO, idsIn, encs_pure, enys_pure, valC_pure, tyC_pure])⟩, (fun _ h => by cases h)⟩⟩ ⟨hr, Nat.le_refl _⟩ (fun ⟨m, v1_1⟩ hx => ?_)
       obtain ⟨hr, hm⟩ := hx
       try dsimp only at hr hm
       cases m with
       | zero => rw [s_f91_l1] at hr; cases hr
       | succ m =>
        rw [s_f91_l1] at hr
        show AW Try.prog _ _ _ (mkS 62 [(1, .int .i64 a1), (2, .ptr 0 0), (5, .int .i64 (v1_1 : Int))] [(0, .box 40 [.int .i64 a0.kind, .sl .ro 2 (enys a0.of)])])
        refine AW.seq ?_
        refine AW.seq ?_
        refine AW.rg ?_
        refine AL.v good (d := 44) (v := .int .i64 (v1_1 : Int)) rfl rfl rfl rfl ?_
        refine AL.v good (d := 45) (v := .ptr 0 1) rfl rfl rfl rfl ?_
        refine AL.v good (d := 46) (v := .sl .ro 2 (enys a0.of)) rfl rfl rfl rfl ?_
        refine AL.ln good (d := 47) (m := a0.of.length) rfl rfl rfl rfl rfl rfl (enys_length _) ?_
        refine AL.v good (d := 48) (v := .bool (decide ((v1_1 : Int) < (a0.of.length : Int)))) rfl rfl rfl rfl ?_
        refine AW.if rfl (fun h20 => ?_) (fun h20 => ?_)
        ·replace hr := cnd_t h20 hr
         refine AW.skip ?_
         refine AW.seq ?_
         refine AW.block ?_
         refine AW.seq ?_
         refine AW.rg ?_
         refine AL.v good (d := 51) (v := .ptr 0 1) rfl rfl rfl rfl ?_
         refine AL.v good (d := 52) (v := .sl .ro 2 (enys a0.of)) rfl rfl rfl rfl ?_
         refine AL.v good (d := 53) (v := .int .i64 (v1_1 : Int)) rfl rfl rfl rfl ?_
         obtain ⟨x21, h22, hr⟩ := bnd1 hr
         refine AL.ix good (d := 54) (r := [.int .i64 x21.kind, .sl .ro 2 (enys x21.of)]) rfl rfl rfl rfl rfl rfl rfl (Int.natCast_nonneg _) (enys_get h22) ?_
         refine AL.v good (d := 55) (v := .agg [.int .i64 x21.kind, .sl .ro 2 (enys x21.of)]) rfl rfl rfl rfl ?_
         refine AL.v good (d := 56) (v := .int .i64 a1) rfl rfl rfl rfl ?_
         refine AL.v good (d := 57) (v := .int .i64 (IntKind.i64.wrap (a1 + 1))) rfl rfl rfl rfl ?_
         obtain ⟨q23, h24, hr⟩ := bnd1 hr
         refine AL.cw good (d := 58) (xs := [.agg (tyC x21), .int .i64 (IntKind.i64.wrap (a1 + 1))]) (res := .int .i64 q23) rfl rfl rfl rfl rfl rfl rfl (ih _ _ _ _ h24 (by omega)) ⟨(Wv.refl _), (Wv.refl _), trivial⟩ (by simp [pureA, pureL, pureR, inA, inL, inR, inO, idsIn, encs_pure, enys_pure, valC_pure, tyC_pure]) ?_
         refine AL.v good (d := 6) (v := .int .i64 q23) rfl rfl rfl rfl ?_
         refine AW.seq ?_
         refine AW.rg ?_
         refine AL.v good (d := 59) (v := .int .i64 q23) rfl rfl rfl rfl ?_
         refine AL.v good (d := 60) (v := .bool (q23 != 0)) rfl rfl rfl rfl ?_
         refine AW.if rfl (fun h25 => ?_) (fun h25 => ?_)
         ·replace hr := cnd_t h25 hr
          refine AW.seq ?_
          refine AW.rg ?_
          refine AL.v good (d := 61) (v := .int .i64 q23) rfl rfl rfl rfl ?_
          refine AL.v good (d := 4) (v := .int .i64 q23) rfl rfl rfl rfl ?_
          refine AW.ret ?_
          obtain rfl := Option.some.inj hr
          exact RetQ.w good (.inr rfl) rfl rfl (Wv.refl _) (by simp [pureA, pureL, pureR, inA, inL, inR, inO, idsIn, encs_pure, enys_pure, valC_pure, tyC_pure])
         ·replace hr := cnd_f h25 hr
          refine AW.skip ?_
          refine AW.rg ?_
          refine AL.v good (d := 49) (v := .int .i64 (v1_1 : Int)) rfl rfl rfl rfl ?_
          refine AL.v good (d := 50) (v := .int .i64 (IntKind.i64.wrap ((v1_1 : Int) + 1))) rfl rfl rfl rfl ?_
          refine AL.v good (d := 5) (v := .int .i64 (IntKind.i64.wrap ((v1_1 : Int) + 1))) rfl rfl rfl rfl ?_
          exact ⟨(m, (v1_1 + 1)), _, _, rfl, ⟨(fun _ h => by cases h), fmc ⟨⟨⟨_, rfl, Wv.refl _⟩, (by simp [pureA, pureL, pureR, inA, inL, inR, inO, idsIn, encs_pure, enys_pure, valC_pure, tyC_pure])⟩, fmc ⟨⟨⟨_, rfl, Wv.refl _⟩, (by simp [pureA, pureL, pureR, inA, inL, inR, inO, idsIn, encs_pure, enys_pure, valC_pure, tyC_pure])⟩, fmc ⟨⟨⟨_, rfl, (wnx h20 hl19)⟩, (by simp [pureA, pureL, pureR, inA, inL, inR, inO, idsIn, encs_pure, enys_pure, valC_pure, tyC_pure])⟩, (fun _ h => by cases h)⟩⟩⟩, fmc ⟨⟨⟨_, rfl, ⟨rfl, ⟨Wv.refl _, Wv.refl _, trivial⟩⟩⟩, (by simp [pureA, pureL, pureR, inA, inL, inR, inO, idsIn, encs_pure, enys_pure, valC_pure, tyC_pure])⟩, (fun _ h => by cases h)⟩⟩, ⟨hr, Nat.le_of_succ_le hm⟩, Nat.lt_succ_self _⟩
        ·replace hr := cnd_f h20 hr
         refine AW.exit ?_
         refine AW.seq ?_
         refine AW.rg ?_
         refine AL.v good (d := 4) (v := .int .i64 0) rfl rfl rfl rfl ?_
         refine AW.ret ?_
         obtain rfl := Option.some.inj hr
         exact RetQ.w good (.inr rfl) rfl rfl (Wv.refl _) (by simp [pureA, pureL, pureR, inA, inL, inR, inO, idsIn, encs_pure, enys_pure, valC_pure, tyC_pure])
theorem w_f91 (n : Nat) : ∀ (a0 : Ty) (a1 : Int) (r : Int) (hr : s_f91 n a0 a1 = some r), ACall Try.prog 91 [.agg (tyC a0), .int .i64 a1] (.int .i64 r) := by
 induction n using Nat.strongRecOn with
 | _ n ih =>
  intro a0 a1 r hr
  exact w_f91_a n (fun m a0 a1 r h hm => ih m hm a0 a1 r h) a0 a1 r hr

def s_f56 (n : Nat) (a0 : Ty) : Option Int :=
  ((s_f91 n a0 0).bind fun q1 => some q1)

theorem w_f56 (n : Nat) (a0 : Ty) (r : Int) (hr : s_f56 n a0 = some r) : ACall Try.prog 56 [.agg (tyC a0)] (.int .i64 r) := by
 refine ACall.go [(0, .agg (tyC a0))] Try.func56 rfl Try.ntmps56 rfl rfl (by simp [pureA, pureL, pureR, inA, inL, inR, inO, idsIn, encs_pure, enys_pure, valC_pure, tyC_pure]) ?_
 rw [s_f56] at hr
 refine AW.seq ?_
 refine AW.rg ?_
 refine AL.bx good (d := 1) (l := [.int .i64 a0.kind, .sl .ro 2 (enys a0.of)]) rfl rfl rfl rfl rfl rfl 0 rfl ?_
 refine AL.v good (d := 2) (v := .int .i64 0) rfl rfl rfl rfl ?_
 refine AW.seq ?_
 refine AW.rg ?_
 refine AL.v good (d := 3) (v := .agg [.int .i64 a0.kind, .sl .ro 2 (enys a0.of)]) rfl rfl rfl rfl ?_
 obtain ⟨q1, h2, hr⟩ := bnd1 hr
 refine AL.cw good (d := 4) (xs := [.agg (tyC a0), .int .i64 0]) (res := .int .i64 q1) rfl rfl rfl rfl rfl rfl rfl (w_f91 _ _ _ _ h2) ⟨(Wv.refl _), (Wv.refl _), trivial⟩ (by simp [pureA, pureL, pureR, inA, inL, inR, inO, idsIn, encs_pure, enys_pure, valC_pure, tyC_pure]) ?_
 refine AL.v good (d := 2) (v := .int .i64 q1) rfl rfl rfl rfl ?_
 refine AW.ret ?_
 obtain rfl := Option.some.inj hr
 exact RetQ.w good (.inr rfl) rfl rfl (Wv.refl _) (by simp [pureA, pureL, pureR, inA, inL, inR, inO, idsIn, encs_pure, enys_pure, valC_pure, tyC_pure])

mutual
def s_f65 : Nat → Ty → Ty → Option Bool
  | 0, _, _ => none
  | n + 1, a0, a1 => (bif ((a0.kind != a1.kind) || ((a0.of.length : Int) != (a1.of.length : Int))) then some false else (s_f65_l1 n a0 a1 0))
def s_f65_l1 : Nat → Ty → Ty → Nat → Option Bool
  | 0, _, _, _ => none
  | n + 1, a0, a1, v1_1 => (bif (decide ((v1_1 : Int) < (a0.of.length : Int))) then ((a0.of[v1_1]?).bind fun x16 => ((a1.of[v1_1]?).bind fun x18 => ((s_f65 n x16 x18).bind fun q20 => (bif (!q20) then some false else (s_f65_l1 n a0 a1 (v1_1 + 1)))))) else some true)
end

theorem w_f65_a (n : Nat) (ih : ∀ (m : Nat) (a0 : Ty) (a1 : Ty) (r : Bool), s_f65 m a0 a1 = some r → m < n → ACall Try.prog 65 [.agg (tyC a0), .agg (tyC a1)] (.bool r)) (a0 : Ty) (a1 : Ty) (r : Bool) (hr : s_f65 n a0 a1 = some r) : ACall Try.prog 65 [.agg (tyC a0), .agg (tyC a1)] (.bool r) := by
 refine ACall.go [(0, .agg (tyC a0)), (1, .agg (tyC a1))] Try.func65 rfl Try.ntmps65 rfl rfl (by simp [pureA, pureL, pureR, inA, inL, inR, inO, idsIn, encs_pure, enys_pure, valC_pure, tyC_pure]) ?_
 cases n with
 | zero => rw [s_f65] at hr; cases hr
 | succ n =>
  rw [s_f65] at hr
  refine AW.seq ?_
  refine AW.rg ?_
  refine AL.bx good (d := 2) (l := [.int .i64 a0.kind, .sl .ro 2 (enys a0.of)]) rfl rfl rfl rfl rfl rfl 0 rfl ?_
  refine AL.bx good (d := 3) (l := [.int .i64 a1.kind, .sl .ro 2 (enys a1.of)]) rfl rfl rfl rfl rfl rfl 1 rfl ?_
  refine AL.v good (d := 4) (v := .bool false) rfl rfl rfl rfl ?_
  refine AW.seq ?_
  refine AW.seq ?_
  refine AW.rg ?_
  refine AL.v good (d := 6) (v := .ptr 0 0) rfl rfl rfl rfl ?_
  refine AL.v good (d := 7) (v := .int .i64 a0.kind) rfl rfl rfl rfl ?_
  refine AL.v good (d := 8) (v := .ptr 1 0) rfl rfl rfl rfl ?_
  refine AL.v good (d := 9) (v := .int .i64 a1.kind) rfl rfl rfl rfl ?_
  refine AL.v good (d := 10) (v := .bool (a0.kind != a1.kind)) rfl rfl rfl rfl ?_
  refine AL.vb good (d := 11) (b := (a0.kind != a1.kind)) rfl rfl rfl rfl (fun g1 h2 => ?_)
  refine AL.gv good (d := 12) (c := (!g1)) (v := .ptr 0 1) (rd := []) rfl rfl (by cases g1 <;> rfl) (fun h => by cases g1 <;> first | rfl | exact absurd h (by decide)) ?_
  refine AL.gv good (d := 13) (c := (!g1)) (v := .sl .ro 2 (enys a0.of)) (rd := [(0, .box 40 [.int .i64 a0.kind, .sl .ro 2 (enys a0.of)])]) rfl rfl (by cases g1 <;> rfl) (fun h => by cases g1 <;> first | rfl | exact absurd h (by decide)) ?_
  refine AL.gln good (d := 14) (c := (!g1)) (m := a0.of.length) rfl rfl (by cases g1 <;> rfl) rfl rfl (fun h => by cases g1 <;> first | rfl | exact absurd h (by decide)) (enys_length _) ?_
  refine AL.gv good (d := 15) (c := (!g1)) (v := .ptr 1 1) (rd := []) rfl rfl (by cases g1 <;> rfl) (fun h => by cases g1 <;> first | rfl | exact absurd h (by decide)) ?_
  refine AL.gv good (d := 16) (c := (!g1)) (v := .sl .ro 2 (enys a1.of)) (rd := [(1, .box 40 [.int .i64 a1.kind, .sl .ro 2 (enys a1.of)])]) rfl rfl (by cases g1 <;> rfl) (fun h => by cases g1 <;> first | rfl | exact absurd h (by decide)) ?_
  refine AL.gln good (d := 17) (c := (!g1)) (m := a1.of.length) rfl rfl (by cases g1 <;> rfl) rfl rfl (fun h => by cases g1 <;> first | rfl | exact absurd h (by decide)) (enys_length _) ?_
  refine AL.gv good (d := 18) (c := (!g1)) (v := .bool ((a0.of.length : Int) != (a1.of.length : Int))) (rd := []) rfl rfl (by cases g1 <;> rfl) (fun h => by cases g1 <;> first | rfl | exact absurd h (by decide)) ?_
  refine AL.v good (d := 19) (v := .bool (g1 || ((a0.of.length : Int) != (a1.of.length : Int)))) (rd := []) rfl rfl rfl (by cases g1 <;> rfl) ?_
  subst h2
  refine AW.if rfl (fun h3 => ?_) (fun h3 => ?_)
  ·replace hr := cnd_t h3 hr
   refine AW.seq ?_
   refine AW.rg ?_
   refine AL.v good (d := 4) (v := .bool false) rfl rfl rfl rfl ?_
   refine AW.ret ?_
   obtain rfl := Option.some.inj hr
   exact RetQ.w good (.inr rfl) rfl rfl (Wv.refl _) (by simp [pureA, pureL, pureR, inA, inL, inR, inO, idsIn, encs_pure, enys_pure, valC_pure, tyC_pure])
  ·replace hr := cnd_f h3 hr
   refine AW.skip ?_
   refine AW.seq ?_
   refine AW.seq ?_
   refine AW.rg ?_
   refine AL.v good (d := 5) (v := .int .i64 0) rfl rfl rfl rfl ?_
   refine AW.block ?_
   refine AW.lensB 0 rfl (fun hl14 => ?_)
   replace hl14 : a0.of.length ≤ 9223372036854775807 := by rw [← enys_length a0.of]; exact hl14.2.1
   refine AW.lpw (fun x : Nat × Nat => [(2, .ptr 0 0), (3, .ptr 1 0), (5, .int .i64 (x.2 : Int))]) (fun x => [(0, .box 40 [.int .i64 a0.kind, .sl .ro 2 (enys a0.of)]), (1, .box 40 [.int .i64 a1.kind, .sl .ro 2 (enys a1.of)])]) (fun x => s_f65_l1 x.1 a0 a1 x.2 = some r ∧ x.1 ≤ n) (fun x => x.1) (n, 0) ⟨(fun _ h => by cases h), fmc ⟨⟨⟨_, rfl, Wv.refl _⟩, (by simp [pureA, pureL, pureR, inA, inL, inR, inO, idsIn, encs_pure, enys_pure, valC_pure, tyC_pure])⟩, fmc ⟨⟨⟨_, rfl, Wv.refl _⟩, (by simp [pureA, pureL, pureR, inA, inL, inR, inO, idsIn, encs_pure, enys_pure, valC_pure, tyC_pure])⟩, fmc ⟨⟨⟨_, rfl, Wv.refl _⟩, (by simp [pureA, pureL, pureR, inA, inL, inR, inO, idsIn, encs_pure, enys_pure, valC_pure, tyC_pure])⟩, (fun _ h => by cases h)⟩⟩⟩, fmc ⟨⟨⟨_, rfl, ⟨rfl, ⟨Wv.refl _, Wv.refl _, trivial⟩⟩⟩, (by simp [pureA, pureL, pureR, inA, inL, inR, inO, idsIn, encs_pure, enys_pure, valC_pure, tyC_pure])⟩, fmc ⟨⟨⟨_, rfl, ⟨rfl, ⟨Wv.refl _, Wv.refl _, trivial⟩⟩⟩, (by simp [pureA, pureL, pureR, inA, inL, inR, inO, idsIn, encs_pure, enys_pure, valC_pure, tyC_pure])⟩, (fun _ h => by cases h)⟩⟩⟩ ⟨hr, Nat.le_refl _⟩ (fun ⟨m, v1_1⟩ hx => ?_)
   obtain ⟨hr, hm⟩ := hx
   try dsimp only at hr hm
   cases m with
   | zero => rw [s_f65_l1] at hr; cases hr
   | succ m =>
    rw [s_f65_l1] at hr
    show AW Try.prog _ _ _ (mkS 39 [(2, .ptr 0 0), (3, .ptr 1 0), (5, .int .i64 (v1_1 : Int))] [(0, .box 40 [.int .i64 a0.kind, .sl .ro 2 (enys a0.of)]), (1, .box 40 [.int .i64 a1.kind, .sl .ro 2 (enys a1.of)])])
    refine AW.seq ?_
    refine AW.seq ?_
    refine AW.rg ?_
    refine AL.v good (d := 20) (v := .int .i64 (v1_1 : Int)) rfl rfl rfl rfl ?_
    refine AL.v good (d := 21) (v := .ptr 0 1) rfl rfl rfl rfl ?_
    refine AL.v good (d := 22) (v := .sl .ro 2 (enys a0.of)) rfl rfl rfl rfl ?_
    refine AL.ln good (d := 23) (m := a0.of.length) rfl rfl rfl rfl rfl rfl (enys_length _) ?_
    refine AL.v good (d := 24) (v := .bool (decide ((v1_1 : Int) < (a0.of.length : Int)))) rfl rfl rfl rfl ?_
    refine AW.if rfl (fun h15 => ?_) (fun h15 => ?_)
    ·replace hr := cnd_t h15 hr
     refine AW.skip ?_
     refine AW.seq ?_
     refine AW.block ?_
     refine AW.seq ?_
     refine AW.draw (M := fun i => false) good.wide (by kernel_rfl) ?_
     refine AL.v good (d := 27) (v := .ptr 0 1) rfl rfl rfl rfl ?_
     refine AL.v good (d := 28) (v := .sl .ro 2 (enys a0.of)) rfl rfl rfl rfl ?_
     refine AL.v good (d := 29) (v := .int .i64 (v1_1 : Int)) rfl rfl rfl rfl ?_
     obtain ⟨x16, h17, hr⟩ := bnd1 hr
     refine AL.ix good (d := 30) (r := [.int .i64 x16.kind, .sl .ro 2 (enys x16.of)]) rfl rfl rfl rfl rfl rfl rfl (Int.natCast_nonneg _) (enys_get h17) ?_
     refine AL.v good (d := 31) (v := .agg [.int .i64 x16.kind, .sl .ro 2 (enys x16.of)]) rfl rfl rfl rfl ?_
     refine AL.v good (d := 32) (v := .ptr 1 1) rfl rfl rfl rfl ?_
     refine AL.v good (d := 33) (v := .sl .ro 2 (enys a1.of)) rfl rfl rfl rfl ?_
     refine AL.v good (d := 34) (v := .int .i64 (v1_1 : Int)) rfl rfl rfl rfl ?_
     obtain ⟨x18, h19, hr⟩ := bnd1 hr
     refine AL.ix good (d := 35) (r := [.int .i64 x18.kind, .sl .ro 2 (enys x18.of)]) rfl rfl rfl rfl rfl rfl rfl (Int.natCast_nonneg _) (enys_get h19) ?_
     refine AL.v good (d := 36) (v := .agg [.int .i64 x18.kind, .sl .ro 2 (enys x18.of)]) rfl rfl rfl rfl ?_
     obtain ⟨q20, h21, hr⟩ := bnd1 hr
     refine AL.cw good (d := 37) (xs := [.agg (tyC x16), .agg (tyC x18)]) (res := .bool q20) rfl rfl rfl rfl rfl rfl rfl (ih _ _ _ _ h21 (by omega)) ⟨(Wv.refl _), (Wv.refl _), trivial⟩ (by simp [pureA, pureL, pureR, inA, inL, inR, inO, idsIn, encs_pure, enys_pure, valC_pure, tyC_pure]) ?_
     refine AL.v good (d := 38) (v := .bool (!q20)) rfl rfl rfl rfl ?_
     refine AW.if rfl (fun h22 => ?_) (fun h22 => ?_)
     ·replace hr := cnd_t h22 hr
      refine AW.seq ?_
      refine AW.rg ?_
      refine AL.v good (d := 4) (v := .bool false) rfl rfl rfl rfl ?_
      refine AW.ret ?_
      obtain rfl := Option.some.inj hr
      exact RetQ.w good (.inr rfl) rfl rfl (Wv.refl _) (by simp [pureA, pureL, pureR, inA, inL, inR, inO, idsIn, encs_pure, enys_pure, valC_pure, tyC_pure])
     ·replace hr := cnd_f h22 hr
      refine AW.skip ?_
      refine AW.rg ?_
      refine AL.v good (d := 25) (v := .int .i64 (v1_1 : Int)) rfl rfl rfl rfl ?_
      refine AL.v good (d := 26) (v := .int .i64 (IntKind.i64.wrap ((v1_1 : Int) + 1))) rfl rfl rfl rfl ?_
      refine AL.v good (d := 5) (v := .int .i64 (IntKind.i64.wrap ((v1_1 : Int) + 1))) rfl rfl rfl rfl ?_
      exact ⟨(m, (v1_1 + 1)), _, _, rfl, ⟨(fun _ h => by cases h), fmc ⟨⟨⟨_, rfl, Wv.refl _⟩, (by simp [pureA, pureL, pureR, inA, inL, inR, inO, idsIn, encs_pure, enys_pure, valC_pure, tyC_pure])⟩, fmc ⟨⟨⟨_, rfl, Wv.refl _⟩, (by simp [pureA, pureL, pureR, inA, inL, inR, inO, idsIn, encs_pure, enys_pure, valC_pure, tyC_pure])⟩, fmc ⟨⟨⟨_, rfl, (wnx h15 hl14)⟩, (by simp [pureA, pureL, pureR, inA, inL, inR, inO, idsIn, encs_pure, enys_pure, valC_pure, tyC_pure])⟩, (fun _ h => by cases h)⟩⟩⟩, fmc ⟨⟨⟨_, rfl, ⟨rfl, ⟨Wv.refl _, Wv.refl _, trivial⟩⟩⟩, (by simp [pureA, pureL, pureR, inA, inL, inR, inO, idsIn, encs_pure, enys_pure, valC_pure, tyC_pure])⟩, fmc ⟨⟨⟨_, rfl, ⟨rfl, ⟨Wv.refl _, Wv.refl _, trivial⟩⟩⟩, (by simp [pureA, pureL, pureR, inA, inL, inR, inO, idsIn, encs_pure, enys_pure, valC_pure, tyC_pure])⟩, (fun _ h => by cases h)⟩⟩⟩, ⟨hr, Nat.le_of_succ_le hm⟩, Nat.lt_succ_self _⟩
    ·replace hr := cnd_f h15 hr
     refine AW.exit ?_
     refine AW.seq ?_
     refine AW.rg ?_
     refine AL.v good (d := 4) (v := .bool true) rfl rfl rfl rfl ?_
     refine AW.ret ?_
     obtain rfl := Option.some.inj hr
     exact RetQ.w good (.inr rfl) rfl rfl (Wv.refl _) (by simp [pureA, pureL, pureR, inA, inL, inR, inO, idsIn, encs_pure, enys_pure, valC_pure, tyC_pure])
theorem w_f65 (n : Nat) : ∀ (a0 : Ty) (a1 : Ty) (r : Bool) (hr : s_f65 n a0 a1 = some r), ACall Try.prog 65 [.agg (tyC a0), .agg (tyC a1)] (.bool r) := by
 induction n using Nat.strongRecOn with
 | _ n ih =>
  intro a0 a1 r hr
  exact w_f65_a n (fun m a0 a1 r h hm => ih m hm a0 a1 r h) a0 a1 r hr

mutual
def s_f94_l1 : Nat → (List Ty) → Nat → Option (Ty × Int)
  | 0, _, _ => none
  | n + 1, a2, v1_1 => (bif (decide ((v1_1 : Int) < (a2.length : Int))) then ((a2[v1_1]?).bind fun x55 => (bif (x55.kind != 1) then some ((Ty.mk 0 []), 5) else (s_f94_l1 n a2 (v1_1 + 1)))) else some ((Ty.mk 1 []), 0))
def s_f94_l7 : Nat → (List Ty) → Nat → Option (Ty × Int)
  | 0, _, _ => none
  | n + 1, a2, v7_1 => (bif (decide ((v7_1 : Int) < (a2.length : Int))) then ((a2[v7_1]?).bind fun x121 => (bif (x121.kind != 2) then some ((Ty.mk 0 []), 5) else (s_f94_l7 n a2 (v7_1 + 1)))) else some ((Ty.mk 2 []), 0))
def s_f94_l10 : Nat → (List Ty) → Nat → Option (Ty × Int)
  | 0, _, _ => none
  | n + 1, a2, v10_1 => (bif (decide ((v10_1 : Int) < (a2.length : Int))) then ((a2[v10_1]?).bind fun x154 => (bif (x154.kind != 3) then some ((Ty.mk 0 []), 5) else (s_f94_l10 n a2 (v10_1 + 1)))) else some ((Ty.mk 3 []), 0))
def s_f94_l11 : Nat → (List Ty) → Nat → Option (Ty × Int)
  | 0, _, _ => none
  | n + 1, a2, v11_1 => (bif (decide ((v11_1 : Int) < (a2.length : Int))) then ((a2[v11_1]?).bind fun x165 => (bif (x165.kind != 3) then some ((Ty.mk 0 []), 5) else (s_f94_l11 n a2 (v11_1 + 1)))) else some ((Ty.mk 1 []), 0))
def s_f94_l12 : Nat → (List Ty) → Nat → Option (Ty × Int)
  | 0, _, _ => none
  | n + 1, a2, v12_1 => (bif (decide ((v12_1 : Int) < (a2.length : Int))) then ((a2[v12_1]?).bind fun x175 => (bif (x175.kind != 0) then some ((Ty.mk 0 []), 5) else (s_f94_l12 n a2 (v12_1 + 1)))) else some ((Ty.mk 0 []), 0))
end
def s_f94 (n : Nat) (a0 : ByteArray) (a1 : Int) (a2 : List Ty) : Option (Ty × Int) :=
  (bif (a0.data.toList == [97, 116]) then ((a2[0]?).bind fun x2 => (bif (x2.kind != 4) then some ((Ty.mk 0 []), 5) else (bif (decide (a1 < 0)) then some ((Ty.mk 0 []), 1) else ((a2[0]?).bind fun x6 => (bif (decide (a1 ≥ (x6.of.length : Int))) then some ((Ty.mk 0 []), 1) else ((a2[0]?).bind fun x9 => (if 0 ≤ a1 then ((x9.of[a1.toNat]?).bind fun x11 => some (x11, 0)) else none))))))) else (bif (a0.data.toList == [116, 117, 112]) then ((s_f56 n (Ty.mk 4 a2)).bind fun q15 => (bif (q15 != 0) then some ((Ty.mk 0 []), 9) else some ((Ty.mk 4 a2), 0))) else (bif (a0.data.toList == [101, 113]) then ((a2[0]?).bind fun x19 => ((a2[1]?).bind fun x21 => ((s_f65 n x19 x21).bind fun q23 => (bif (!q23) then some ((Ty.mk 0 []), 5) else some ((Ty.mk 2 []), 0))))) else (bif (a0.data.toList == [108, 116]) then ((a2[0]?).bind fun x27 => ((a2[1]?).bind fun x29 => ((s_f65 n x27 x29).bind fun q31 => (bif (!q31) then some ((Ty.mk 0 []), 5) else some ((Ty.mk 2 []), 0))))) else (bif (a0.data.toList == [105, 102]) then ((a2[0]?).bind fun x35 => (bif (x35.kind != 2) then some ((Ty.mk 0 []), 5) else ((a2[1]?).bind fun x38 => ((a2[2]?).bind fun x40 => ((s_f65 n x38 x40).bind fun q42 => (bif (!q42) then some ((Ty.mk 0 []), 5) else ((a2[1]?).bind fun x45 => some (x45, 0)))))))) else (bif (a0.data.toList == [110, 101, 103]) then (s_f94_l1 n a2 0) else (bif (a0.data.toList == [97, 100, 100]) then (s_f94_l1 n a2 0) else (bif (a0.data.toList == [115, 117, 98]) then (s_f94_l1 n a2 0) else (bif (a0.data.toList == [109, 117, 108]) then (s_f94_l1 n a2 0) else (bif (a0.data.toList == [100, 105, 118]) then (s_f94_l1 n a2 0) else (bif (a0.data.toList == [114, 101, 109]) then (s_f94_l1 n a2 0) else (bif (a0.data.toList == [110, 111, 116]) then (s_f94_l7 n a2 0) else (bif (a0.data.toList == [97, 110, 100]) then (s_f94_l7 n a2 0) else (bif (a0.data.toList == [111, 114]) then (s_f94_l7 n a2 0) else (bif (a0.data.toList == [99, 97, 116]) then (s_f94_l10 n a2 0) else (bif (a0.data.toList == [108, 101, 110]) then (s_f94_l11 n a2 0) else (s_f94_l12 n a2 0)))))))))))))))))

theorem w_f94 (n : Nat) (a0 : ByteArray) (a1 : Int) (a2 : List Ty) (r : Ty × Int) (hr : s_f94 n a0 a1 a2 = some r) : ACall Try.prog 94 [.str a0, .int .i64 a1, .sl .ro 2 (enys a2)] (.tup [.agg (tyC r.1), .int .i64 r.2]) := by
 refine ACall.go [(0, .str a0), (1, .int .i64 a1), (2, .sl .ro 2 (enys a2))] Try.func94 rfl Try.ntmps94 rfl rfl (by simp [pureA, pureL, pureR, inA, inL, inR, inO, idsIn, encs_pure, enys_pure, valC_pure, tyC_pure]) ?_
 rw [s_f94] at hr
 refine AW.seq ?_
 refine AW.rg ?_
 refine AL.alc good (d := 6) rfl rfl rfl rfl rfl 0 rfl ?_
 refine AL.v good (d := 7) (v := .int .i64 0) rfl rfl rfl rfl ?_
 refine AW.seq ?_
 refine AW.rg ?_
 refine AL.v good (d := 8) (v := .int .i64 0) rfl rfl rfl rfl ?_
 refine AW.seq ?_
 refine AW.rg ?_
 refine AL.v good (d := 9) (v := .int .i64 0) rfl rfl rfl rfl ?_
 refine AW.seq ?_
 refine AW.seq ?_
 refine AW.rg ?_
 refine AL.v good (d := 12) (v := .str a0) rfl rfl rfl rfl ?_
 refine AW.block ?_
 refine AW.seq ?_
 refine AW.rg ?_
 refine AL.sb good (d := 14) (b := (a0.data.toList == [97, 116])) rfl rfl rfl rfl rfl rfl rfl ?_
 refine AL.v good (d := 13) (v := .bool (a0.data.toList == [97, 116])) rfl rfl rfl rfl ?_
 refine AW.if rfl (fun h1 => ?_) (fun h1 => ?_)
 ·replace hr := cnd_t h1 hr
  refine AW.seq ?_
  refine AW.seq ?_
  refine AW.rg ?_
  refine AL.v good (d := 15) (v := .sl .ro 2 (enys a2)) rfl rfl rfl rfl ?_
  obtain ⟨x2, h3, hr⟩ := bnd1 hr
  refine AL.ix good (d := 16) (r := [.int .i64 x2.kind, .sl .ro 2 (enys x2.of)]) rfl rfl rfl rfl rfl rfl rfl (by decide) (enys_get h3) ?_
  refine AL.v good (d := 17) (v := .ep [.int .i64 x2.kind, .sl .ro 2 (enys x2.of)]) rfl rfl rfl rfl ?_
  refine AL.v good (d := 18) (v := .int .i64 x2.kind) rfl rfl rfl rfl ?_
  refine AL.v good (d := 19) (v := .bool (x2.kind != 4)) rfl rfl rfl rfl ?_
  refine AW.if rfl (fun h4 => ?_) (fun h4 => ?_)
  ·replace hr := cnd_t h4 hr
   refine AW.seq ?_
   refine AW.rg ?_
   refine AL.bld good (d := 20) (l := [.int .i64 0, .sl .nil 0 []]) rfl rfl rfl rfl rfl rfl rfl ?_
   refine AL.st2 good (c2 := [.int .i64 0, .sl .nil 0 []]) rfl rfl rfl rfl rfl rfl rfl rfl rfl rfl rfl rfl ?_
   refine AL.v good (d := 7) (v := .int .i64 5) rfl rfl rfl rfl ?_
   refine AW.ret ?_
   obtain rfl := Option.some.inj hr
   exact RetQ.w good (.inr rfl) rfl rfl ⟨⟨Wv.refl _, ⟨.inr rfl, trivial, .inr rfl⟩, trivial⟩, Wv.refl _, trivial⟩ (by simp [pureA, pureL, pureR, inA, inL, inR, inO, idsIn, encs_pure, enys_pure, valC_pure, tyC_pure])
  ·replace hr := cnd_f h4 hr
   refine AW.skip ?_
   refine AW.seq ?_
   refine AW.seq ?_
   refine AW.rg ?_
   refine AL.v good (d := 21) (v := .int .i64 a1) rfl rfl rfl rfl ?_
   refine AL.v good (d := 22) (v := .bool (decide (a1 < 0))) rfl rfl rfl rfl ?_
   refine AL.v good (d := 23) (v := .bool (decide (a1 < 0))) rfl rfl rfl rfl ?_
   refine AL.cs 23 rfl (fun h5 => ?_) (fun h5 => ?_)
   ·replace hr := cnd_t h5 hr
    refine AL.sk good (d := 24) rfl rfl rfl ?_
    refine AL.sk good (d := 25) rfl rfl rfl ?_
    refine AL.sk good (d := 26) rfl rfl rfl ?_
    refine AL.sk good (d := 27) rfl rfl rfl ?_
    refine AL.sk good (d := 28) rfl rfl rfl ?_
    refine AL.sk good (d := 29) rfl rfl rfl ?_
    refine AL.sk good (d := 30) rfl rfl rfl ?_
    refine AL.v good (d := 31) (v := .bool true) rfl rfl rfl rfl ?_
    refine AW.if rfl (fun h => ?_) (fun h => by cases h)
    refine AW.seq ?_
    refine AW.rg ?_
    refine AL.bld good (d := 32) (l := [.int .i64 0, .sl .nil 0 []]) rfl rfl rfl rfl rfl rfl rfl ?_
    refine AL.st2 good (c2 := [.int .i64 0, .sl .nil 0 []]) rfl rfl rfl rfl rfl rfl rfl rfl rfl rfl rfl rfl ?_
    refine AL.v good (d := 7) (v := .int .i64 1) rfl rfl rfl rfl ?_
    refine AW.ret ?_
    obtain rfl := Option.some.inj hr
    exact RetQ.w good (.inr rfl) rfl rfl ⟨⟨Wv.refl _, ⟨.inr rfl, trivial, .inr rfl⟩, trivial⟩, Wv.refl _, trivial⟩ (by simp [pureA, pureL, pureR, inA, inL, inR, inO, idsIn, encs_pure, enys_pure, valC_pure, tyC_pure])
   ·replace hr := cnd_f h5 hr
    refine AL.v good (d := 24) (v := .int .i64 a1) rfl rfl rfl rfl ?_
    refine AL.v good (d := 25) (v := .sl .ro 2 (enys a2)) rfl rfl rfl rfl ?_
    obtain ⟨x6, h7, hr⟩ := bnd1 hr
    refine AL.ix good (d := 26) (r := [.int .i64 x6.kind, .sl .ro 2 (enys x6.of)]) rfl rfl rfl rfl rfl rfl rfl (by decide) (enys_get h7) ?_
    refine AL.v good (d := 27) (v := .ep [.sl .ro 2 (enys x6.of)]) rfl rfl rfl rfl ?_
    refine AL.v good (d := 28) (v := .sl .ro 2 (enys x6.of)) rfl rfl rfl rfl ?_
    refine AL.ln good (d := 29) (m := x6.of.length) rfl rfl rfl rfl rfl rfl (enys_length _) ?_
    refine AL.v good (d := 30) (v := .bool (decide (a1 ≥ (x6.of.length : Int)))) rfl rfl rfl rfl ?_
    refine AL.v good (d := 31) (v := .bool (decide (a1 ≥ (x6.of.length : Int)))) rfl rfl rfl rfl ?_
    refine AW.if rfl (fun h8 => ?_) (fun h8 => ?_)
    ·replace hr := cnd_t h8 hr
     refine AW.seq ?_
     refine AW.rg ?_
     refine AL.bld good (d := 32) (l := [.int .i64 0, .sl .nil 0 []]) rfl rfl rfl rfl rfl rfl rfl ?_
     refine AL.st2 good (c2 := [.int .i64 0, .sl .nil 0 []]) rfl rfl rfl rfl rfl rfl rfl rfl rfl rfl rfl rfl ?_
     refine AL.v good (d := 7) (v := .int .i64 1) rfl rfl rfl rfl ?_
     refine AW.ret ?_
     obtain rfl := Option.some.inj hr
     exact RetQ.w good (.inr rfl) rfl rfl ⟨⟨Wv.refl _, ⟨.inr rfl, trivial, .inr rfl⟩, trivial⟩, Wv.refl _, trivial⟩ (by simp [pureA, pureL, pureR, inA, inL, inR, inO, idsIn, encs_pure, enys_pure, valC_pure, tyC_pure])
    ·replace hr := cnd_f h8 hr
     refine AW.skip ?_
     refine AW.seq ?_
     refine AW.rg ?_
     refine AL.v good (d := 33) (v := .sl .ro 2 (enys a2)) rfl rfl rfl rfl ?_
     obtain ⟨x9, h10, hr⟩ := bnd1 hr
     refine AL.ix good (d := 34) (r := [.int .i64 x9.kind, .sl .ro 2 (enys x9.of)]) rfl rfl rfl rfl rfl rfl rfl (by decide) (enys_get h10) ?_
     refine AL.v good (d := 35) (v := .ep [.sl .ro 2 (enys x9.of)]) rfl rfl rfl rfl ?_
     refine AL.v good (d := 36) (v := .sl .ro 2 (enys x9.of)) rfl rfl rfl rfl ?_
     refine AL.v good (d := 37) (v := .int .i64 a1) rfl rfl rfl rfl ?_
     obtain ⟨h13, hr⟩ := grd hr
     obtain ⟨x11, h12, hr⟩ := bnd1 hr
     refine AL.ix good (d := 38) (r := [.int .i64 x11.kind, .sl .ro 2 (enys x11.of)]) rfl rfl rfl rfl rfl rfl rfl h13 (enys_get h12) ?_
     refine AL.v good (d := 39) (v := .agg [.int .i64 x11.kind, .sl .ro 2 (enys x11.of)]) rfl rfl rfl rfl ?_
     refine AL.st2 good (c2 := [.int .i64 x11.kind, .sl .ro 2 (enys x11.of)]) rfl rfl rfl rfl rfl rfl rfl rfl rfl rfl rfl rfl ?_
     refine AL.v good (d := 7) (v := .int .i64 0) rfl rfl rfl rfl ?_
     refine AW.ret ?_
     obtain rfl := Option.some.inj hr
     exact RetQ.w good (.inr rfl) rfl rfl (Wv.refl _) (by simp [pureA, pureL, pureR, inA, inL, inR, inO, idsIn, encs_pure, enys_pure, valC_pure, tyC_pure])
 ·replace hr := cnd_f h1 hr
  refine AW.seq ?_
  refine AW.rg ?_
  refine AL.sb good (d := 41) (b := (a0.data.toList == [116, 117, 112])) rfl rfl rfl rfl rfl rfl rfl ?_
  refine AL.v good (d := 40) (v := .bool (a0.data.toList == [116, 117, 112])) rfl rfl rfl rfl ?_
  refine AW.if rfl (fun h14 => ?_) (fun h14 => ?_)
  ·replace hr := cnd_t h14 hr
   refine AW.seq ?_
   refine AW.rg ?_
   refine AL.v good (d := 42) (v := .sl .ro 2 (enys a2)) rfl rfl rfl rfl ?_
   refine AL.bld good (d := 43) (l := [.int .i64 4, .sl .ro 2 (enys a2)]) rfl rfl rfl rfl rfl rfl rfl ?_
   refine AL.alc good (d := 10) rfl rfl rfl rfl rfl 1 rfl ?_
   refine AL.st2 good (c2 := [.int .i64 4, .sl .ro 2 (enys a2)]) rfl rfl rfl rfl rfl rfl rfl rfl rfl rfl rfl rfl ?_
   refine AW.seq ?_
   refine AW.seq ?_
   refine AW.rg ?_
   refine AL.v good (d := 44) (v := .agg [.int .i64 4, .sl .ro 2 (enys a2)]) rfl rfl rfl rfl ?_
   obtain ⟨q15, h16, hr⟩ := bnd1 hr
   refine AL.cw good (d := 45) (xs := [.agg (tyC (Ty.mk 4 a2))]) (res := .int .i64 q15) rfl rfl rfl rfl rfl rfl rfl (w_f56 _ _ _ h16) ⟨(Wv.refl _), trivial⟩ (by simp [pureA, pureL, pureR, inA, inL, inR, inO, idsIn, encs_pure, enys_pure, valC_pure, tyC_pure]) ?_
   refine AL.v good (d := 46) (v := .bool (q15 != 0)) rfl rfl rfl rfl ?_
   refine AW.if rfl (fun h17 => ?_) (fun h17 => ?_)
   ·replace hr := cnd_t h17 hr
    refine AW.seq ?_
    refine AW.rg ?_
    refine AL.bld good (d := 47) (l := [.int .i64 0, .sl .nil 0 []]) rfl rfl rfl rfl rfl rfl rfl ?_
    refine AL.st2 good (c2 := [.int .i64 0, .sl .nil 0 []]) rfl rfl rfl rfl rfl rfl rfl rfl rfl rfl rfl rfl ?_
    refine AL.v good (d := 7) (v := .int .i64 9) rfl rfl rfl rfl ?_
    refine AW.ret ?_
    obtain rfl := Option.some.inj hr
    exact RetQ.w good (.inr rfl) rfl rfl ⟨⟨Wv.refl _, ⟨.inr rfl, trivial, .inr rfl⟩, trivial⟩, Wv.refl _, trivial⟩ (by simp [pureA, pureL, pureR, inA, inL, inR, inO, idsIn, encs_pure, enys_pure, valC_pure, tyC_pure])
   ·replace hr := cnd_f h17 hr
    refine AW.skip ?_
    refine AW.seq ?_
    refine AW.rg ?_
    refine AL.v good (d := 48) (v := .agg [.int .i64 4, .sl .ro 2 (enys a2)]) rfl rfl rfl rfl ?_
    refine AL.st2 good (c2 := [.int .i64 4, .sl .ro 2 (enys a2)]) rfl rfl rfl rfl rfl rfl rfl rfl rfl rfl rfl rfl ?_
    refine AL.v good (d := 7) (v := .int .i64 0) rfl rfl rfl rfl ?_
    refine AW.ret ?_
    obtain rfl := Option.some.inj hr
    exact RetQ.w good (.inr rfl) rfl rfl (Wv.refl _) (by simp [pureA, pureL, pureR, inA, inL, inR, inO, idsIn, encs_pure, enys_pure, valC_pure, tyC_pure])
  ·replace hr := cnd_f h14 hr
   refine AW.seq ?_
   refine AW.seq ?_
   refine AW.rg ?_
   refine AL.sb good (d := 50) (b := (a0.data.toList == [101, 113])) rfl rfl rfl rfl rfl rfl rfl ?_
   refine AL.v good (d := 49) (v := .bool (a0.data.toList == [101, 113])) rfl rfl rfl rfl ?_
   refine AW.if rfl (fun h18 => ?_) (fun h18 => ?_)
   ·replace hr := cnd_t h18 hr
    refine AW.skip ?_
    refine AW.if rfl (fun h => ?_) (fun h => by cases h18.symm.trans h)
    refine AW.seq ?_
    refine AW.seq ?_
    refine AW.draw (M := fun i => false) good.wide (by kernel_rfl) ?_
    refine AL.v good (d := 52) (v := .sl .ro 2 (enys a2)) rfl rfl rfl rfl ?_
    obtain ⟨x19, h20, hr⟩ := bnd1 hr
    refine AL.ix good (d := 53) (r := [.int .i64 x19.kind, .sl .ro 2 (enys x19.of)]) rfl rfl rfl rfl rfl rfl rfl (by decide) (enys_get h20) ?_
    refine AL.v good (d := 54) (v := .agg [.int .i64 x19.kind, .sl .ro 2 (enys x19.of)]) rfl rfl rfl rfl ?_
    refine AL.v good (d := 55) (v := .sl .ro 2 (enys a2)) rfl rfl rfl rfl ?_
    obtain ⟨x21, h22, hr⟩ := bnd1 hr
    refine AL.ix good (d := 56) (r := [.int .i64 x21.kind, .sl .ro 2 (enys x21.of)]) rfl rfl rfl rfl rfl rfl rfl (by decide) (enys_get h22) ?_
    refine AL.v good (d := 57) (v := .agg [.int .i64 x21.kind, .sl .ro 2 (enys x21.of)]) rfl rfl rfl rfl ?_
    obtain ⟨q23, h24, hr⟩ := bnd1 hr
    refine AL.cw good (d := 58) (xs := [.agg (tyC x19), .agg (tyC x21)]) (res := .bool q23) rfl rfl rfl rfl rfl rfl rfl (w_f65 _ _ _ _ h24) ⟨(Wv.refl _), (Wv.refl _), trivial⟩ (by simp [pureA, pureL, pureR, inA, inL, inR, inO, idsIn, encs_pure, enys_pure, valC_pure, tyC_pure]) ?_
    refine AL.v good (d := 59) (v := .bool (!q23)) rfl rfl rfl rfl ?_
    refine AW.if rfl (fun h25 => ?_) (fun h25 => ?_)
    ·replace hr := cnd_t h25 hr
     refine AW.seq ?_
     refine AW.rg ?_
     refine AL.bld good (d := 60) (l := [.int .i64 0, .sl .nil 0 []]) rfl rfl rfl rfl rfl rfl rfl ?_
     refine AL.st2 good (c2 := [.int .i64 0, .sl .nil 0 []]) rfl rfl rfl rfl rfl rfl rfl rfl rfl rfl rfl rfl ?_
     refine AL.v good (d := 7) (v := .int .i64 5) rfl rfl rfl rfl ?_
     refine AW.ret ?_
     obtain rfl := Option.some.inj hr
     exact RetQ.w good (.inr rfl) rfl rfl ⟨⟨Wv.refl _, ⟨.inr rfl, trivial, .inr rfl⟩, trivial⟩, Wv.refl _, trivial⟩ (by simp [pureA, pureL, pureR, inA, inL, inR, inO, idsIn, encs_pure, enys_pure, valC_pure, tyC_pure])
    ·replace hr := cnd_f h25 hr
     refine AW.skip ?_
     refine AW.seq ?_
     refine AW.rg ?_
     refine AL.cw good (d := 61) (xs := [.int .i64 2]) (res := .agg [.int .i64 2, .sl .ro 2 (enys [])]) rfl rfl rfl rfl rfl rfl rfl (w_f121 2) ⟨(Wv.refl _), trivial⟩ (by simp [pureA, pureL, pureR, inA, inL, inR, inO, idsIn, encs_pure, enys_pure, valC_pure, tyC_pure]) ?_
     refine AL.st2 good (c2 := [.int .i64 2, .sl .ro 2 (enys [])]) rfl rfl rfl rfl rfl rfl rfl rfl rfl rfl rfl rfl ?_
     refine AL.v good (d := 7) (v := .int .i64 0) rfl rfl rfl rfl ?_
     refine AW.ret ?_
     obtain rfl := Option.some.inj hr
     exact RetQ.w good (.inr rfl) rfl rfl (Wv.refl _) (by simp [pureA, pureL, pureR, inA, inL, inR, inO, idsIn, encs_pure, enys_pure, valC_pure, tyC_pure])
   ·replace hr := cnd_f h18 hr
    refine AW.rg ?_
    refine AL.sb good (d := 51) (b := (a0.data.toList == [108, 116])) rfl rfl rfl rfl rfl rfl rfl ?_
    refine AL.v good (d := 49) (v := .bool (a0.data.toList == [108, 116])) rfl rfl rfl rfl ?_
    refine AW.if rfl (fun h26 => ?_) (fun h26 => ?_)
    ·replace hr := cnd_t h26 hr
     refine AW.seq ?_
     refine AW.seq ?_
     refine AW.draw (M := fun i => false) good.wide (by kernel_rfl) ?_
     refine AL.v good (d := 52) (v := .sl .ro 2 (enys a2)) rfl rfl rfl rfl ?_
     obtain ⟨x27, h28, hr⟩ := bnd1 hr
     refine AL.ix good (d := 53) (r := [.int .i64 x27.kind, .sl .ro 2 (enys x27.of)]) rfl rfl rfl rfl rfl rfl rfl (by decide) (enys_get h28) ?_
     refine AL.v good (d := 54) (v := .agg [.int .i64 x27.kind, .sl .ro 2 (enys x27.of)]) rfl rfl rfl rfl ?_
     refine AL.v good (d := 55) (v := .sl .ro 2 (enys a2)) rfl rfl rfl rfl ?_
     obtain ⟨x29, h30, hr⟩ := bnd1 hr
     refine AL.ix good (d := 56) (r := [.int .i64 x29.kind, .sl .ro 2 (enys x29.of)]) rfl rfl rfl rfl rfl rfl rfl (by decide) (enys_get h30) ?_
     refine AL.v good (d := 57) (v := .agg [.int .i64 x29.kind, .sl .ro 2 (enys x29.of)]) rfl rfl rfl rfl ?_
     obtain ⟨q31, h32, hr⟩ := bnd1 hr
     refine AL.cw good (d := 58) (xs := [.agg (tyC x27), .agg (tyC x29)]) (res := .bool q31) rfl rfl rfl rfl rfl rfl rfl (w_f65 _ _ _ _ h32) ⟨(Wv.refl _), (Wv.refl _), trivial⟩ (by simp [pureA, pureL, pureR, inA, inL, inR, inO, idsIn, encs_pure, enys_pure, valC_pure, tyC_pure]) ?_
     refine AL.v good (d := 59) (v := .bool (!q31)) rfl rfl rfl rfl ?_
     refine AW.if rfl (fun h33 => ?_) (fun h33 => ?_)
     ·replace hr := cnd_t h33 hr
      refine AW.seq ?_
      refine AW.rg ?_
      refine AL.bld good (d := 60) (l := [.int .i64 0, .sl .nil 0 []]) rfl rfl rfl rfl rfl rfl rfl ?_
      refine AL.st2 good (c2 := [.int .i64 0, .sl .nil 0 []]) rfl rfl rfl rfl rfl rfl rfl rfl rfl rfl rfl rfl ?_
      refine AL.v good (d := 7) (v := .int .i64 5) rfl rfl rfl rfl ?_
      refine AW.ret ?_
      obtain rfl := Option.some.inj hr
      exact RetQ.w good (.inr rfl) rfl rfl ⟨⟨Wv.refl _, ⟨.inr rfl, trivial, .inr rfl⟩, trivial⟩, Wv.refl _, trivial⟩ (by simp [pureA, pureL, pureR, inA, inL, inR, inO, idsIn, encs_pure, enys_pure, valC_pure, tyC_pure])
     ·replace hr := cnd_f h33 hr
      refine AW.skip ?_
      refine AW.seq ?_
      refine AW.rg ?_
      refine AL.cw good (d := 61) (xs := [.int .i64 2]) (res := .agg [.int .i64 2, .sl .ro 2 (enys [])]) rfl rfl rfl rfl rfl rfl rfl (w_f121 2) ⟨(Wv.refl _), trivial⟩ (by simp [pureA, pureL, pureR, inA, inL, inR, inO, idsIn, encs_pure, enys_pure, valC_pure, tyC_pure]) ?_
      refine AL.st2 good (c2 := [.int .i64 2, .sl .ro 2 (enys [])]) rfl rfl rfl rfl rfl rfl rfl rfl rfl rfl rfl rfl ?_
      refine AL.v good (d := 7) (v := .int .i64 0) rfl rfl rfl rfl ?_
      refine AW.ret ?_
      obtain rfl := Option.some.inj hr
      exact RetQ.w good (.inr rfl) rfl rfl (Wv.refl _) (by simp [pureA, pureL, pureR, inA, inL, inR, inO, idsIn, encs_pure, enys_pure, valC_pure, tyC_pure])
    ·replace hr := cnd_f h26 hr
     refine AW.seq ?_
     refine AW.rg ?_
     refine AL.sb good (d := 63) (b := (a0.data.toList == [105, 102])) rfl rfl rfl rfl rfl rfl rfl ?_
     refine AL.v good (d := 62) (v := .bool (a0.data.toList == [105, 102])) rfl rfl rfl rfl ?_
     refine AW.if rfl (fun h34 => ?_) (fun h34 => ?_)
     ·replace hr := cnd_t h34 hr
      refine AW.seq ?_
      refine AW.seq ?_
      refine AW.draw (M := fun i => false) good.wide (by kernel_rfl) ?_
      refine AL.v good (d := 64) (v := .sl .ro 2 (enys a2)) rfl rfl rfl rfl ?_
      obtain ⟨x35, h36, hr⟩ := bnd1 hr
      refine AL.ix good (d := 65) (r := [.int .i64 x35.kind, .sl .ro 2 (enys x35.of)]) rfl rfl rfl rfl rfl rfl rfl (by decide) (enys_get h36) ?_
      refine AL.v good (d := 66) (v := .ep [.int .i64 x35.kind, .sl .ro 2 (enys x35.of)]) rfl rfl rfl rfl ?_
      refine AL.v good (d := 67) (v := .int .i64 x35.kind) rfl rfl rfl rfl ?_
      refine AL.v good (d := 68) (v := .bool (x35.kind != 2)) rfl rfl rfl rfl ?_
      refine AL.v good (d := 69) (v := .bool (x35.kind != 2)) rfl rfl rfl rfl ?_
      refine AL.cs 69 rfl (fun h37 => ?_) (fun h37 => ?_)
      ·replace hr := cnd_t h37 hr
       refine AL.sk good (d := 70) rfl rfl rfl ?_
       refine AL.sk good (d := 71) rfl rfl rfl ?_
       refine AL.sk good (d := 72) rfl rfl rfl ?_
       refine AL.sk good (d := 73) rfl rfl rfl ?_
       refine AL.sk good (d := 74) rfl rfl rfl ?_
       refine AL.sk good (d := 75) rfl rfl rfl ?_
       refine AL.sk good (d := 76) rfl rfl rfl ?_
       refine AL.sk good (d := 77) rfl rfl rfl ?_
       refine AL.v good (d := 78) (v := .bool true) rfl rfl rfl rfl ?_
       refine AW.if rfl (fun h => ?_) (fun h => by cases h)
       refine AW.seq ?_
       refine AW.rg ?_
       refine AL.bld good (d := 79) (l := [.int .i64 0, .sl .nil 0 []]) rfl rfl rfl rfl rfl rfl rfl ?_
       refine AL.st2 good (c2 := [.int .i64 0, .sl .nil 0 []]) rfl rfl rfl rfl rfl rfl rfl rfl rfl rfl rfl rfl ?_
       refine AL.v good (d := 7) (v := .int .i64 5) rfl rfl rfl rfl ?_
       refine AW.ret ?_
       obtain rfl := Option.some.inj hr
       exact RetQ.w good (.inr rfl) rfl rfl ⟨⟨Wv.refl _, ⟨.inr rfl, trivial, .inr rfl⟩, trivial⟩, Wv.refl _, trivial⟩ (by simp [pureA, pureL, pureR, inA, inL, inR, inO, idsIn, encs_pure, enys_pure, valC_pure, tyC_pure])
      ·replace hr := cnd_f h37 hr
       refine AL.v good (d := 70) (v := .sl .ro 2 (enys a2)) rfl rfl rfl rfl ?_
       obtain ⟨x38, h39, hr⟩ := bnd1 hr
       refine AL.ix good (d := 71) (r := [.int .i64 x38.kind, .sl .ro 2 (enys x38.of)]) rfl rfl rfl rfl rfl rfl rfl (by decide) (enys_get h39) ?_
       refine AL.v good (d := 72) (v := .agg [.int .i64 x38.kind, .sl .ro 2 (enys x38.of)]) rfl rfl rfl rfl ?_
       refine AL.v good (d := 73) (v := .sl .ro 2 (enys a2)) rfl rfl rfl rfl ?_
       obtain ⟨x40, h41, hr⟩ := bnd1 hr
       refine AL.ix good (d := 74) (r := [.int .i64 x40.kind, .sl .ro 2 (enys x40.of)]) rfl rfl rfl rfl rfl rfl rfl (by decide) (enys_get h41) ?_
       refine AL.v good (d := 75) (v := .agg [.int .i64 x40.kind, .sl .ro 2 (enys x40.of)]) rfl rfl rfl rfl ?_
       obtain ⟨q42, h43, hr⟩ := bnd1 hr
       refine AL.cw good (d := 76) (xs := [.agg (tyC x38), .agg (tyC x40)]) (res := .bool q42) rfl rfl rfl rfl rfl rfl rfl (w_f65 _ _ _ _ h43) ⟨(Wv.refl _), (Wv.refl _), trivial⟩ (by simp [pureA, pureL, pureR, inA, inL, inR, inO, idsIn, encs_pure, enys_pure, valC_pure, tyC_pure]) ?_
       refine AL.v good (d := 77) (v := .bool (!q42)) rfl rfl rfl rfl ?_
       refine AL.v good (d := 78) (v := .bool (!q42)) rfl rfl rfl rfl ?_
       refine AW.if rfl (fun h44 => ?_) (fun h44 => ?_)
       ·replace hr := cnd_t h44 hr
        refine AW.seq ?_
        refine AW.rg ?_
        refine AL.bld good (d := 79) (l := [.int .i64 0, .sl .nil 0 []]) rfl rfl rfl rfl rfl rfl rfl ?_
        refine AL.st2 good (c2 := [.int .i64 0, .sl .nil 0 []]) rfl rfl rfl rfl rfl rfl rfl rfl rfl rfl rfl rfl ?_
        refine AL.v good (d := 7) (v := .int .i64 5) rfl rfl rfl rfl ?_
        refine AW.ret ?_
        obtain rfl := Option.some.inj hr
        exact RetQ.w good (.inr rfl) rfl rfl ⟨⟨Wv.refl _, ⟨.inr rfl, trivial, .inr rfl⟩, trivial⟩, Wv.refl _, trivial⟩ (by simp [pureA, pureL, pureR, inA, inL, inR, inO, idsIn, encs_pure, enys_pure, valC_pure, tyC_pure])
       ·replace hr := cnd_f h44 hr
        refine AW.skip ?_
        refine AW.seq ?_
        refine AW.rg ?_
        refine AL.v good (d := 80) (v := .sl .ro 2 (enys a2)) rfl rfl rfl rfl ?_
        obtain ⟨x45, h46, hr⟩ := bnd1 hr
        refine AL.ix good (d := 81) (r := [.int .i64 x45.kind, .sl .ro 2 (enys x45.of)]) rfl rfl rfl rfl rfl rfl rfl (by decide) (enys_get h46) ?_
        refine AL.v good (d := 82) (v := .agg [.int .i64 x45.kind, .sl .ro 2 (enys x45.of)]) rfl rfl rfl rfl ?_
        refine AL.st2 good (c2 := [.int .i64 x45.kind, .sl .ro 2 (enys x45.of)]) rfl rfl rfl rfl rfl rfl rfl rfl rfl rfl rfl rfl ?_
        refine AL.v good (d := 7) (v := .int .i64 0) rfl rfl rfl rfl ?_
        refine AW.ret ?_
        obtain rfl := Option.some.inj hr
        exact RetQ.w good (.inr rfl) rfl rfl (Wv.refl _) (by simp [pureA, pureL, pureR, inA, inL, inR, inO, idsIn, encs_pure, enys_pure, valC_pure, tyC_pure])
     ·replace hr := cnd_f h34 hr
      refine AW.seq ?_
      refine AW.seq ?_
      refine AW.rg ?_
      refine AL.sb good (d := 84) (b := (a0.data.toList == [110, 101, 103])) rfl rfl rfl rfl rfl rfl rfl ?_
      refine AL.v good (d := 83) (v := .bool (a0.data.toList == [110, 101, 103])) rfl rfl rfl rfl ?_
      refine AW.if rfl (fun h47 => ?_) (fun h47 => ?_)
      ·replace hr := cnd_t h47 hr
       refine AW.skip ?_
       refine AW.if rfl (fun h => ?_) (fun h => by cases h47.symm.trans h)
       refine AW.seq ?_
       refine AW.rg ?_
       refine AL.v good (d := 8) (v := .int .i64 1) rfl rfl rfl rfl ?_
       refine AW.rg ?_
       refine AL.v good (d := 9) (v := .int .i64 1) rfl rfl rfl rfl ?_
       refine AW.seq ?_
       refine AW.seq ?_
       refine AW.rg ?_
       refine AL.v good (d := 11) (v := .int .i64 0) rfl rfl rfl rfl ?_
       refine AW.block ?_
       refine AW.lens 2 rfl (fun hl53 => ?_)
       replace hl53 : a2.length ≤ 9223372036854775807 := by rw [← enys_length a2]; exact hl53
       refine AW.lpw (fun x : Nat × Nat => [(2, .sl .ro 2 (enys a2)), (6, .ptr 0 0), (8, .int .i64 1), (9, .int .i64 1), (11, .int .i64 (x.2 : Int))]) (fun x => [(0, .box 40 [.int .i64 0, .sl .nil 0 []])]) (fun x => s_f94_l1 x.1 a2 x.2 = some r ∧ x.1 ≤ n) (fun x => x.1) (n, 0) ⟨(fun _ h => by cases h), fmc ⟨⟨⟨_, rfl, Wv.refl _⟩, (by simp [pureA, pureL, pureR, inA, inL, inR, inO, idsIn, encs_pure, enys_pure, valC_pure, tyC_pure])⟩, fmc ⟨⟨⟨_, rfl, Wv.refl _⟩, (by simp [pureA, pureL, pureR, inA, inL, inR, inO, idsIn, encs_pure, enys_pure, valC_pure, tyC_pure])⟩, fmc ⟨⟨⟨_, rfl, Wv.refl _⟩, (by simp [pureA, pureL, pureR, inA, inL, inR, inO, idsIn, encs_pure, enys_pure, valC_pure, tyC_pure])⟩, fmc ⟨⟨⟨_, rfl, Wv.refl _⟩, (by simp [pureA, pureL, pureR, inA, inL, inR, inO, idsIn, encs_pure, enys_pure, valC_pure, tyC_pure])⟩, fmc ⟨⟨⟨_, rfl, Wv.refl _⟩, (by simp [pureA, pureL, pureR, inA, inL, inR, inO, idsIn, encs_pure, enys_pure, valC_pure, tyC_pure])⟩, (fun _ h => by cases h)⟩⟩⟩⟩⟩, fmc ⟨⟨⟨_, rfl, ⟨rfl, ⟨Wv.refl _, Wv.refl _, trivial⟩⟩⟩, (by simp [pureA, pureL, pureR, inA, inL, inR, inO, idsIn, encs_pure, enys_pure, valC_pure, tyC_pure])⟩, (fun _ h => by cases h)⟩⟩ ⟨hr, Nat.le_refl _⟩ (fun ⟨m, v1_1⟩ hx => ?_)
       obtain ⟨hr, hm⟩ := hx
       try dsimp only at hr hm
       cases m with
       | zero => rw [s_f94_l1] at hr; cases hr
       | succ m =>
        rw [s_f94_l1] at hr
        show AW Try.prog _ _ _ (mkS 114 [(2, .sl .ro 2 (enys a2)), (6, .ptr 0 0), (8, .int .i64 1), (9, .int .i64 1), (11, .int .i64 (v1_1 : Int))] [(0, .box 40 [.int .i64 0, .sl .nil 0 []])])
        refine AW.seq ?_
        refine AW.seq ?_
        refine AW.rg ?_
        refine AL.v good (d := 98) (v := .int .i64 (v1_1 : Int)) rfl rfl rfl rfl ?_
        refine AL.v good (d := 99) (v := .sl .ro 2 (enys a2)) rfl rfl rfl rfl ?_
        refine AL.ln good (d := 100) (m := a2.length) rfl rfl rfl rfl rfl rfl (enys_length _) ?_
        refine AL.v good (d := 101) (v := .bool (decide ((v1_1 : Int) < (a2.length : Int)))) rfl rfl rfl rfl ?_
        refine AW.if rfl (fun h54 => ?_) (fun h54 => ?_)
        ·replace hr := cnd_t h54 hr
         refine AW.skip ?_
         refine AW.seq ?_
         refine AW.block ?_
         refine AW.seq ?_
         refine AW.rg ?_
         refine AL.v good (d := 104) (v := .sl .ro 2 (enys a2)) rfl rfl rfl rfl ?_
         refine AL.v good (d := 105) (v := .int .i64 (v1_1 : Int)) rfl rfl rfl rfl ?_
         obtain ⟨x55, h56, hr⟩ := bnd1 hr
         refine AL.ix good (d := 106) (r := [.int .i64 x55.kind, .sl .ro 2 (enys x55.of)]) rfl rfl rfl rfl rfl rfl rfl (Int.natCast_nonneg _) (enys_get h56) ?_
         refine AL.v good (d := 107) (v := .ep [.int .i64 x55.kind, .sl .ro 2 (enys x55.of)]) rfl rfl rfl rfl ?_
         refine AL.v good (d := 108) (v := .int .i64 x55.kind) rfl rfl rfl rfl ?_
         refine AL.v good (d := 109) (v := .int .i64 1) rfl rfl rfl rfl ?_
         refine AL.v good (d := 110) (v := .bool (x55.kind != 1)) rfl rfl rfl rfl ?_
         refine AW.if rfl (fun h57 => ?_) (fun h57 => ?_)
         ·replace hr := cnd_t h57 hr
          refine AW.seq ?_
          refine AW.rg ?_
          refine AL.bld good (d := 111) (l := [.int .i64 0, .sl .nil 0 []]) rfl rfl rfl rfl rfl rfl rfl ?_
          refine AL.st2 good (c2 := [.int .i64 0, .sl .nil 0 []]) rfl rfl rfl rfl rfl rfl rfl rfl rfl rfl rfl rfl ?_
          refine AL.v good (d := 7) (v := .int .i64 5) rfl rfl rfl rfl ?_
          refine AW.ret ?_
          obtain rfl := Option.some.inj hr
          exact RetQ.w good (.inr rfl) rfl rfl ⟨⟨Wv.refl _, ⟨.inr rfl, trivial, .inr rfl⟩, trivial⟩, Wv.refl _, trivial⟩ (by simp [pureA, pureL, pureR, inA, inL, inR, inO, idsIn, encs_pure, enys_pure, valC_pure, tyC_pure])
         ·replace hr := cnd_f h57 hr
          refine AW.skip ?_
          refine AW.rg ?_
          refine AL.v good (d := 102) (v := .int .i64 (v1_1 : Int)) rfl rfl rfl rfl ?_
          refine AL.v good (d := 103) (v := .int .i64 (IntKind.i64.wrap ((v1_1 : Int) + 1))) rfl rfl rfl rfl ?_
          refine AL.v good (d := 11) (v := .int .i64 (IntKind.i64.wrap ((v1_1 : Int) + 1))) rfl rfl rfl rfl ?_
          exact ⟨(m, (v1_1 + 1)), _, _, rfl, ⟨(fun _ h => by cases h), fmc ⟨⟨⟨_, rfl, Wv.refl _⟩, (by simp [pureA, pureL, pureR, inA, inL, inR, inO, idsIn, encs_pure, enys_pure, valC_pure, tyC_pure])⟩, fmc ⟨⟨⟨_, rfl, Wv.refl _⟩, (by simp [pureA, pureL, pureR, inA, inL, inR, inO, idsIn, encs_pure, enys_pure, valC_pure, tyC_pure])⟩, fmc ⟨⟨⟨_, rfl, Wv.refl _⟩, (by simp [pureA, pureL, pureR, inA, inL, inR, inO, idsIn, encs_pure, enys_pure, valC_pure, tyC_pure])⟩, fmc ⟨⟨⟨_, rfl, Wv.refl _⟩, (by simp [pureA, pureL, pureR, inA, inL, inR, inO, idsIn, encs_pure, enys_pure, valC_pure, tyC_pure])⟩, fmc ⟨⟨⟨_, rfl, (wnx h54 hl53)⟩, (by simp [pureA, pureL, pureR, inA, inL, inR, inO, idsIn, encs_pure, enys_pure, valC_pure, tyC_pure])⟩, (fun _ h => by cases h)⟩⟩⟩⟩⟩, fmc ⟨⟨⟨_, rfl, ⟨rfl, ⟨Wv.refl _, Wv.refl _, trivial⟩⟩⟩, (by simp [pureA, pureL, pureR, inA, inL, inR, inO, idsIn, encs_pure, enys_pure, valC_pure, tyC_pure])⟩, (fun _ h => by cases h)⟩⟩, ⟨hr, Nat.le_of_succ_le hm⟩, Nat.lt_succ_self _⟩
        ·replace hr := cnd_f h54 hr
         refine AW.exit ?_
         refine AW.seq ?_
         refine AW.rg ?_
         refine AL.v good (d := 112) (v := .int .i64 1) rfl rfl rfl rfl ?_
         refine AL.cw good (d := 113) (xs := [.int .i64 1]) (res := .agg [.int .i64 1, .sl .ro 2 (enys [])]) rfl rfl rfl rfl rfl rfl rfl (w_f121 1) ⟨(Wv.refl _), trivial⟩ (by simp [pureA, pureL, pureR, inA, inL, inR, inO, idsIn, encs_pure, enys_pure, valC_pure, tyC_pure]) ?_
         refine AL.st2 good (c2 := [.int .i64 1, .sl .ro 2 (enys [])]) rfl rfl rfl rfl rfl rfl rfl rfl rfl rfl rfl rfl ?_
         refine AL.v good (d := 7) (v := .int .i64 0) rfl rfl rfl rfl ?_
         refine AW.ret ?_
         obtain rfl := Option.some.inj hr
         exact RetQ.w good (.inr rfl) rfl rfl (Wv.refl _) (by simp [pureA, pureL, pureR, inA, inL, inR, inO, idsIn, encs_pure, enys_pure, valC_pure, tyC_pure])
      ·replace hr := cnd_f h47 hr
       refine AW.seq ?_
       refine AW.rg ?_
       refine AL.sb good (d := 85) (b := (a0.data.toList == [97, 100, 100])) rfl rfl rfl rfl rfl rfl rfl ?_
       refine AL.v good (d := 83) (v := .bool (a0.data.toList == [97, 100, 100])) rfl rfl rfl rfl ?_
       refine AW.if rfl (fun h58 => ?_) (fun h58 => ?_)
       ·replace hr := cnd_t h58 hr
        refine AW.skip ?_
        refine AW.if rfl (fun h => ?_) (fun h => by cases h58.symm.trans h)
        refine AW.seq ?_
        refine AW.rg ?_
        refine AL.v good (d := 8) (v := .int .i64 1) rfl rfl rfl rfl ?_
        refine AW.rg ?_
        refine AL.v good (d := 9) (v := .int .i64 1) rfl rfl rfl rfl ?_
        refine AW.seq ?_
        refine AW.seq ?_
        refine AW.rg ?_
        refine AL.v good (d := 11) (v := .int .i64 0) rfl rfl rfl rfl ?_
        refine AW.block ?_
        refine AW.lens 2 rfl (fun hl64 => ?_)
        replace hl64 : a2.length ≤ 9223372036854775807 := by rw [← enys_length a2]; exact hl64
        refine AW.lpw (fun x : Nat × Nat => [(2, .sl .ro 2 (enys a2)), (6, .ptr 0 0), (8, .int .i64 1), (9, .int .i64 1), (11, .int .i64 (x.2 : Int))]) (fun x => [(0, .box 40 [.int .i64 0, .sl .nil 0 []])]) (fun x => s_f94_l1 x.1 a2 x.2 = some r ∧ x.1 ≤ n) (fun x => x.1) (n, 0) ⟨(fun _ h => by cases h), fmc ⟨⟨⟨_, rfl, Wv.refl _⟩, (by simp [pureA, pureL, pureR, inA, inL, inR, inO, idsIn, encs_pure, enys_pure, valC_pure, tyC_pure])⟩, fmc ⟨⟨⟨_, rfl, Wv.refl _⟩, (by simp [pureA, pureL, pureR, inA, inL, inR, inO, idsIn, encs_pure, enys_pure, valC_pure, tyC_pure])⟩, fmc ⟨⟨⟨_, rfl, Wv.refl _⟩, (by simp [pureA, pureL, pureR, inA, inL, inR, inO, idsIn, encs_pure, enys_pure, valC_pure, tyC_pure])⟩, fmc ⟨⟨⟨_, rfl, Wv.refl _⟩, (by simp [pureA, pureL, pureR, inA, inL, inR, inO, idsIn, encs_pure, enys_pure, valC_pure, tyC_pure])⟩, fmc ⟨⟨⟨_, rfl, Wv.refl _⟩, (by simp [pureA, pureL, pureR, inA, inL, inR, inO, idsIn, encs_pure, enys_pure, valC_pure, tyC_pure])⟩, (fun _ h => by cases h)⟩⟩⟩⟩⟩, fmc ⟨⟨⟨_, rfl, ⟨rfl, ⟨Wv.refl _, Wv.refl _, trivial⟩⟩⟩, (by simp [pureA, pureL, pureR, inA, inL, inR, inO, idsIn, encs_pure, enys_pure, valC_pure, tyC_pure])⟩, (fun _ h => by cases h)⟩⟩ ⟨hr, Nat.le_refl _⟩ (fun ⟨m, v2_1⟩ hx => ?_)
        obtain ⟨hr, hm⟩ := hx
        try dsimp only at hr hm
        cases m with
        | zero => rw [s_f94_l1] at hr; cases hr
        | succ m =>
         rw [s_f94_l1] at hr
         show AW Try.prog _ _ _ (mkS 114 [(2, .sl .ro 2 (enys a2)), (6, .ptr 0 0), (8, .int .i64 1), (9, .int .i64 1), (11, .int .i64 (v2_1 : Int))] [(0, .box 40 [.int .i64 0, .sl .nil 0 []])])
         refine AW.seq ?_
         refine AW.seq ?_
         refine AW.rg ?_
         refine AL.v good (d := 98) (v := .int .i64 (v2_1 : Int)) rfl rfl rfl rfl ?_
         refine AL.v good (d := 99) (v := .sl .ro 2 (enys a2)) rfl rfl rfl rfl ?_
         refine AL.ln good (d := 100) (m := a2.length) rfl rfl rfl rfl rfl rfl (enys_length _) ?_
         refine AL.v good (d := 101) (v := .bool (decide ((v2_1 : Int) < (a2.length : Int)))) rfl rfl rfl rfl ?_
         refine AW.if rfl (fun h65 => ?_) (fun h65 => ?_)
         ·replace hr := cnd_t h65 hr
          refine AW.skip ?_
          refine AW.seq ?_
          refine AW.block ?_
          refine AW.seq ?_
          refine AW.rg ?_
          refine AL.v good (d := 104) (v := .sl .ro 2 (enys a2)) rfl rfl rfl rfl ?_
          refine AL.v good (d := 105) (v := .int .i64 (v2_1 : Int)) rfl rfl rfl rfl ?_
          obtain ⟨x66, h67, hr⟩ := bnd1 hr
          refine AL.ix good (d := 106) (r := [.int .i64 x66.kind, .sl .ro 2 (enys x66.of)]) rfl rfl rfl rfl rfl rfl rfl (Int.natCast_nonneg _) (enys_get h67) ?_
          refine AL.v good (d := 107) (v := .ep [.int .i64 x66.kind, .sl .ro 2 (enys x66.of)]) rfl rfl rfl rfl ?_
          refine AL.v good (d := 108) (v := .int .i64 x66.kind) rfl rfl rfl rfl ?_
          refine AL.v good (d := 109) (v := .int .i64 1) rfl rfl rfl rfl ?_
          refine AL.v good (d := 110) (v := .bool (x66.kind != 1)) rfl rfl rfl rfl ?_
          refine AW.if rfl (fun h68 => ?_) (fun h68 => ?_)
          ·replace hr := cnd_t h68 hr
           refine AW.seq ?_
           refine AW.rg ?_
           refine AL.bld good (d := 111) (l := [.int .i64 0, .sl .nil 0 []]) rfl rfl rfl rfl rfl rfl rfl ?_
           refine AL.st2 good (c2 := [.int .i64 0, .sl .nil 0 []]) rfl rfl rfl rfl rfl rfl rfl rfl rfl rfl rfl rfl ?_
           refine AL.v good (d := 7) (v := .int .i64 5) rfl rfl rfl rfl ?_
           refine AW.ret ?_
           obtain rfl := Option.some.inj hr
           exact RetQ.w good (.inr rfl) rfl rfl ⟨⟨Wv.refl _, ⟨.inr rfl, trivial, .inr rfl⟩, trivial⟩, Wv.refl _, trivial⟩ (by simp [pureA, pureL, pureR, inA, inL, inR, inO, idsIn, encs_pure, enys_pure, valC_pure, tyC_pure])
          ·replace hr := cnd_f h68 hr
           refine AW.skip ?_
           refine AW.rg ?_
           refine AL.v good (d := 102) (v := .int .i64 (v2_1 : Int)) rfl rfl rfl rfl ?_
           refine AL.v good (d := 103) (v := .int .i64 (IntKind.i64.wrap ((v2_1 : Int) + 1))) rfl rfl rfl rfl ?_
           refine AL.v good (d := 11) (v := .int .i64 (IntKind.i64.wrap ((v2_1 : Int) + 1))) rfl rfl rfl rfl ?_
           exact ⟨(m, (v2_1 + 1)), _, _, rfl, ⟨(fun _ h => by cases h), fmc ⟨⟨⟨_, rfl, Wv.refl _⟩, (by simp [pureA, pureL, pureR, inA, inL, inR, inO, idsIn, encs_pure, enys_pure, valC_pure, tyC_pure])⟩, fmc ⟨⟨⟨_, rfl, Wv.refl _⟩, (by simp [pureA, pureL, pureR, inA, inL, inR, inO, idsIn, encs_pure, enys_pure, valC_pure, tyC_pure])⟩, fmc ⟨⟨⟨_, rfl, Wv.refl _⟩, (by simp [pureA, pureL, pureR, inA, inL, inR, inO, idsIn, encs_pure, enys_pure, valC_pure, tyC_pure])⟩, fmc ⟨⟨⟨_, rfl, Wv.refl _⟩, (by simp [pureA, pureL, pureR, inA, inL, inR, inO, idsIn, encs_pure, enys_pure, valC_pure, tyC_pure])⟩, fmc ⟨⟨⟨_, rfl, (wnx h65 hl64)⟩, (by simp [pureA, pureL, pureR, inA, inL, inR, inO, idsIn, encs_pure, enys_pure, valC_pure, tyC_pure])⟩, (fun _ h => by cases h)⟩⟩⟩⟩⟩, fmc ⟨⟨⟨_, rfl, ⟨rfl, ⟨Wv.refl _, Wv.refl _, trivial⟩⟩⟩, (by simp [pureA, pureL, pureR, inA, inL, inR, inO, idsIn, encs_pure, enys_pure, valC_pure, tyC_pure])⟩, (fun _ h => by cases h)⟩⟩, ⟨hr, Nat.le_of_succ_le hm⟩, Nat.lt_succ_self _⟩
         ·replace hr := cnd_f h65 hr
          refine AW.exit ?_
          refine AW.seq ?_
          refine AW.rg ?_
          refine AL.v good (d := 112) (v := .int .i64 1) rfl rfl rfl rfl ?_
          refine AL.cw good (d := 113) (xs := [.int .i64 1]) (res := .agg [.int .i64 1, .sl .ro 2 (enys [])]) rfl rfl rfl rfl rfl rfl rfl (w_f121 1) ⟨(Wv.refl _), trivial⟩ (by simp [pureA, pureL, pureR, inA, inL, inR, inO, idsIn, encs_pure, enys_pure, valC_pure, tyC_pure]) ?_
          refine AL.st2 good (c2 := [.int .i64 1, .sl .ro 2 (enys [])]) rfl rfl rfl rfl rfl rfl rfl rfl rfl rfl rfl rfl ?_
          refine AL.v good (d := 7) (v := .int .i64 0) rfl rfl rfl rfl ?_
          refine AW.ret ?_
          obtain rfl := Option.some.inj hr
          exact RetQ.w good (.inr rfl) rfl rfl (Wv.refl _) (by simp [pureA, pureL, pureR, inA, inL, inR, inO, idsIn, encs_pure, enys_pure, valC_pure, tyC_pure])
       ·replace hr := cnd_f h58 hr
        refine AW.seq ?_
        refine AW.rg ?_
        refine AL.sb good (d := 86) (b := (a0.data.toList == [115, 117, 98])) rfl rfl rfl rfl rfl rfl rfl ?_
        refine AL.v good (d := 83) (v := .bool (a0.data.toList == [115, 117, 98])) rfl rfl rfl rfl ?_
        refine AW.if rfl (fun h69 => ?_) (fun h69 => ?_)
        ·replace hr := cnd_t h69 hr
         refine AW.skip ?_
         refine AW.if rfl (fun h => ?_) (fun h => by cases h69.symm.trans h)
         refine AW.seq ?_
         refine AW.rg ?_
         refine AL.v good (d := 8) (v := .int .i64 1) rfl rfl rfl rfl ?_
         refine AW.rg ?_
         refine AL.v good (d := 9) (v := .int .i64 1) rfl rfl rfl rfl ?_
         refine AW.seq ?_
         refine AW.seq ?_
         refine AW.rg ?_
         refine AL.v good (d := 11) (v := .int .i64 0) rfl rfl rfl rfl ?_
         refine AW.block ?_
         refine AW.lens 2 rfl (fun hl75 => ?_)
         replace hl75 : a2.length ≤ 9223372036854775807 := by rw [← enys_length a2]; exact hl75
         refine AW.lpw (fun x : Nat × Nat => [(2, .sl .ro 2 (enys a2)), (6, .ptr 0 0), (8, .int .i64 1), (9, .int .i64 1), (11, .int .i64 (x.2 : Int))]) (fun x => [(0, .box 40 [.int .i64 0, .sl .nil 0 []])]) (fun x => s_f94_l1 x.1 a2 x.2 = some r ∧ x.1 ≤ n) (fun x => x.1) (n, 0) ⟨(fun _ h => by cases h), fmc ⟨⟨⟨_, rfl, Wv.refl _⟩, (by simp [pureA, pureL, pureR, inA, inL, inR, inO, idsIn, encs_pure, enys_pure, valC_pure, tyC_pure])⟩, fmc ⟨⟨⟨_, rfl, Wv.refl _⟩, (by simp [pureA, pureL, pureR, inA, inL, inR, inO, idsIn, encs_pure, enys_pure, valC_pure, tyC_pure])⟩, fmc ⟨⟨⟨_, rfl, Wv.refl _⟩, (by simp [pureA, pureL, pureR, inA, inL, inR, inO, idsIn, encs_pure, enys_pure, valC_pure, tyC_pure])⟩, fmc ⟨⟨⟨_, rfl, Wv.refl _⟩, (by simp [pureA, pureL, pureR, inA, inL, inR, inO, idsIn, encs_pure, enys_pure, valC_pure, tyC_pure])⟩, fmc ⟨⟨⟨_, rfl, Wv.refl _⟩, (by simp [pureA, pureL, pureR, inA, inL, inR, inO, idsIn, encs_pure, enys_pure, valC_pure, tyC_pure])⟩, (fun _ h => by cases h)⟩⟩⟩⟩⟩, fmc ⟨⟨⟨_, rfl, ⟨rfl, ⟨Wv.refl _, Wv.refl _, trivial⟩⟩⟩, (by simp [pureA, pureL, pureR, inA, inL, inR, inO, idsIn, encs_pure, enys_pure, valC_pure, tyC_pure])⟩, (fun _ h => by cases h)⟩⟩ ⟨hr, Nat.le_refl _⟩ (fun ⟨m, v3_1⟩ hx => ?_)
         obtain ⟨hr, hm⟩ := hx
         try dsimp only at hr hm
         cases m with
         | zero => rw [s_f94_l1] at hr; cases hr
         | succ m =>
          rw [s_f94_l1] at hr
          show AW Try.prog _ _ _ (mkS 114 [(2, .sl .ro 2 (enys a2)), (6, .ptr 0 0), (8, .int .i64 1), (9, .int .i64 1), (11, .int .i64 (v3_1 : Int))] [(0, .box 40 [.int .i64 0, .sl .nil 0 []])])
          refine AW.seq ?_
          refine AW.seq ?_
          refine AW.rg ?_
          refine AL.v good (d := 98) (v := .int .i64 (v3_1 : Int)) rfl rfl rfl rfl ?_
          refine AL.v good (d := 99) (v := .sl .ro 2 (enys a2)) rfl rfl rfl rfl ?_
          refine AL.ln good (d := 100) (m := a2.length) rfl rfl rfl rfl rfl rfl (enys_length _) ?_
          refine AL.v good (d := 101) (v := .bool (decide ((v3_1 : Int) < (a2.length : Int)))) rfl rfl rfl rfl ?_
          refine AW.if rfl (fun h76 => ?_) (fun h76 => ?_)
          ·replace hr := cnd_t h76 hr
           refine AW.skip ?_
           refine AW.seq ?_
           refine AW.block ?_
           refine AW.seq ?_
           refine AW.rg ?_
           refine AL.v good (d := 104) (v := .sl .ro 2 (enys a2)) rfl rfl rfl rfl ?_
           refine AL.v good (d := 105) (v := .int .i64 (v3_1 : Int)) rfl rfl rfl rfl ?_
           obtain ⟨x77, h78, hr⟩ := bnd1 hr
           refine AL.ix good (d := 106) (r := [.int .i64 x77.kind, .sl .ro 2 (enys x77.of)]) rfl rfl rfl rfl rfl rfl rfl (Int.natCast_nonneg _) (enys_get h78) ?_
           refine AL.v good (d := 107) (v := .ep [.int .i64 x77.kind, .sl .ro 2 (enys x77.of)]) rfl rfl rfl rfl ?_
           refine AL.v good (d := 108) (v := .int .i64 x77.kind) rfl rfl rfl rfl ?_
           refine AL.v good (d := 109) (v := .int .i64 1) rfl rfl rfl rfl ?_
           refine AL.v good (d := 110) (v := .bool (x77.kind != 1)) rfl rfl rfl rfl ?_
           refine AW.if rfl (fun h79 => ?_) (fun h79 => ?_)
           ·replace hr := cnd_t h79 hr
            refine AW.seq ?_
            refine AW.rg ?_
            refine AL.bld good (d := 111) (l := [.int .i64 0, .sl .nil 0 []]) rfl rfl rfl rfl rfl rfl rfl ?_
            refine AL.st2 good (c2 := [.int .i64 0, .sl .nil 0 []]) rfl rfl rfl rfl rfl rfl rfl rfl rfl rfl rfl rfl ?_
            refine AL.v good (d := 7) (v := .int .i64 5) rfl rfl rfl rfl ?_
            refine AW.ret ?_
            obtain rfl := Option.some.inj hr
            exact RetQ.w good (.inr rfl) rfl rfl ⟨⟨Wv.refl _, ⟨.inr rfl, trivial, .inr rfl⟩, trivial⟩, Wv.refl _, trivial⟩ (by simp [pureA, pureL, pureR, inA, inL, inR, inO, idsIn, encs_pure, enys_pure, valC_pure, tyC_pure])
           ·replace hr := cnd_f h79 hr
            refine AW.skip ?_
            refine AW.rg ?_
            refine AL.v good (d := 102) (v := .int .i64 (v3_1 : Int)) rfl rfl rfl rfl ?_
            refine AL.v good (d := 103) (v := .int .i64 (IntKind.i64.wrap ((v3_1 : Int) + 1))) rfl rfl rfl rfl ?_
            refine AL.v good (d := 11) (v := .int .i64 (IntKind.i64.wrap ((v3_1 : Int) + 1))) rfl rfl rfl rfl ?_
            exact ⟨(m, (v3_1 + 1)), _, _, rfl, ⟨(fun _ h => by cases h), fmc ⟨⟨⟨_, rfl, Wv.refl _⟩, (by simp [pureA, pureL, pureR, inA, inL, inR, inO, idsIn, encs_pure, enys_pure, valC_pure, tyC_pure])⟩, fmc ⟨⟨⟨_, rfl, Wv.refl _⟩, (by simp [pureA, pureL, pureR, inA, inL, inR, inO, idsIn, encs_pure, enys_pure, valC_pure, tyC_pure])⟩, fmc ⟨⟨⟨_, rfl, Wv.refl _⟩, (by simp [pureA, pureL, pureR, inA, inL, inR, inO, idsIn, encs_pure, enys_pure, valC_pure, tyC_pure])⟩, fmc ⟨⟨⟨_, rfl, Wv.refl _⟩, (by simp [pureA, pureL, pureR, inA, inL, inR, inO, idsIn, encs_pure, enys_pure, valC_pure, tyC_pure])⟩, fmc ⟨⟨⟨_, rfl, (wnx h76 hl75)⟩, (by simp [pureA, pureL, pureR, inA, inL, inR, inO, idsIn, encs_pure, enys_pure, valC_pure, tyC_pure])⟩, (fun _ h => by cases h)⟩⟩⟩⟩⟩, fmc ⟨⟨⟨_, rfl, ⟨rfl, ⟨Wv.refl _, Wv.refl _, trivial⟩⟩⟩, (by simp [pureA, pureL, pureR, inA, inL, inR, inO, idsIn, encs_pure, enys_pure, valC_pure, tyC_pure])⟩, (fun _ h => by cases h)⟩⟩, ⟨hr, Nat.le_of_succ_le hm⟩, Nat.lt_succ_self _⟩
          ·replace hr := cnd_f h76 hr
           refine AW.exit ?_
           refine AW.seq ?_
           refine AW.rg ?_
           refine AL.v good (d := 112) (v := .int .i64 1) rfl rfl rfl rfl ?_
           refine AL.cw good (d := 113) (xs := [.int .i64 1]) (res := .agg [.int .i64 1, .sl .ro 2 (enys [])]) rfl rfl rfl rfl rfl rfl rfl (w_f121 1) ⟨(Wv.refl _), trivial⟩ (by simp [pureA, pureL, pureR, inA, inL, inR, inO, idsIn, encs_pure, enys_pure, valC_pure, tyC_pure]) ?_
           refine AL.st2 good (c2 := [.int .i64 1, .sl .ro 2 (enys [])]) rfl rfl rfl rfl rfl rfl rfl rfl rfl rfl rfl rfl ?_
           refine AL.v good (d := 7) (v := .int .i64 0) rfl rfl rfl rfl ?_
           refine AW.ret ?_
           obtain rfl := Option.some.inj hr
           exact RetQ.w good (.inr rfl) rfl rfl (Wv.refl _) (by simp [pureA, pureL, pureR, inA, inL, inR, inO, idsIn, encs_pure, enys_pure, valC_pure, tyC_pure])
        ·replace hr := cnd_f h69 hr
         refine AW.seq ?_
         refine AW.rg ?_
         refine AL.sb good (d := 87) (b := (a0.data.toList == [109, 117, 108])) rfl rfl rfl rfl rfl rfl rfl ?_
         refine AL.v good (d := 83) (v := .bool (a0.data.toList == [109, 117, 108])) rfl rfl rfl rfl ?_
         refine AW.if rfl (fun h80 => ?_) (fun h80 => ?_)
         ·replace hr := cnd_t h80 hr
          refine AW.skip ?_
          refine AW.if rfl (fun h => ?_) (fun h => by cases h80.symm.trans h)
          refine AW.seq ?_
          refine AW.rg ?_
          refine AL.v good (d := 8) (v := .int .i64 1) rfl rfl rfl rfl ?_
          refine AW.rg ?_
          refine AL.v good (d := 9) (v := .int .i64 1) rfl rfl rfl rfl ?_
          refine AW.seq ?_
          refine AW.seq ?_
          refine AW.rg ?_
          refine AL.v good (d := 11) (v := .int .i64 0) rfl rfl rfl rfl ?_
          refine AW.block ?_
          refine AW.lens 2 rfl (fun hl86 => ?_)
          replace hl86 : a2.length ≤ 9223372036854775807 := by rw [← enys_length a2]; exact hl86
          refine AW.lpw (fun x : Nat × Nat => [(2, .sl .ro 2 (enys a2)), (6, .ptr 0 0), (8, .int .i64 1), (9, .int .i64 1), (11, .int .i64 (x.2 : Int))]) (fun x => [(0, .box 40 [.int .i64 0, .sl .nil 0 []])]) (fun x => s_f94_l1 x.1 a2 x.2 = some r ∧ x.1 ≤ n) (fun x => x.1) (n, 0) ⟨(fun _ h => by cases h), fmc ⟨⟨⟨_, rfl, Wv.refl _⟩, (by simp [pureA, pureL, pureR, inA, inL, inR, inO, idsIn, encs_pure, enys_pure, valC_pure, tyC_pure])⟩, fmc ⟨⟨⟨_, rfl, Wv.refl _⟩, (by simp [pureA, pureL, pureR, inA, inL, inR, inO, idsIn, encs_pure, enys_pure, valC_pure, tyC_pure])⟩, fmc ⟨⟨⟨_, rfl, Wv.refl _⟩, (by simp [pureA, pureL, pureR, inA, inL, inR, inO, idsIn, encs_pure, enys_pure, valC_pure, tyC_pure])⟩, fmc ⟨⟨⟨_, rfl, Wv.refl _⟩, (by simp [pureA, pureL, pureR, inA, inL, inR, inO, idsIn, encs_pure, enys_pure, valC_pure, tyC_pure])⟩, fmc ⟨⟨⟨_, rfl, Wv.refl _⟩, (by simp [pureA, pureL, pureR, inA, inL, inR, inO, idsIn, encs_pure, enys_pure, valC_pure, tyC_pure])⟩, (fun _ h => by cases h)⟩⟩⟩⟩⟩, fmc ⟨⟨⟨_, rfl, ⟨rfl, ⟨Wv.refl _, Wv.refl _, trivial⟩⟩⟩, (by simp [pureA, pureL, pureR, inA, inL, inR, inO, idsIn, encs_pure, enys_pure, valC_pure, tyC_pure])⟩, (fun _ h => by cases h)⟩⟩ ⟨hr, Nat.le_refl _⟩ (fun ⟨m, v4_1⟩ hx => ?_)
          obtain ⟨hr, hm⟩ := hx
          try dsimp only at hr hm
          cases m with
          | zero => rw [s_f94_l1] at hr; cases hr
          | succ m =>
           rw [s_f94_l1] at hr
           show AW Try.prog _ _ _ (mkS 114 [(2, .sl .ro 2 (enys a2)), (6, .ptr 0 0), (8, .int .i64 1), (9, .int .i64 1), (11, .int .i64 (v4_1 : Int))] [(0, .box 40 [.int .i64 0, .sl .nil 0 []])])
           refine AW.seq ?_
           refine AW.seq ?_
           refine AW.rg ?_
           refine AL.v good (d := 98) (v := .int .i64 (v4_1 : Int)) rfl rfl rfl rfl ?_
           refine AL.v good (d := 99) (v := .sl .ro 2 (enys a2)) rfl rfl rfl rfl ?_
           refine AL.ln good (d := 100) (m := a2.length) rfl rfl rfl rfl rfl rfl (enys_length _) ?_
           refine AL.v good (d := 101) (v := .bool (decide ((v4_1 : Int) < (a2.length : Int)))) rfl rfl rfl rfl ?_
           refine AW.if rfl (fun h87 => ?_) (fun h87 => ?_)
           ·replace hr := cnd_t h87 hr
            refine AW.skip ?_
            refine AW.seq ?_
            refine AW.block ?_
            refine AW.seq ?_
            refine AW.rg ?_
            refine AL.v good (d := 104) (v := .sl .ro 2 (enys a2)) rfl rfl rfl rfl ?_
            refine AL.v good (d := 105) (v := .int .i64 (v4_1 : Int)) rfl rfl rfl rfl ?_
            obtain ⟨x88, h89, hr⟩ := bnd1 hr
            refine AL.ix good (d := 106) (r := [.int .i64 x88.kind, .sl .ro 2 (enys x88.of)]) rfl rfl rfl rfl rfl rfl rfl (Int.natCast_nonneg _) (enys_get h89) ?_
            refine AL.v good (d := 107) (v := .ep [.int .i64 x88.kind, .sl .ro 2 (enys x88.of)]) rfl rfl rfl rfl ?_
            refine AL.v good (d := 108) (v := .int .i64 x88.kind) rfl rfl rfl rfl ?_
            refine AL.v good (d := 109) (v := .int .i64 1) rfl rfl rfl rfl ?_
            refine AL.v good (d := 110) (v := .bool (x88.kind != 1)) rfl rfl rfl rfl ?_
            refine AW.if rfl (fun h90 => ?_) (fun h90 => ?_)
            ·replace hr := cnd_t h90 hr
             refine AW.seq ?_
             refine AW.rg ?_
             refine AL.bld good (d := 111) (l := [.int .i64 0, .sl .nil 0 []]) rfl rfl rfl rfl rfl rfl rfl ?_
             refine AL.st2 good (c2 := [.int .i64 0, .sl .nil 0 []]) rfl rfl rfl rfl rfl rfl rfl rfl rfl rfl rfl rfl ?_
             refine AL.v good (d := 7) (v := .int .i64 5) rfl rfl rfl rfl ?_
             refine AW.ret ?_
             obtain rfl := Option.some.inj hr
             exact RetQ.w good (.inr rfl) rfl rfl ⟨⟨Wv.refl _, ⟨.inr rfl, trivial, .inr rfl⟩, trivial⟩, Wv.refl _, trivial⟩ (by simp [pureA, pureL, pureR, inA, inL, inR, inO, idsIn, encs_pure, enys_pure, valC_pure, tyC_pure])
            ·replace hr := cnd_f h90 hr
             refine AW.skip ?_
             refine AW.rg ?_
             refine AL.v good (d := 102) (v := .int .i64 (v4_1 : Int)) rfl rfl rfl rfl ?_
             refine AL.v good (d := 103) (v := .int .i64 (IntKind.i64.wrap ((v4_1 : Int) + 1))) rfl rfl rfl rfl ?_
             refine AL.v good (d := 11) (v := .int .i64 (IntKind.i64.wrap ((v4_1 : Int) + 1))) rfl rfl rfl rfl ?_
             exact ⟨(m, (v4_1 + 1)), _, _, rfl, ⟨(fun _ h => by cases h), fmc ⟨⟨⟨_, rfl, Wv.refl _⟩, (by simp [pureA, pureL, pureR, inA, inL, inR, inO, idsIn, encs_pure, enys_pure, valC_pure, tyC_pure])⟩, fmc ⟨⟨⟨_, rfl, Wv.refl _⟩, (by simp [pureA, pureL, pureR, inA, inL, inR, inO, idsIn, encs_pure, enys_pure, valC_pure, tyC_pure])⟩, fmc ⟨⟨⟨_, rfl, Wv.refl _⟩, (by simp [pureA, pureL, pureR, inA, inL, inR, inO, idsIn, encs_pure, enys_pure, valC_pure, tyC_pure])⟩, fmc ⟨⟨⟨_, rfl, Wv.refl _⟩, (by simp [pureA, pureL, pureR, inA, inL, inR, inO, idsIn, encs_pure, enys_pure, valC_pure, tyC_pure])⟩, fmc ⟨⟨⟨_, rfl, (wnx h87 hl86)⟩, (by simp [pureA, pureL, pureR, inA, inL, inR, inO, idsIn, encs_pure, enys_pure, valC_pure, tyC_pure])⟩, (fun _ h => by cases h)⟩⟩⟩⟩⟩, fmc ⟨⟨⟨_, rfl, ⟨rfl, ⟨Wv.refl _, Wv.refl _, trivial⟩⟩⟩, (by simp [pureA, pureL, pureR, inA, inL, inR, inO, idsIn, encs_pure, enys_pure, valC_pure, tyC_pure])⟩, (fun _ h => by cases h)⟩⟩, ⟨hr, Nat.le_of_succ_le hm⟩, Nat.lt_succ_self _⟩
           ·replace hr := cnd_f h87 hr
            refine AW.exit ?_
            refine AW.seq ?_
            refine AW.rg ?_
            refine AL.v good (d := 112) (v := .int .i64 1) rfl rfl rfl rfl ?_
            refine AL.cw good (d := 113) (xs := [.int .i64 1]) (res := .agg [.int .i64 1, .sl .ro 2 (enys [])]) rfl rfl rfl rfl rfl rfl rfl (w_f121 1) ⟨(Wv.refl _), trivial⟩ (by simp [pureA, pureL, pureR, inA, inL, inR, inO, idsIn, encs_pure, enys_pure, valC_pure, tyC_pure]) ?_
            refine AL.st2 good (c2 := [.int .i64 1, .sl .ro 2 (enys [])]) rfl rfl rfl rfl rfl rfl rfl rfl rfl rfl rfl rfl ?_
            refine AL.v good (d := 7) (v := .int .i64 0) rfl rfl rfl rfl ?_
            refine AW.ret ?_
            obtain rfl := Option.some.inj hr
            exact RetQ.w good (.inr rfl) rfl rfl (Wv.refl _) (by simp [pureA, pureL, pureR, inA, inL, inR, inO, idsIn, encs_pure, enys_pure, valC_pure, tyC_pure])
         ·replace hr := cnd_f h80 hr
          refine AW.seq ?_
          refine AW.rg ?_
          refine AL.sb good (d := 88) (b := (a0.data.toList == [100, 105, 118])) rfl rfl rfl rfl rfl rfl rfl ?_
          refine AL.v good (d := 83) (v := .bool (a0.data.toList == [100, 105, 118])) rfl rfl rfl rfl ?_
          refine AW.if rfl (fun h91 => ?_) (fun h91 => ?_)
          ·replace hr := cnd_t h91 hr
           refine AW.skip ?_
           refine AW.if rfl (fun h => ?_) (fun h => by cases h91.symm.trans h)
           refine AW.seq ?_
           refine AW.rg ?_
           refine AL.v good (d := 8) (v := .int .i64 1) rfl rfl rfl rfl ?_
           refine AW.rg ?_
           refine AL.v good (d := 9) (v := .int .i64 1) rfl rfl rfl rfl ?_
           refine AW.seq ?_
           refine AW.seq ?_
           refine AW.rg ?_
           refine AL.v good (d := 11) (v := .int .i64 0) rfl rfl rfl rfl ?_
           refine AW.block ?_
           refine AW.lens 2 rfl (fun hl97 => ?_)
           replace hl97 : a2.length ≤ 9223372036854775807 := by rw [← enys_length a2]; exact hl97
           refine AW.lpw (fun x : Nat × Nat => [(2, .sl .ro 2 (enys a2)), (6, .ptr 0 0), (8, .int .i64 1), (9, .int .i64 1), (11, .int .i64 (x.2 : Int))]) (fun x => [(0, .box 40 [.int .i64 0, .sl .nil 0 []])]) (fun x => s_f94_l1 x.1 a2 x.2 = some r ∧ x.1 ≤ n) (fun x => x.1) (n, 0) ⟨(fun _ h => by cases h), fmc ⟨⟨⟨_, rfl, Wv.refl _⟩, (by simp [pureA, pureL, pureR, inA, inL, inR, inO, idsIn, encs_pure, enys_pure, valC_pure, tyC_pure])⟩, fmc ⟨⟨⟨_, rfl, Wv.refl _⟩, (by simp [pureA, pureL, pureR, inA, inL, inR, inO, idsIn, encs_pure, enys_pure, valC_pure, tyC_pure])⟩, fmc ⟨⟨⟨_, rfl, Wv.refl _⟩, (by simp [pureA, pureL, pureR, inA, inL, inR, inO, idsIn, encs_pure, enys_pure, valC_pure, tyC_pure])⟩, fmc ⟨⟨⟨_, rfl, Wv.refl _⟩, (by simp [pureA, pureL, pureR, inA, inL, inR, inO, idsIn, encs_pure, enys_pure, valC_pure, tyC_pure])⟩, fmc ⟨⟨⟨_, rfl, Wv.refl _⟩, (by simp [pureA, pureL, pureR, inA, inL, inR, inO, idsIn, encs_pure, enys_pure, valC_pure, tyC_pure])⟩, (fun _ h => by cases h)⟩⟩⟩⟩⟩, fmc ⟨⟨⟨_, rfl, ⟨rfl, ⟨Wv.refl _, Wv.refl _, trivial⟩⟩⟩, (by simp [pureA, pureL, pureR, inA, inL, inR, inO, idsIn, encs_pure, enys_pure, valC_pure, tyC_pure])⟩, (fun _ h => by cases h)⟩⟩ ⟨hr, Nat.le_refl _⟩ (fun ⟨m, v5_1⟩ hx => ?_)
           obtain ⟨hr, hm⟩ := hx
           try dsimp only at hr hm
           cases m with
           | zero => rw [s_f94_l1] at hr; cases hr
           | succ m =>
            rw [s_f94_l1] at hr
            show AW Try.prog _ _ _ (mkS 114 [(2, .sl .ro 2 (enys a2)), (6, .ptr 0 0), (8, .int .i64 1), (9, .int .i64 1), (11, .int .i64 (v5_1 : Int))] [(0, .box 40 [.int .i64 0, .sl .nil 0 []])])
            refine AW.seq ?_
            refine AW.seq ?_
            refine AW.rg ?_
            refine AL.v good (d := 98) (v := .int .i64 (v5_1 : Int)) rfl rfl rfl rfl ?_
            refine AL.v good (d := 99) (v := .sl .ro 2 (enys a2)) rfl rfl rfl rfl ?_
            refine AL.ln good (d := 100) (m := a2.length) rfl rfl rfl rfl rfl rfl (enys_length _) ?_
            refine AL.v good (d := 101) (v := .bool (decide ((v5_1 : Int) < (a2.length : Int)))) rfl rfl rfl rfl ?_
            refine AW.if rfl (fun h98 => ?_) (fun h98 => ?_)
            ·replace hr := cnd_t h98 hr
             refine AW.skip ?_
             refine AW.seq ?_
             refine AW.block ?_
             refine AW.seq ?_
             refine AW.rg ?_
             refine AL.v good (d := 104) (v := .sl .ro 2 (enys a2)) rfl rfl rfl rfl ?_
             refine AL.v good (d := 105) (v := .int .i64 (v5_1 : Int)) rfl rfl rfl rfl ?_
             obtain ⟨x99, h100, hr⟩ := bnd1 hr
             refine AL.ix good (d := 106) (r := [.int .i64 x99.kind, .sl .ro 2 (enys x99.of)]) rfl rfl rfl rfl rfl rfl rfl (Int.natCast_nonneg _) (enys_get h100) ?_
             refine AL.v good (d := 107) (v := .ep [.int .i64 x99.kind, .sl .ro 2 (enys x99.of)]) rfl rfl rfl rfl ?_
             refine AL.v good (d := 108) (v := .int .i64 x99.kind) rfl rfl rfl rfl ?_
             refine AL.v good (d := 109) (v := .int .i64 1) rfl rfl rfl rfl ?_
             refine AL.v good (d := 110) (v := .bool (x99.kind != 1)) rfl rfl rfl rfl ?_
             refine AW.if rfl (fun h101 => ?_) (fun h101 => ?_)
             ·replace hr := cnd_t h101 hr
              refine AW.seq ?_
              refine AW.rg ?_
              refine AL.bld good (d := 111) (l := [.int .i64 0, .sl .nil 0 []]) rfl rfl rfl rfl rfl rfl rfl ?_
              refine AL.st2 good (c2 := [.int .i64 0, .sl .nil 0 []]) rfl rfl rfl rfl rfl rfl rfl rfl rfl rfl rfl rfl ?_
              refine AL.v good (d := 7) (v := .int .i64 5) rfl rfl rfl rfl ?_
              refine AW.ret ?_
              obtain rfl := Option.some.inj hr
              exact RetQ.w good (.inr rfl) rfl rfl ⟨⟨Wv.refl _, ⟨.inr rfl, trivial, .inr rfl⟩, trivial⟩, Wv.refl _, trivial⟩ (by simp [pureA, pureL, pureR, inA, inL, inR, inO, idsIn, encs_pure, enys_pure, valC_pure, tyC_pure])
             ·replace hr := cnd_f h101 hr
              refine AW.skip ?_
              refine AW.rg ?_
              refine AL.v good (d := 102) (v := .int .i64 (v5_1 : Int)) rfl rfl rfl rfl ?_
              refine AL.v good (d := 103) (v := .int .i64 (IntKind.i64.wrap ((v5_1 : Int) + 1))) rfl rfl rfl rfl ?_
              refine AL.v good (d := 11) (v := .int .i64 (IntKind.i64.wrap ((v5_1 : Int) + 1))) rfl rfl rfl rfl ?_
              exact ⟨(m, (v5_1 + 1)), _, _, rfl, ⟨(fun _ h => by cases h), fmc ⟨⟨⟨_, rfl, Wv.refl _⟩, (by simp [pureA, pureL, pureR, inA, inL, inR, inO, idsIn, encs_pure, enys_pure, valC_pure, tyC_pure])⟩, fmc ⟨⟨⟨_, rfl, Wv.refl _⟩, (by simp [pureA, pureL, pureR, inA, inL, inR, inO, idsIn, encs_pure, enys_pure, valC_pure, tyC_pure])⟩, fmc ⟨⟨⟨_, rfl, Wv.refl _⟩, (by simp [pureA, pureL, pureR, inA, inL, inR, inO, idsIn, encs_pure, enys_pure, valC_pure, tyC_pure])⟩, fmc ⟨⟨⟨_, rfl, Wv.refl _⟩, (by simp [pureA, pureL, pureR, inA, inL, inR, inO, idsIn, encs_pure, enys_pure, valC_pure, tyC_pure])⟩, fmc ⟨⟨⟨_, rfl, (wnx h98 hl97)⟩, (by simp [pureA, pureL, pureR, inA, inL, inR, inO, idsIn, encs_pure, enys_pure, valC_pure, tyC_pure])⟩, (fun _ h => by cases h)⟩⟩⟩⟩⟩, fmc ⟨⟨⟨_, rfl, ⟨rfl, ⟨Wv.refl _, Wv.refl _, trivial⟩⟩⟩, (by simp [pureA, pureL, pureR, inA, inL, inR, inO, idsIn, encs_pure, enys_pure, valC_pure, tyC_pure])⟩, (fun _ h => by cases h)⟩⟩, ⟨hr, Nat.le_of_succ_le hm⟩, Nat.lt_succ_self _⟩
            ·replace hr := cnd_f h98 hr
             refine AW.exit ?_
             refine AW.seq ?_
             refine AW.rg ?_
             refine AL.v good (d := 112) (v := .int .i64 1) rfl rfl rfl rfl ?_
             refine AL.cw good (d := 113) (xs := [.int .i64 1]) (res := .agg [.int .i64 1, .sl .ro 2 (enys [])]) rfl rfl rfl rfl rfl rfl rfl (w_f121 1) ⟨(Wv.refl _), trivial⟩ (by simp [pureA, pureL, pureR, inA, inL, inR, inO, idsIn, encs_pure, enys_pure, valC_pure, tyC_pure]) ?_
             refine AL.st2 good (c2 := [.int .i64 1, .sl .ro 2 (enys [])]) rfl rfl rfl rfl rfl rfl rfl rfl rfl rfl rfl rfl ?_
             refine AL.v good (d := 7) (v := .int .i64 0) rfl rfl rfl rfl ?_
             refine AW.ret ?_
             obtain rfl := Option.some.inj hr
             exact RetQ.w good (.inr rfl) rfl rfl (Wv.refl _) (by simp [pureA, pureL, pureR, inA, inL, inR, inO, idsIn, encs_pure, enys_pure, valC_pure, tyC_pure])
          ·replace hr := cnd_f h91 hr
           refine AW.rg ?_
           refine AL.sb good (d := 89) (b := (a0.data.toList == [114, 101, 109])) rfl rfl rfl rfl rfl rfl rfl ?_
           refine AL.v good (d := 83) (v := .bool (a0.data.toList == [114, 101, 109])) rfl rfl rfl rfl ?_
           refine AW.if rfl (fun h102 => ?_) (fun h102 => ?_)
           ·replace hr := cnd_t h102 hr
            refine AW.seq ?_
            refine AW.rg ?_
            refine AL.v good (d := 8) (v := .int .i64 1) rfl rfl rfl rfl ?_
            refine AW.rg ?_
            refine AL.v good (d := 9) (v := .int .i64 1) rfl rfl rfl rfl ?_
            refine AW.seq ?_
            refine AW.seq ?_
            refine AW.rg ?_
            refine AL.v good (d := 11) (v := .int .i64 0) rfl rfl rfl rfl ?_
            refine AW.block ?_
            refine AW.lens 2 rfl (fun hl108 => ?_)
            replace hl108 : a2.length ≤ 9223372036854775807 := by rw [← enys_length a2]; exact hl108
            refine AW.lpw (fun x : Nat × Nat => [(2, .sl .ro 2 (enys a2)), (6, .ptr 0 0), (8, .int .i64 1), (9, .int .i64 1), (11, .int .i64 (x.2 : Int))]) (fun x => [(0, .box 40 [.int .i64 0, .sl .nil 0 []])]) (fun x => s_f94_l1 x.1 a2 x.2 = some r ∧ x.1 ≤ n) (fun x => x.1) (n, 0) ⟨(fun _ h => by cases h), fmc ⟨⟨⟨_, rfl, Wv.refl _⟩, (by simp [pureA, pureL, pureR, inA, inL, inR, inO, idsIn, encs_pure, enys_pure, valC_pure, tyC_pure])⟩, fmc ⟨⟨⟨_, rfl, Wv.refl _⟩, (by simp [pureA, pureL, pureR, inA, inL, inR, inO, idsIn, encs_pure, enys_pure, valC_pure, tyC_pure])⟩, fmc ⟨⟨⟨_, rfl, Wv.refl _⟩, (by simp [pureA, pureL, pureR, inA, inL, inR, inO, idsIn, encs_pure, enys_pure, valC_pure, tyC_pure])⟩, fmc ⟨⟨⟨_, rfl, Wv.refl _⟩, (by simp [pureA, pureL, pureR, inA, inL, inR, inO, idsIn, encs_pure, enys_pure, valC_pure, tyC_pure])⟩, fmc ⟨⟨⟨_, rfl, Wv.refl _⟩, (by simp [pureA, pureL, pureR, inA, inL, inR, inO, idsIn, encs_pure, enys_pure, valC_pure, tyC_pure])⟩, (fun _ h => by cases h)⟩⟩⟩⟩⟩, fmc ⟨⟨⟨_, rfl, ⟨rfl, ⟨Wv.refl _, Wv.refl _, trivial⟩⟩⟩, (by simp [pureA, pureL, pureR, inA, inL, inR, inO, idsIn, encs_pure, enys_pure, valC_pure, tyC_pure])⟩, (fun _ h => by cases h)⟩⟩ ⟨hr, Nat.le_refl _⟩ (fun ⟨m, v6_1⟩ hx => ?_)
            obtain ⟨hr, hm⟩ := hx
            try dsimp only at hr hm
            cases m with
            | zero => rw [s_f94_l1] at hr; cases hr
            | succ m =>
             rw [s_f94_l1] at hr
             show AW Try.prog _ _ _ (mkS 114 [(2, .sl .ro 2 (enys a2)), (6, .ptr 0 0), (8, .int .i64 1), (9, .int .i64 1), (11, .int .i64 (v6_1 : Int))] [(0, .box 40 [.int .i64 0, .sl .nil 0 []])])
             refine AW.seq ?_
             refine AW.seq ?_
             refine AW.rg ?_
             refine AL.v good (d := 98) (v := .int .i64 (v6_1 : Int)) rfl rfl rfl rfl ?_
             refine AL.v good (d := 99) (v := .sl .ro 2 (enys a2)) rfl rfl rfl rfl ?_
             refine AL.ln good (d := 100) (m := a2.length) rfl rfl rfl rfl rfl rfl (enys_length _) ?_
             refine AL.v good (d := 101) (v := .bool (decide ((v6_1 : Int) < (a2.length : Int)))) rfl rfl rfl rfl ?_
             refine AW.if rfl (fun h109 => ?_) (fun h109 => ?_)
             ·replace hr := cnd_t h109 hr
              refine AW.skip ?_
              refine AW.seq ?_
              refine AW.block ?_
              refine AW.seq ?_
              refine AW.rg ?_
              refine AL.v good (d := 104) (v := .sl .ro 2 (enys a2)) rfl rfl rfl rfl ?_
              refine AL.v good (d := 105) (v := .int .i64 (v6_1 : Int)) rfl rfl rfl rfl ?_
              obtain ⟨x110, h111, hr⟩ := bnd1 hr
              refine AL.ix good (d := 106) (r := [.int .i64 x110.kind, .sl .ro 2 (enys x110.of)]) rfl rfl rfl rfl rfl rfl rfl (Int.natCast_nonneg _) (enys_get h111) ?_
              refine AL.v good (d := 107) (v := .ep [.int .i64 x110.kind, .sl .ro 2 (enys x110.of)]) rfl rfl rfl rfl ?_
              refine AL.v good (d := 108) (v := .int .i64 x110.kind) rfl rfl rfl rfl ?_
              refine AL.v good (d := 109) (v := .int .i64 1) rfl rfl rfl rfl ?_
              refine AL.v good (d := 110) (v := .bool (x110.kind != 1)) rfl rfl rfl rfl ?_
              refine AW.if rfl (fun h112 => ?_) (fun h112 => ?_)
              ·replace hr := cnd_t h112 hr
               refine AW.seq ?_
               refine AW.rg ?_
               refine AL.bld good (d := 111) (l := [.int .i64 0, .sl .nil 0 []]) rfl rfl rfl rfl rfl rfl rfl ?_
               refine AL.st2 good (c2 := [.int .i64 0, .sl .nil 0 []]) rfl rfl rfl rfl rfl rfl rfl rfl rfl rfl rfl rfl ?_
               refine AL.v good (d := 7) (v := .int .i64 5) rfl rfl rfl rfl ?_
               refine AW.ret ?_
               obtain rfl := Option.some.inj hr
               exact RetQ.w good (.inr rfl) rfl rfl ⟨⟨Wv.refl _, ⟨.inr rfl, trivial, .inr rfl⟩, trivial⟩, Wv.refl _, trivial⟩ (by simp [pureA, pureL, pureR, inA, inL, inR, inO, idsIn, encs_pure, enys_pure, valC_pure, tyC_pure])
              ·replace hr := cnd_f h112 hr
               refine AW.skip ?_
               refine AW.rg ?_
               refine AL.v good (d := 102) (v := .int .i64 (v6_1 : Int)) rfl rfl rfl rfl ?_
               refine AL.v good (d := 103) (v := .int .i64 (IntKind.i64.wrap ((v6_1 : Int) + 1))) rfl rfl rfl rfl ?_
               refine AL.v good (d := 11) (v := .int .i64 (IntKind.i64.wrap ((v6_1 : Int) + 1))) rfl rfl rfl rfl ?_
               exact ⟨(m, (v6_1 + 1)), _, _, rfl, ⟨(fun _ h => by cases h), fmc ⟨⟨⟨_, rfl, Wv.refl _⟩, (by simp [pureA, pureL, pureR, inA, inL, inR, inO, idsIn, encs_pure, enys_pure, valC_pure, tyC_pure])⟩, fmc ⟨⟨⟨_, rfl, Wv.refl _⟩, (by simp [pureA, pureL, pureR, inA, inL, inR, inO, idsIn, encs_pure, enys_pure, valC_pure, tyC_pure])⟩, fmc ⟨⟨⟨_, rfl, Wv.refl _⟩, (by simp [pureA, pureL, pureR, inA, inL, inR, inO, idsIn, encs_pure, enys_pure, valC_pure, tyC_pure])⟩, fmc ⟨⟨⟨_, rfl, Wv.refl _⟩, (by simp [pureA, pureL, pureR, inA, inL, inR, inO, idsIn, encs_pure, enys_pure, valC_pure, tyC_pure])⟩, fmc ⟨⟨⟨_, rfl, (wnx h109 hl108)⟩, (by simp [pureA, pureL, pureR, inA, inL, inR, inO, idsIn, encs_pure, enys_pure, valC_pure, tyC_pure])⟩, (fun _ h => by cases h)⟩⟩⟩⟩⟩, fmc ⟨⟨⟨_, rfl, ⟨rfl, ⟨Wv.refl _, Wv.refl _, trivial⟩⟩⟩, (by simp [pureA, pureL, pureR, inA, inL, inR, inO, idsIn, encs_pure, enys_pure, valC_pure, tyC_pure])⟩, (fun _ h => by cases h)⟩⟩, ⟨hr, Nat.le_of_succ_le hm⟩, Nat.lt_succ_self _⟩
             ·replace hr := cnd_f h109 hr
              refine AW.exit ?_
              refine AW.seq ?_
              refine AW.rg ?_
              refine AL.v good (d := 112) (v := .int .i64 1) rfl rfl rfl rfl ?_
              refine AL.cw good (d := 113) (xs := [.int .i64 1]) (res := .agg [.int .i64 1, .sl .ro 2 (enys [])]) rfl rfl rfl rfl rfl rfl rfl (w_f121 1) ⟨(Wv.refl _), trivial⟩ (by simp [pureA, pureL, pureR, inA, inL, inR, inO, idsIn, encs_pure, enys_pure, valC_pure, tyC_pure]) ?_
              refine AL.st2 good (c2 := [.int .i64 1, .sl .ro 2 (enys [])]) rfl rfl rfl rfl rfl rfl rfl rfl rfl rfl rfl rfl ?_
              refine AL.v good (d := 7) (v := .int .i64 0) rfl rfl rfl rfl ?_
              refine AW.ret ?_
              obtain rfl := Option.some.inj hr
              exact RetQ.w good (.inr rfl) rfl rfl (Wv.refl _) (by simp [pureA, pureL, pureR, inA, inL, inR, inO, idsIn, encs_pure, enys_pure, valC_pure, tyC_pure])
           ·replace hr := cnd_f h102 hr
            refine AW.seq ?_
            refine AW.seq ?_
            refine AW.rg ?_
            refine AL.sb good (d := 91) (b := (a0.data.toList == [110, 111, 116])) rfl rfl rfl rfl rfl rfl rfl ?_
            refine AL.v good (d := 90) (v := .bool (a0.data.toList == [110, 111, 116])) rfl rfl rfl rfl ?_
            refine AW.if rfl (fun h113 => ?_) (fun h113 => ?_)
            ·replace hr := cnd_t h113 hr
             refine AW.skip ?_
             refine AW.if rfl (fun h => ?_) (fun h => by cases h113.symm.trans h)
             refine AW.seq ?_
             refine AW.rg ?_
             refine AL.v good (d := 8) (v := .int .i64 2) rfl rfl rfl rfl ?_
             refine AW.rg ?_
             refine AL.v good (d := 9) (v := .int .i64 2) rfl rfl rfl rfl ?_
             refine AW.seq ?_
             refine AW.seq ?_
             refine AW.rg ?_
             refine AL.v good (d := 11) (v := .int .i64 0) rfl rfl rfl rfl ?_
             refine AW.block ?_
             refine AW.lens 2 rfl (fun hl119 => ?_)
             replace hl119 : a2.length ≤ 9223372036854775807 := by rw [← enys_length a2]; exact hl119
             refine AW.lpw (fun x : Nat × Nat => [(2, .sl .ro 2 (enys a2)), (6, .ptr 0 0), (8, .int .i64 2), (9, .int .i64 2), (11, .int .i64 (x.2 : Int))]) (fun x => [(0, .box 40 [.int .i64 0, .sl .nil 0 []])]) (fun x => s_f94_l7 x.1 a2 x.2 = some r ∧ x.1 ≤ n) (fun x => x.1) (n, 0) ⟨(fun _ h => by cases h), fmc ⟨⟨⟨_, rfl, Wv.refl _⟩, (by simp [pureA, pureL, pureR, inA, inL, inR, inO, idsIn, encs_pure, enys_pure, valC_pure, tyC_pure])⟩, fmc ⟨⟨⟨_, rfl, Wv.refl _⟩, (by simp [pureA, pureL, pureR, inA, inL, inR, inO, idsIn, encs_pure, enys_pure, valC_pure, tyC_pure])⟩, fmc ⟨⟨⟨_, rfl, Wv.refl _⟩, (by simp [pureA, pureL, pureR, inA, inL, inR, inO, idsIn, encs_pure, enys_pure, valC_pure, tyC_pure])⟩, fmc ⟨⟨⟨_, rfl, Wv.refl _⟩, (by simp [pureA, pureL, pureR, inA, inL, inR, inO, idsIn, encs_pure, enys_pure, valC_pure, tyC_pure])⟩, fmc ⟨⟨⟨_, rfl, Wv.refl _⟩, (by simp [pureA, pureL, pureR, inA, inL, inR, inO, idsIn, encs_pure, enys_pure, valC_pure, tyC_pure])⟩, (fun _ h => by cases h)⟩⟩⟩⟩⟩, fmc ⟨⟨⟨_, rfl, ⟨rfl, ⟨Wv.refl _, Wv.refl _, trivial⟩⟩⟩, (by simp [pureA, pureL, pureR, inA, inL, inR, inO, idsIn, encs_pure, enys_pure, valC_pure, tyC_pure])⟩, (fun _ h => by cases h)⟩⟩ ⟨hr, Nat.le_refl _⟩ (fun ⟨m, v7_1⟩ hx => ?_)
             obtain ⟨hr, hm⟩ := hx
             try dsimp only at hr hm
             cases m with
             | zero => rw [s_f94_l7] at hr; cases hr
             | succ m =>
              rw [s_f94_l7] at hr
              show AW Try.prog _ _ _ (mkS 114 [(2, .sl .ro 2 (enys a2)), (6, .ptr 0 0), (8, .int .i64 2), (9, .int .i64 2), (11, .int .i64 (v7_1 : Int))] [(0, .box 40 [.int .i64 0, .sl .nil 0 []])])
              refine AW.seq ?_
              refine AW.seq ?_
              refine AW.rg ?_
              refine AL.v good (d := 98) (v := .int .i64 (v7_1 : Int)) rfl rfl rfl rfl ?_
              refine AL.v good (d := 99) (v := .sl .ro 2 (enys a2)) rfl rfl rfl rfl ?_
              refine AL.ln good (d := 100) (m := a2.length) rfl rfl rfl rfl rfl rfl (enys_length _) ?_
              refine AL.v good (d := 101) (v := .bool (decide ((v7_1 : Int) < (a2.length : Int)))) rfl rfl rfl rfl ?_
              refine AW.if rfl (fun h120 => ?_) (fun h120 => ?_)
              ·replace hr := cnd_t h120 hr
               refine AW.skip ?_
               refine AW.seq ?_
               refine AW.block ?_
               refine AW.seq ?_
               refine AW.rg ?_
               refine AL.v good (d := 104) (v := .sl .ro 2 (enys a2)) rfl rfl rfl rfl ?_
               refine AL.v good (d := 105) (v := .int .i64 (v7_1 : Int)) rfl rfl rfl rfl ?_
               obtain ⟨x121, h122, hr⟩ := bnd1 hr
               refine AL.ix good (d := 106) (r := [.int .i64 x121.kind, .sl .ro 2 (enys x121.of)]) rfl rfl rfl rfl rfl rfl rfl (Int.natCast_nonneg _) (enys_get h122) ?_
               refine AL.v good (d := 107) (v := .ep [.int .i64 x121.kind, .sl .ro 2 (enys x121.of)]) rfl rfl rfl rfl ?_
               refine AL.v good (d := 108) (v := .int .i64 x121.kind) rfl rfl rfl rfl ?_
               refine AL.v good (d := 109) (v := .int .i64 2) rfl rfl rfl rfl ?_
               refine AL.v good (d := 110) (v := .bool (x121.kind != 2)) rfl rfl rfl rfl ?_
               refine AW.if rfl (fun h123 => ?_) (fun h123 => ?_)
               ·replace hr := cnd_t h123 hr
                refine AW.seq ?_
                refine AW.rg ?_
                refine AL.bld good (d := 111) (l := [.int .i64 0, .sl .nil 0 []]) rfl rfl rfl rfl rfl rfl rfl ?_
                refine AL.st2 good (c2 := [.int .i64 0, .sl .nil 0 []]) rfl rfl rfl rfl rfl rfl rfl rfl rfl rfl rfl rfl ?_
                refine AL.v good (d := 7) (v := .int .i64 5) rfl rfl rfl rfl ?_
                refine AW.ret ?_
                obtain rfl := Option.some.inj hr
                exact RetQ.w good (.inr rfl) rfl rfl ⟨⟨Wv.refl _, ⟨.inr rfl, trivial, .inr rfl⟩, trivial⟩, Wv.refl _, trivial⟩ (by simp [pureA, pureL, pureR, inA, inL, inR, inO, idsIn, encs_pure, enys_pure, valC_pure, tyC_pure])
               ·replace hr := cnd_f h123 hr
                refine AW.skip ?_
                refine AW.rg ?_
                refine AL.v good (d := 102) (v := .int .i64 (v7_1 : Int)) rfl rfl rfl rfl ?_
                refine AL.v good (d := 103) (v := .int .i64 (IntKind.i64.wrap ((v7_1 : Int) + 1))) rfl rfl rfl rfl ?_
                refine AL.v good (d := 11) (v := .int .i64 (IntKind.i64.wrap ((v7_1 : Int) + 1))) rfl rfl rfl rfl ?_
                exact ⟨(m, (v7_1 + 1)), _, _, rfl, ⟨(fun _ h => by cases h), fmc ⟨⟨⟨_, rfl, Wv.refl _⟩, (by simp [pureA, pureL, pureR, inA, inL, inR, inO, idsIn, encs_pure, enys_pure, valC_pure, tyC_pure])⟩, fmc ⟨⟨⟨_, rfl, Wv.refl _⟩, (by simp [pureA, pureL, pureR, inA, inL, inR, inO, idsIn, encs_pure, enys_pure, valC_pure, tyC_pure])⟩, fmc ⟨⟨⟨_, rfl, Wv.refl _⟩, (by simp [pureA, pureL, pureR, inA, inL, inR, inO, idsIn, encs_pure, enys_pure, valC_pure, tyC_pure])⟩, fmc ⟨⟨⟨_, rfl, Wv.refl _⟩, (by simp [pureA, pureL, pureR, inA, inL, inR, inO, idsIn, encs_pure, enys_pure, valC_pure, tyC_pure])⟩, fmc ⟨⟨⟨_, rfl, (wnx h120 hl119)⟩, (by simp [pureA, pureL, pureR, inA, inL, inR, inO, idsIn, encs_pure, enys_pure, valC_pure, tyC_pure])⟩, (fun _ h => by cases h)⟩⟩⟩⟩⟩, fmc ⟨⟨⟨_, rfl, ⟨rfl, ⟨Wv.refl _, Wv.refl _, trivial⟩⟩⟩, (by simp [pureA, pureL, pureR, inA, inL, inR, inO, idsIn, encs_pure, enys_pure, valC_pure, tyC_pure])⟩, (fun _ h => by cases h)⟩⟩, ⟨hr, Nat.le_of_succ_le hm⟩, Nat.lt_succ_self _⟩
              ·replace hr := cnd_f h120 hr
               refine AW.exit ?_
               refine AW.seq ?_
               refine AW.rg ?_
               refine AL.v good (d := 112) (v := .int .i64 2) rfl rfl rfl rfl ?_
               refine AL.cw good (d := 113) (xs := [.int .i64 2]) (res := .agg [.int .i64 2, .sl .ro 2 (enys [])]) rfl rfl rfl rfl rfl rfl rfl (w_f121 2) ⟨(Wv.refl _), trivial⟩ (by simp [pureA, pureL, pureR, inA, inL, inR, inO, idsIn, encs_pure, enys_pure, valC_pure, tyC_pure]) ?_
               refine AL.st2 good (c2 := [.int .i64 2, .sl .ro 2 (enys [])]) rfl rfl rfl rfl rfl rfl rfl rfl rfl rfl rfl rfl ?_
               refine AL.v good (d := 7) (v := .int .i64 0) rfl rfl rfl rfl ?_
               refine AW.ret ?_
               obtain rfl := Option.some.inj hr
               exact RetQ.w good (.inr rfl) rfl rfl (Wv.refl _) (by simp [pureA, pureL, pureR, inA, inL, inR, inO, idsIn, encs_pure, enys_pure, valC_pure, tyC_pure])
            ·replace hr := cnd_f h113 hr
             refine AW.seq ?_
             refine AW.rg ?_
             refine AL.sb good (d := 92) (b := (a0.data.toList == [97, 110, 100])) rfl rfl rfl rfl rfl rfl rfl ?_
             refine AL.v good (d := 90) (v := .bool (a0.data.toList == [97, 110, 100])) rfl rfl rfl rfl ?_
             refine AW.if rfl (fun h124 => ?_) (fun h124 => ?_)
             ·replace hr := cnd_t h124 hr
              refine AW.skip ?_
              refine AW.if rfl (fun h => ?_) (fun h => by cases h124.symm.trans h)
              refine AW.seq ?_
              refine AW.rg ?_
              refine AL.v good (d := 8) (v := .int .i64 2) rfl rfl rfl rfl ?_
              refine AW.rg ?_
              refine AL.v good (d := 9) (v := .int .i64 2) rfl rfl rfl rfl ?_
              refine AW.seq ?_
              refine AW.seq ?_
              refine AW.rg ?_
              refine AL.v good (d := 11) (v := .int .i64 0) rfl rfl rfl rfl ?_
              refine AW.block ?_
              refine AW.lens 2 rfl (fun hl130 => ?_)
              replace hl130 : a2.length ≤ 9223372036854775807 := by rw [← enys_length a2]; exact hl130
              refine AW.lpw (fun x : Nat × Nat => [(2, .sl .ro 2 (enys a2)), (6, .ptr 0 0), (8, .int .i64 2), (9, .int .i64 2), (11, .int .i64 (x.2 : Int))]) (fun x => [(0, .box 40 [.int .i64 0, .sl .nil 0 []])]) (fun x => s_f94_l7 x.1 a2 x.2 = some r ∧ x.1 ≤ n) (fun x => x.1) (n, 0) ⟨(fun _ h => by cases h), fmc ⟨⟨⟨_, rfl, Wv.refl _⟩, (by simp [pureA, pureL, pureR, inA, inL, inR, inO, idsIn, encs_pure, enys_pure, valC_pure, tyC_pure])⟩, fmc ⟨⟨⟨_, rfl, Wv.refl _⟩, (by simp [pureA, pureL, pureR, inA, inL, inR, inO, idsIn, encs_pure, enys_pure, valC_pure, tyC_pure])⟩, fmc ⟨⟨⟨_, rfl, Wv.refl _⟩, (by simp [pureA, pureL, pureR, inA, inL, inR, inO, idsIn, encs_pure, enys_pure, valC_pure, tyC_pure])⟩, fmc ⟨⟨⟨_, rfl, Wv.refl _⟩, (by simp [pureA, pureL, pureR, inA, inL, inR, inO, idsIn, encs_pure, enys_pure, valC_pure, tyC_pure])⟩, fmc ⟨⟨⟨_, rfl, Wv.refl _⟩, (by simp [pureA, pureL, pureR, inA, inL, inR, inO, idsIn, encs_pure, enys_pure, valC_pure, tyC_pure])⟩, (fun _ h => by cases h)⟩⟩⟩⟩⟩, fmc ⟨⟨⟨_, rfl, ⟨rfl, ⟨Wv.refl _, Wv.refl _, trivial⟩⟩⟩, (by simp [pureA, pureL, pureR, inA, inL, inR, inO, idsIn, encs_pure, enys_pure, valC_pure, tyC_pure])⟩, (fun _ h => by cases h)⟩⟩ ⟨hr, Nat.le_refl _⟩ (fun ⟨m, v8_1⟩ hx => ?_)
              obtain ⟨hr, hm⟩ := hx
              try dsimp only at hr hm
              cases m with
              | zero => rw [s_f94_l7] at hr; cases hr
              | succ m =>
               rw [s_f94_l7] at hr
               show AW Try.prog _ _ _ (mkS 114 [(2, .sl .ro 2 (enys a2)), (6, .ptr 0 0), (8, .int .i64 2), (9, .int .i64 2), (11, .int .i64 (v8_1 : Int))] [(0, .box 40 [.int .i64 0, .sl .nil 0 []])])
               refine AW.seq ?_
               refine AW.seq ?_
               refine AW.rg ?_
               refine AL.v good (d := 98) (v := .int .i64 (v8_1 : Int)) rfl rfl rfl rfl ?_
               refine AL.v good (d := 99) (v := .sl .ro 2 (enys a2)) rfl rfl rfl rfl ?_
               refine AL.ln good (d := 100) (m := a2.length) rfl rfl rfl rfl rfl rfl (enys_length _) ?_
               refine AL.v good (d := 101) (v := .bool (decide ((v8_1 : Int) < (a2.length : Int)))) rfl rfl rfl rfl ?_
               refine AW.if rfl (fun h131 => ?_) (fun h131 => ?_)
               ·replace hr := cnd_t h131 hr
                refine AW.skip ?_
                refine AW.seq ?_
                refine AW.block ?_
                refine AW.seq ?_
                refine AW.rg ?_
                refine AL.v good (d := 104) (v := .sl .ro 2 (enys a2)) rfl rfl rfl rfl ?_
                refine AL.v good (d := 105) (v := .int .i64 (v8_1 : Int)) rfl rfl rfl rfl ?_
                obtain ⟨x132, h133, hr⟩ := bnd1 hr
                refine AL.ix good (d := 106) (r := [.int .i64 x132.kind, .sl .ro 2 (enys x132.of)]) rfl rfl rfl rfl rfl rfl rfl (Int.natCast_nonneg _) (enys_get h133) ?_
                refine AL.v good (d := 107) (v := .ep [.int .i64 x132.kind, .sl .ro 2 (enys x132.of)]) rfl rfl rfl rfl ?_
                refine AL.v good (d := 108) (v := .int .i64 x132.kind) rfl rfl rfl rfl ?_
                refine AL.v good (d := 109) (v := .int .i64 2) rfl rfl rfl rfl ?_
                refine AL.v good (d := 110) (v := .bool (x132.kind != 2)) rfl rfl rfl rfl ?_
                refine AW.if rfl (fun h134 => ?_) (fun h134 => ?_)
                ·replace hr := cnd_t h134 hr
                 refine AW.seq ?_
                 refine AW.rg ?_
                 refine AL.bld good (d := 111) (l := [.int .i64 0, .sl .nil 0 []]) rfl rfl rfl rfl rfl rfl rfl ?_
                 refine AL.st2 good (c2 := [.int .i64 0, .sl .nil 0 []]) rfl rfl rfl rfl rfl rfl rfl rfl rfl rfl rfl rfl ?_
                 refine AL.v good (d := 7) (v := .int .i64 5) rfl rfl rfl rfl ?_
                 refine AW.ret ?_
                 obtain rfl := Option.some.inj hr
                 exact RetQ.w good (.inr rfl) rfl rfl ⟨⟨Wv.refl _, ⟨.inr rfl, trivial, .inr rfl⟩, trivial⟩, Wv.refl _, trivial⟩ (by simp [pureA, pureL, pureR, inA, inL, inR, inO, idsIn, encs_pure, enys_pure, valC_pure, tyC_pure])
                ·replace hr := cnd_f h134 hr
                 refine AW.skip ?_
                 refine AW.rg ?_
                 refine AL.v good (d := 102) (v := .int .i64 (v8_1 : Int)) rfl rfl rfl rfl ?_
                 refine AL.v good (d := 103) (v := .int .i64 (IntKind.i64.wrap ((v8_1 : Int) + 1))) rfl rfl rfl rfl ?_
                 refine AL.v good (d := 11) (v := .int .i64 (IntKind.i64.wrap ((v8_1 : Int) + 1))) rfl rfl rfl rfl ?_
                 exact ⟨(m, (v8_1 + 1)), _, _, rfl, ⟨(fun _ h => by cases h), fmc ⟨⟨⟨_, rfl, Wv.refl _⟩, (by simp [pureA, pureL, pureR, inA, inL, inR, inO, idsIn, encs_pure, enys_pure, valC_pure, tyC_pure])⟩, fmc ⟨⟨⟨_, rfl, Wv.refl _⟩, (by simp [pureA, pureL, pureR, inA, inL, inR, inO, idsIn, encs_pure, enys_pure, valC_pure, tyC_pure])⟩, fmc ⟨⟨⟨_, rfl, Wv.refl _⟩, (by simp [pureA, pureL, pureR, inA, inL, inR, inO, idsIn, encs_pure, enys_pure, valC_pure, tyC_pure])⟩, fmc ⟨⟨⟨_, rfl, Wv.refl _⟩, (by simp [pureA, pureL, pureR, inA, inL, inR, inO, idsIn, encs_pure, enys_pure, valC_pure, tyC_pure])⟩, fmc ⟨⟨⟨_, rfl, (wnx h131 hl130)⟩, (by simp [pureA, pureL, pureR, inA, inL, inR, inO, idsIn, encs_pure, enys_pure, valC_pure, tyC_pure])⟩, (fun _ h => by cases h)⟩⟩⟩⟩⟩, fmc ⟨⟨⟨_, rfl, ⟨rfl, ⟨Wv.refl _, Wv.refl _, trivial⟩⟩⟩, (by simp [pureA, pureL, pureR, inA, inL, inR, inO, idsIn, encs_pure, enys_pure, valC_pure, tyC_pure])⟩, (fun _ h => by cases h)⟩⟩, ⟨hr, Nat.le_of_succ_le hm⟩, Nat.lt_succ_self _⟩
               ·replace hr := cnd_f h131 hr
                refine AW.exit ?_
                refine AW.seq ?_
                refine AW.rg ?_
                refine AL.v good (d := 112) (v := .int .i64 2) rfl rfl rfl rfl ?_
                refine AL.cw good (d := 113) (xs := [.int .i64 2]) (res := .agg [.int .i64 2, .sl .ro 2 (enys [])]) rfl rfl rfl rfl rfl rfl rfl (w_f121 2) ⟨(Wv.refl _), trivial⟩ (by simp [pureA, pureL, pureR, inA, inL, inR, inO, idsIn, encs_pure, enys_pure, valC_pure, tyC_pure]) ?_
                refine AL.st2 good (c2 := [.int .i64 2, .sl .ro 2 (enys [])]) rfl rfl rfl rfl rfl rfl rfl rfl rfl rfl rfl rfl ?_
                refine AL.v good (d := 7) (v := .int .i64 0) rfl rfl rfl rfl ?_
                refine AW.ret ?_
                obtain rfl := Option.some.inj hr
                exact RetQ.w good (.inr rfl) rfl rfl (Wv.refl _) (by simp [pureA, pureL, pureR, inA, inL, inR, inO, idsIn, encs_pure, enys_pure, valC_pure, tyC_pure])
             ·replace hr := cnd_f h124 hr
              refine AW.rg ?_
              refine AL.sb good (d := 93) (b := (a0.data.toList == [111, 114])) rfl rfl rfl rfl rfl rfl rfl ?_
              refine AL.v good (d := 90) (v := .bool (a0.data.toList == [111, 114])) rfl rfl rfl rfl ?_
              refine AW.if rfl (fun h135 => ?_) (fun h135 => ?_)
              ·replace hr := cnd_t h135 hr
               refine AW.seq ?_
               refine AW.rg ?_
               refine AL.v good (d := 8) (v := .int .i64 2) rfl rfl rfl rfl ?_
               refine AW.rg ?_
               refine AL.v good (d := 9) (v := .int .i64 2) rfl rfl rfl rfl ?_
               refine AW.seq ?_
               refine AW.seq ?_
               refine AW.rg ?_
               refine AL.v good (d := 11) (v := .int .i64 0) rfl rfl rfl rfl ?_
               refine AW.block ?_
               refine AW.lens 2 rfl (fun hl141 => ?_)
               replace hl141 : a2.length ≤ 9223372036854775807 := by rw [← enys_length a2]; exact hl141
               refine AW.lpw (fun x : Nat × Nat => [(2, .sl .ro 2 (enys a2)), (6, .ptr 0 0), (8, .int .i64 2), (9, .int .i64 2), (11, .int .i64 (x.2 : Int))]) (fun x => [(0, .box 40 [.int .i64 0, .sl .nil 0 []])]) (fun x => s_f94_l7 x.1 a2 x.2 = some r ∧ x.1 ≤ n) (fun x => x.1) (n, 0) ⟨(fun _ h => by cases h), fmc ⟨⟨⟨_, rfl, Wv.refl _⟩, (by simp [pureA, pureL, pureR, inA, inL, inR, inO, idsIn, encs_pure, enys_pure, valC_pure, tyC_pure])⟩, fmc ⟨⟨⟨_, rfl, Wv.refl _⟩, (by simp [pureA, pureL, pureR, inA, inL, inR, inO, idsIn, encs_pure, enys_pure, valC_pure, tyC_pure])⟩, fmc ⟨⟨⟨_, rfl, Wv.refl _⟩, (by simp [pureA, pureL, pureR, inA, inL, inR, inO, idsIn, encs_pure, enys_pure, valC_pure, tyC_pure])⟩, fmc ⟨⟨⟨_, rfl, Wv.refl _⟩, (by simp [pureA, pureL, pureR, inA, inL, inR, inO, idsIn, encs_pure, enys_pure, valC_pure, tyC_pure])⟩, fmc ⟨⟨⟨_, rfl, Wv.refl _⟩, (by simp [pureA, pureL, pureR, inA, inL, inR, inO, idsIn, encs_pure, enys_pure, valC_pure, tyC_pure])⟩, (fun _ h => by cases h)⟩⟩⟩⟩⟩, fmc ⟨⟨⟨_, rfl, ⟨rfl, ⟨Wv.refl _, Wv.refl _, trivial⟩⟩⟩, (by simp [pureA, pureL, pureR, inA, inL, inR, inO, idsIn, encs_pure, enys_pure, valC_pure, tyC_pure])⟩, (fun _ h => by cases h)⟩⟩ ⟨hr, Nat.le_refl _⟩ (fun ⟨m, v9_1⟩ hx => ?_)
               obtain ⟨hr, hm⟩ := hx
               try dsimp only at hr hm
               cases m with
               | zero => rw [s_f94_l7] at hr; cases hr
               | succ m =>
                rw [s_f94_l7] at hr
                show AW Try.prog _ _ _ (mkS 114 [(2, .sl .ro 2 (enys a2)), (6, .ptr 0 0), (8, .int .i64 2), (9, .int .i64 2), (11, .int .i64 (v9_1 : Int))] [(0, .box 40 [.int .i64 0, .sl .nil 0 []])])
                refine AW.seq ?_
                refine AW.seq ?_
                refine AW.rg ?_
                refine AL.v good (d := 98) (v := .int .i64 (v9_1 : Int)) rfl rfl rfl rfl ?_
                refine AL.v good (d := 99) (v := .sl .ro 2 (enys a2)) rfl rfl rfl rfl ?_
                refine AL.ln good (d := 100) (m := a2.length) rfl rfl rfl rfl rfl rfl (enys_length _) ?_
                refine AL.v good (d := 101) (v := .bool (decide ((v9_1 : Int) < (a2.length : Int)))) rfl rfl rfl rfl ?_
                refine AW.if rfl (fun h142 => ?_) (fun h142 => ?_)
                ·replace hr := cnd_t h142 hr
                 refine AW.skip ?_
                 refine AW.seq ?_
                 refine AW.block ?_
                 refine AW.seq ?_
                 refine AW.rg ?_
                 refine AL.v good (d := 104) (v := .sl .ro 2 (enys a2)) rfl rfl rfl rfl ?_
                 refine AL.v good (d := 105) (v := .int .i64 (v9_1 : Int)) rfl rfl rfl rfl ?_
                 obtain ⟨x143, h144, hr⟩ := bnd1 hr
                 refine AL.ix good (d := 106) (r := [.int .i64 x143.kind, .sl .ro 2 (enys x143.of)]) rfl rfl rfl rfl rfl rfl rfl (Int.natCast_nonneg _) (enys_get h144) ?_
                 refine AL.v good (d := 107) (v := .ep [.int .i64 x143.kind, .sl .ro 2 (enys x143.of)]) rfl rfl rfl rfl ?_
                 refine AL.v good (d := 108) (v := .int .i64 x143.kind) rfl rfl rfl rfl ?_
                 refine AL.v good (d := 109) (v := .int .i64 2) rfl rfl rfl rfl ?_
                 refine AL.v good (d := 110) (v := .bool (x143.kind != 2)) rfl rfl rfl rfl ?_
                 refine AW.if rfl (fun h145 => ?_) (fun h145 => ?_)
                 ·replace hr := cnd_t h145 hr
                  refine AW.seq ?_
                  refine AW.rg ?_
                  refine AL.bld good (d := 111) (l := [.int .i64 0, .sl .nil 0 []]) rfl rfl rfl rfl rfl rfl rfl ?_
                  refine AL.st2 good (c2 := [.int .i64 0, .sl .nil 0 []]) rfl rfl rfl rfl rfl rfl rfl rfl rfl rfl rfl rfl ?_
                  refine AL.v good (d := 7) (v := .int .i64 5) rfl rfl rfl rfl ?_
                  refine AW.ret ?_
                  obtain rfl := Option.some.inj hr
                  exact RetQ.w good (.inr rfl) rfl rfl ⟨⟨Wv.refl _, ⟨.inr rfl, trivial, .inr rfl⟩, trivial⟩, Wv.refl _, trivial⟩ (by simp [pureA, pureL, pureR, inA, inL, inR, inO, idsIn, encs_pure, enys_pure, valC_pure, tyC_pure])
                 ·replace hr := cnd_f h145 hr
                  refine AW.skip ?_
                  refine AW.rg ?_
                  refine AL.v good (d := 102) (v := .int .i64 (v9_1 : Int)) rfl rfl rfl rfl ?_
                  refine AL.v good (d := 103) (v := .int .i64 (IntKind.i64.wrap ((v9_1 : Int) + 1))) rfl rfl rfl rfl ?_
                  refine AL.v good (d := 11) (v := .int .i64 (IntKind.i64.wrap ((v9_1 : Int) + 1))) rfl rfl rfl rfl ?_
                  exact ⟨(m, (v9_1 + 1)), _, _, rfl, ⟨(fun _ h => by cases h), fmc ⟨⟨⟨_, rfl, Wv.refl _⟩, (by simp [pureA, pureL, pureR, inA, inL, inR, inO, idsIn, encs_pure, enys_pure, valC_pure, tyC_pure])⟩, fmc ⟨⟨⟨_, rfl, Wv.refl _⟩, (by simp [pureA, pureL, pureR, inA, inL, inR, inO, idsIn, encs_pure, enys_pure, valC_pure, tyC_pure])⟩, fmc ⟨⟨⟨_, rfl, Wv.refl _⟩, (by simp [pureA, pureL, pureR, inA, inL, inR, inO, idsIn, encs_pure, enys_pure, valC_pure, tyC_pure])⟩, fmc ⟨⟨⟨_, rfl, Wv.refl _⟩, (by simp [pureA, pureL, pureR, inA, inL, inR, inO, idsIn, encs_pure, enys_pure, valC_pure, tyC_pure])⟩, fmc ⟨⟨⟨_, rfl, (wnx h142 hl141)⟩, (by simp [pureA, pureL, pureR, inA, inL, inR, inO, idsIn, encs_pure, enys_pure, valC_pure, tyC_pure])⟩, (fun _ h => by cases h)⟩⟩⟩⟩⟩, fmc ⟨⟨⟨_, rfl, ⟨rfl, ⟨Wv.refl _, Wv.refl _, trivial⟩⟩⟩, (by simp [pureA, pureL, pureR, inA, inL, inR, inO, idsIn, encs_pure, enys_pure, valC_pure, tyC_pure])⟩, (fun _ h => by cases h)⟩⟩, ⟨hr, Nat.le_of_succ_le hm⟩, Nat.lt_succ_self _⟩
                ·replace hr := cnd_f h142 hr
                 refine AW.exit ?_
                 refine AW.seq ?_
                 refine AW.rg ?_
                 refine AL.v good (d := 112) (v := .int .i64 2) rfl rfl rfl rfl ?_
                 refine AL.cw good (d := 113) (xs := [.int .i64 2]) (res := .agg [.int .i64 2, .sl .ro 2 (enys [])]) rfl rfl rfl rfl rfl rfl rfl (w_f121 2) ⟨(Wv.refl _), trivial⟩ (by simp [pureA, pureL, pureR, inA, inL, inR, inO, idsIn, encs_pure, enys_pure, valC_pure, tyC_pure]) ?_
                 refine AL.st2 good (c2 := [.int .i64 2, .sl .ro 2 (enys [])]) rfl rfl rfl rfl rfl rfl rfl rfl rfl rfl rfl rfl ?_
                 refine AL.v good (d := 7) (v := .int .i64 0) rfl rfl rfl rfl ?_
                 refine AW.ret ?_
                 obtain rfl := Option.some.inj hr
                 exact RetQ.w good (.inr rfl) rfl rfl (Wv.refl _) (by simp [pureA, pureL, pureR, inA, inL, inR, inO, idsIn, encs_pure, enys_pure, valC_pure, tyC_pure])
              ·replace hr := cnd_f h135 hr
               refine AW.seq ?_
               refine AW.rg ?_
               refine AL.sb good (d := 95) (b := (a0.data.toList == [99, 97, 116])) rfl rfl rfl rfl rfl rfl rfl ?_
               refine AL.v good (d := 94) (v := .bool (a0.data.toList == [99, 97, 116])) rfl rfl rfl rfl ?_
               refine AW.if rfl (fun h146 => ?_) (fun h146 => ?_)
               ·replace hr := cnd_t h146 hr
                refine AW.seq ?_
                refine AW.rg ?_
                refine AL.v good (d := 8) (v := .int .i64 3) rfl rfl rfl rfl ?_
                refine AW.rg ?_
                refine AL.v good (d := 9) (v := .int .i64 3) rfl rfl rfl rfl ?_
                refine AW.seq ?_
                refine AW.seq ?_
                refine AW.rg ?_
                refine AL.v good (d := 11) (v := .int .i64 0) rfl rfl rfl rfl ?_
                refine AW.block ?_
                refine AW.lens 2 rfl (fun hl152 => ?_)
                replace hl152 : a2.length ≤ 9223372036854775807 := by rw [← enys_length a2]; exact hl152
                refine AW.lpw (fun x : Nat × Nat => [(2, .sl .ro 2 (enys a2)), (6, .ptr 0 0), (8, .int .i64 3), (9, .int .i64 3), (11, .int .i64 (x.2 : Int))]) (fun x => [(0, .box 40 [.int .i64 0, .sl .nil 0 []])]) (fun x => s_f94_l10 x.1 a2 x.2 = some r ∧ x.1 ≤ n) (fun x => x.1) (n, 0) ⟨(fun _ h => by cases h), fmc ⟨⟨⟨_, rfl, Wv.refl _⟩, (by simp [pureA, pureL, pureR, inA, inL, inR, inO, idsIn, encs_pure, enys_pure, valC_pure, tyC_pure])⟩, fmc ⟨⟨⟨_, rfl, Wv.refl _⟩, (by simp [pureA, pureL, pureR, inA, inL, inR, inO, idsIn, encs_pure, enys_pure, valC_pure, tyC_pure])⟩, fmc ⟨⟨⟨_, rfl, Wv.refl _⟩, (by simp [pureA, pureL, pureR, inA, inL, inR, inO, idsIn, encs_pure, enys_pure, valC_pure, tyC_pure])⟩, fmc ⟨⟨⟨_, rfl, Wv.refl _⟩, (by simp [pureA, pureL, pureR, inA, inL, inR, inO, idsIn, encs_pure, enys_pure, valC_pure, tyC_pure])⟩, fmc ⟨⟨⟨_, rfl, Wv.refl _⟩, (by simp [pureA, pureL, pureR, inA, inL, inR, inO, idsIn, encs_pure, enys_pure, valC_pure, tyC_pure])⟩, (fun _ h => by cases h)⟩⟩⟩⟩⟩, fmc ⟨⟨⟨_, rfl, ⟨rfl, ⟨Wv.refl _, Wv.refl _, trivial⟩⟩⟩, (by simp [pureA, pureL, pureR, inA, inL, inR, inO, idsIn, encs_pure, enys_pure, valC_pure, tyC_pure])⟩, (fun _ h => by cases h)⟩⟩ ⟨hr, Nat.le_refl _⟩ (fun ⟨m, v10_1⟩ hx => ?_)
                obtain ⟨hr, hm⟩ := hx
                try dsimp only at hr hm
                cases m with
                | zero => rw [s_f94_l10] at hr; cases hr
                | succ m =>
                 rw [s_f94_l10] at hr
                 show AW Try.prog _ _ _ (mkS 114 [(2, .sl .ro 2 (enys a2)), (6, .ptr 0 0), (8, .int .i64 3), (9, .int .i64 3), (11, .int .i64 (v10_1 : Int))] [(0, .box 40 [.int .i64 0, .sl .nil 0 []])])
                 refine AW.seq ?_
                 refine AW.seq ?_
                 refine AW.rg ?_
                 refine AL.v good (d := 98) (v := .int .i64 (v10_1 : Int)) rfl rfl rfl rfl ?_
                 refine AL.v good (d := 99) (v := .sl .ro 2 (enys a2)) rfl rfl rfl rfl ?_
                 refine AL.ln good (d := 100) (m := a2.length) rfl rfl rfl rfl rfl rfl (enys_length _) ?_
                 refine AL.v good (d := 101) (v := .bool (decide ((v10_1 : Int) < (a2.length : Int)))) rfl rfl rfl rfl ?_
                 refine AW.if rfl (fun h153 => ?_) (fun h153 => ?_)
                 ·replace hr := cnd_t h153 hr
                  refine AW.skip ?_
                  refine AW.seq ?_
                  refine AW.block ?_
                  refine AW.seq ?_
                  refine AW.rg ?_
                  refine AL.v good (d := 104) (v := .sl .ro 2 (enys a2)) rfl rfl rfl rfl ?_
                  refine AL.v good (d := 105) (v := .int .i64 (v10_1 : Int)) rfl rfl rfl rfl ?_
                  obtain ⟨x154, h155, hr⟩ := bnd1 hr
                  refine AL.ix good (d := 106) (r := [.int .i64 x154.kind, .sl .ro 2 (enys x154.of)]) rfl rfl rfl rfl rfl rfl rfl (Int.natCast_nonneg _) (enys_get h155) ?_
                  refine AL.v good (d := 107) (v := .ep [.int .i64 x154.kind, .sl .ro 2 (enys x154.of)]) rfl rfl rfl rfl ?_
                  refine AL.v good (d := 108) (v := .int .i64 x154.kind) rfl rfl rfl rfl ?_
                  refine AL.v good (d := 109) (v := .int .i64 3) rfl rfl rfl rfl ?_
                  refine AL.v good (d := 110) (v := .bool (x154.kind != 3)) rfl rfl rfl rfl ?_
                  refine AW.if rfl (fun h156 => ?_) (fun h156 => ?_)
                  ·replace hr := cnd_t h156 hr
                   refine AW.seq ?_
                   refine AW.rg ?_
                   refine AL.bld good (d := 111) (l := [.int .i64 0, .sl .nil 0 []]) rfl rfl rfl rfl rfl rfl rfl ?_
                   refine AL.st2 good (c2 := [.int .i64 0, .sl .nil 0 []]) rfl rfl rfl rfl rfl rfl rfl rfl rfl rfl rfl rfl ?_
                   refine AL.v good (d := 7) (v := .int .i64 5) rfl rfl rfl rfl ?_
                   refine AW.ret ?_
                   obtain rfl := Option.some.inj hr
                   exact RetQ.w good (.inr rfl) rfl rfl ⟨⟨Wv.refl _, ⟨.inr rfl, trivial, .inr rfl⟩, trivial⟩, Wv.refl _, trivial⟩ (by simp [pureA, pureL, pureR, inA, inL, inR, inO, idsIn, encs_pure, enys_pure, valC_pure, tyC_pure])
                  ·replace hr := cnd_f h156 hr
                   refine AW.skip ?_
                   refine AW.rg ?_
                   refine AL.v good (d := 102) (v := .int .i64 (v10_1 : Int)) rfl rfl rfl rfl ?_
                   refine AL.v good (d := 103) (v := .int .i64 (IntKind.i64.wrap ((v10_1 : Int) + 1))) rfl rfl rfl rfl ?_
                   refine AL.v good (d := 11) (v := .int .i64 (IntKind.i64.wrap ((v10_1 : Int) + 1))) rfl rfl rfl rfl ?_
                   exact ⟨(m, (v10_1 + 1)), _, _, rfl, ⟨(fun _ h => by cases h), fmc ⟨⟨⟨_, rfl, Wv.refl _⟩, (by simp [pureA, pureL, pureR, inA, inL, inR, inO, idsIn, encs_pure, enys_pure, valC_pure, tyC_pure])⟩, fmc ⟨⟨⟨_, rfl, Wv.refl _⟩, (by simp [pureA, pureL, pureR, inA, inL, inR, inO, idsIn, encs_pure, enys_pure, valC_pure, tyC_pure])⟩, fmc ⟨⟨⟨_, rfl, Wv.refl _⟩, (by simp [pureA, pureL, pureR, inA, inL, inR, inO, idsIn, encs_pure, enys_pure, valC_pure, tyC_pure])⟩, fmc ⟨⟨⟨_, rfl, Wv.refl _⟩, (by simp [pureA, pureL, pureR, inA, inL, inR, inO, idsIn, encs_pure, enys_pure, valC_pure, tyC_pure])⟩, fmc ⟨⟨⟨_, rfl, (wnx h153 hl152)⟩, (by simp [pureA, pureL, pureR, inA, inL, inR, inO, idsIn, encs_pure, enys_pure, valC_pure, tyC_pure])⟩, (fun _ h => by cases h)⟩⟩⟩⟩⟩, fmc ⟨⟨⟨_, rfl, ⟨rfl, ⟨Wv.refl _, Wv.refl _, trivial⟩⟩⟩, (by simp [pureA, pureL, pureR, inA, inL, inR, inO, idsIn, encs_pure, enys_pure, valC_pure, tyC_pure])⟩, (fun _ h => by cases h)⟩⟩, ⟨hr, Nat.le_of_succ_le hm⟩, Nat.lt_succ_self _⟩
                 ·replace hr := cnd_f h153 hr
                  refine AW.exit ?_
                  refine AW.seq ?_
                  refine AW.rg ?_
                  refine AL.v good (d := 112) (v := .int .i64 3) rfl rfl rfl rfl ?_
                  refine AL.cw good (d := 113) (xs := [.int .i64 3]) (res := .agg [.int .i64 3, .sl .ro 2 (enys [])]) rfl rfl rfl rfl rfl rfl rfl (w_f121 3) ⟨(Wv.refl _), trivial⟩ (by simp [pureA, pureL, pureR, inA, inL, inR, inO, idsIn, encs_pure, enys_pure, valC_pure, tyC_pure]) ?_
                  refine AL.st2 good (c2 := [.int .i64 3, .sl .ro 2 (enys [])]) rfl rfl rfl rfl rfl rfl rfl rfl rfl rfl rfl rfl ?_
                  refine AL.v good (d := 7) (v := .int .i64 0) rfl rfl rfl rfl ?_
                  refine AW.ret ?_
                  obtain rfl := Option.some.inj hr
                  exact RetQ.w good (.inr rfl) rfl rfl (Wv.refl _) (by simp [pureA, pureL, pureR, inA, inL, inR, inO, idsIn, encs_pure, enys_pure, valC_pure, tyC_pure])
               ·replace hr := cnd_f h146 hr
                refine AW.seq ?_
                refine AW.rg ?_
                refine AL.sb good (d := 97) (b := (a0.data.toList == [108, 101, 110])) rfl rfl rfl rfl rfl rfl rfl ?_
                refine AL.v good (d := 96) (v := .bool (a0.data.toList == [108, 101, 110])) rfl rfl rfl rfl ?_
                refine AW.if rfl (fun h157 => ?_) (fun h157 => ?_)
                ·replace hr := cnd_t h157 hr
                 refine AW.seq ?_
                 refine AW.rg ?_
                 refine AL.v good (d := 8) (v := .int .i64 3) rfl rfl rfl rfl ?_
                 refine AW.rg ?_
                 refine AL.v good (d := 9) (v := .int .i64 1) rfl rfl rfl rfl ?_
                 refine AW.seq ?_
                 refine AW.seq ?_
                 refine AW.rg ?_
                 refine AL.v good (d := 11) (v := .int .i64 0) rfl rfl rfl rfl ?_
                 refine AW.block ?_
                 refine AW.lens 2 rfl (fun hl163 => ?_)
                 replace hl163 : a2.length ≤ 9223372036854775807 := by rw [← enys_length a2]; exact hl163
                 refine AW.lpw (fun x : Nat × Nat => [(2, .sl .ro 2 (enys a2)), (6, .ptr 0 0), (8, .int .i64 3), (9, .int .i64 1), (11, .int .i64 (x.2 : Int))]) (fun x => [(0, .box 40 [.int .i64 0, .sl .nil 0 []])]) (fun x => s_f94_l11 x.1 a2 x.2 = some r ∧ x.1 ≤ n) (fun x => x.1) (n, 0) ⟨(fun _ h => by cases h), fmc ⟨⟨⟨_, rfl, Wv.refl _⟩, (by simp [pureA, pureL, pureR, inA, inL, inR, inO, idsIn, encs_pure, enys_pure, valC_pure, tyC_pure])⟩, fmc ⟨⟨⟨_, rfl, Wv.refl _⟩, (by simp [pureA, pureL, pureR, inA, inL, inR, inO, idsIn, encs_pure, enys_pure, valC_pure, tyC_pure])⟩, fmc ⟨⟨⟨_, rfl, Wv.refl _⟩, (by simp [pureA, pureL, pureR, inA, inL, inR, inO, idsIn, encs_pure, enys_pure, valC_pure, tyC_pure])⟩, fmc ⟨⟨⟨_, rfl, Wv.refl _⟩, (by simp [pureA, pureL, pureR, inA, inL, inR, inO, idsIn, encs_pure, enys_pure, valC_pure, tyC_pure])⟩, fmc ⟨⟨⟨_, rfl, Wv.refl _⟩, (by simp [pureA, pureL, pureR, inA, inL, inR, inO, idsIn, encs_pure, enys_pure, valC_pure, tyC_pure])⟩, (fun _ h => by cases h)⟩⟩⟩⟩⟩, fmc ⟨⟨⟨_, rfl, ⟨rfl, ⟨Wv.refl _, Wv.refl _, trivial⟩⟩⟩, (by simp [pureA, pureL, pureR, inA, inL, inR, inO, idsIn, encs_pure, enys_pure, valC_pure, tyC_pure])⟩, (fun _ h => by cases h)⟩⟩ ⟨hr, Nat.le_refl _⟩ (fun ⟨m, v11_1⟩ hx => ?_)
                 obtain ⟨hr, hm⟩ := hx
                 try dsimp only at hr hm
                 cases m with
                 | zero => rw [s_f94_l11] at hr; cases hr
                 | succ m =>
                  rw [s_f94_l11] at hr
                  show AW Try.prog _ _ _ (mkS 114 [(2, .sl .ro 2 (enys a2)), (6, .ptr 0 0), (8, .int .i64 3), (9, .int .i64 1), (11, .int .i64 (v11_1 : Int))] [(0, .box 40 [.int .i64 0, .sl .nil 0 []])])
                  refine AW.seq ?_
                  refine AW.seq ?_
                  refine AW.rg ?_
                  refine AL.v good (d := 98) (v := .int .i64 (v11_1 : Int)) rfl rfl rfl rfl ?_
                  refine AL.v good (d := 99) (v := .sl .ro 2 (enys a2)) rfl rfl rfl rfl ?_
                  refine AL.ln good (d := 100) (m := a2.length) rfl rfl rfl rfl rfl rfl (enys_length _) ?_
                  refine AL.v good (d := 101) (v := .bool (decide ((v11_1 : Int) < (a2.length : Int)))) rfl rfl rfl rfl ?_
                  refine AW.if rfl (fun h164 => ?_) (fun h164 => ?_)
                  ·replace hr := cnd_t h164 hr
                   refine AW.skip ?_
                   refine AW.seq ?_
                   refine AW.block ?_
                   refine AW.seq ?_
                   refine AW.rg ?_
                   refine AL.v good (d := 104) (v := .sl .ro 2 (enys a2)) rfl rfl rfl rfl ?_
                   refine AL.v good (d := 105) (v := .int .i64 (v11_1 : Int)) rfl rfl rfl rfl ?_
                   obtain ⟨x165, h166, hr⟩ := bnd1 hr
                   refine AL.ix good (d := 106) (r := [.int .i64 x165.kind, .sl .ro 2 (enys x165.of)]) rfl rfl rfl rfl rfl rfl rfl (Int.natCast_nonneg _) (enys_get h166) ?_
                   refine AL.v good (d := 107) (v := .ep [.int .i64 x165.kind, .sl .ro 2 (enys x165.of)]) rfl rfl rfl rfl ?_
                   refine AL.v good (d := 108) (v := .int .i64 x165.kind) rfl rfl rfl rfl ?_
                   refine AL.v good (d := 109) (v := .int .i64 3) rfl rfl rfl rfl ?_
                   refine AL.v good (d := 110) (v := .bool (x165.kind != 3)) rfl rfl rfl rfl ?_
                   refine AW.if rfl (fun h167 => ?_) (fun h167 => ?_)
                   ·replace hr := cnd_t h167 hr
                    refine AW.seq ?_
                    refine AW.rg ?_
                    refine AL.bld good (d := 111) (l := [.int .i64 0, .sl .nil 0 []]) rfl rfl rfl rfl rfl rfl rfl ?_
                    refine AL.st2 good (c2 := [.int .i64 0, .sl .nil 0 []]) rfl rfl rfl rfl rfl rfl rfl rfl rfl rfl rfl rfl ?_
                    refine AL.v good (d := 7) (v := .int .i64 5) rfl rfl rfl rfl ?_
                    refine AW.ret ?_
                    obtain rfl := Option.some.inj hr
                    exact RetQ.w good (.inr rfl) rfl rfl ⟨⟨Wv.refl _, ⟨.inr rfl, trivial, .inr rfl⟩, trivial⟩, Wv.refl _, trivial⟩ (by simp [pureA, pureL, pureR, inA, inL, inR, inO, idsIn, encs_pure, enys_pure, valC_pure, tyC_pure])
                   ·replace hr := cnd_f h167 hr
                    refine AW.skip ?_
                    refine AW.rg ?_
                    refine AL.v good (d := 102) (v := .int .i64 (v11_1 : Int)) rfl rfl rfl rfl ?_
                    refine AL.v good (d := 103) (v := .int .i64 (IntKind.i64.wrap ((v11_1 : Int) + 1))) rfl rfl rfl rfl ?_
                    refine AL.v good (d := 11) (v := .int .i64 (IntKind.i64.wrap ((v11_1 : Int) + 1))) rfl rfl rfl rfl ?_
                    exact ⟨(m, (v11_1 + 1)), _, _, rfl, ⟨(fun _ h => by cases h), fmc ⟨⟨⟨_, rfl, Wv.refl _⟩, (by simp [pureA, pureL, pureR, inA, inL, inR, inO, idsIn, encs_pure, enys_pure, valC_pure, tyC_pure])⟩, fmc ⟨⟨⟨_, rfl, Wv.refl _⟩, (by simp [pureA, pureL, pureR, inA, inL, inR, inO, idsIn, encs_pure, enys_pure, valC_pure, tyC_pure])⟩, fmc ⟨⟨⟨_, rfl, Wv.refl _⟩, (by simp [pureA, pureL, pureR, inA, inL, inR, inO, idsIn, encs_pure, enys_pure, valC_pure, tyC_pure])⟩, fmc ⟨⟨⟨_, rfl, Wv.refl _⟩, (by simp [pureA, pureL, pureR, inA, inL, inR, inO, idsIn, encs_pure, enys_pure, valC_pure, tyC_pure])⟩, fmc ⟨⟨⟨_, rfl, (wnx h164 hl163)⟩, (by simp [pureA, pureL, pureR, inA, inL, inR, inO, idsIn, encs_pure, enys_pure, valC_pure, tyC_pure])⟩, (fun _ h => by cases h)⟩⟩⟩⟩⟩, fmc ⟨⟨⟨_, rfl, ⟨rfl, ⟨Wv.refl _, Wv.refl _, trivial⟩⟩⟩, (by simp [pureA, pureL, pureR, inA, inL, inR, inO, idsIn, encs_pure, enys_pure, valC_pure, tyC_pure])⟩, (fun _ h => by cases h)⟩⟩, ⟨hr, Nat.le_of_succ_le hm⟩, Nat.lt_succ_self _⟩
                  ·replace hr := cnd_f h164 hr
                   refine AW.exit ?_
                   refine AW.seq ?_
                   refine AW.rg ?_
                   refine AL.v good (d := 112) (v := .int .i64 1) rfl rfl rfl rfl ?_
                   refine AL.cw good (d := 113) (xs := [.int .i64 1]) (res := .agg [.int .i64 1, .sl .ro 2 (enys [])]) rfl rfl rfl rfl rfl rfl rfl (w_f121 1) ⟨(Wv.refl _), trivial⟩ (by simp [pureA, pureL, pureR, inA, inL, inR, inO, idsIn, encs_pure, enys_pure, valC_pure, tyC_pure]) ?_
                   refine AL.st2 good (c2 := [.int .i64 1, .sl .ro 2 (enys [])]) rfl rfl rfl rfl rfl rfl rfl rfl rfl rfl rfl rfl ?_
                   refine AL.v good (d := 7) (v := .int .i64 0) rfl rfl rfl rfl ?_
                   refine AW.ret ?_
                   obtain rfl := Option.some.inj hr
                   exact RetQ.w good (.inr rfl) rfl rfl (Wv.refl _) (by simp [pureA, pureL, pureR, inA, inL, inR, inO, idsIn, encs_pure, enys_pure, valC_pure, tyC_pure])
                ·replace hr := cnd_f h157 hr
                 refine AW.skip ?_
                 refine AW.seq ?_
                 refine AW.seq ?_
                 refine AW.rg ?_
                 refine AL.v good (d := 11) (v := .int .i64 0) rfl rfl rfl rfl ?_
                 refine AW.block ?_
                 refine AW.lens 2 rfl (fun hl173 => ?_)
                 replace hl173 : a2.length ≤ 9223372036854775807 := by rw [← enys_length a2]; exact hl173
                 refine AW.lpw (fun x : Nat × Nat => [(2, .sl .ro 2 (enys a2)), (6, .ptr 0 0), (8, .int .i64 0), (9, .int .i64 0), (11, .int .i64 (x.2 : Int))]) (fun x => [(0, .box 40 [.int .i64 0, .sl .nil 0 []])]) (fun x => s_f94_l12 x.1 a2 x.2 = some r ∧ x.1 ≤ n) (fun x => x.1) (n, 0) ⟨(fun _ h => by cases h), fmc ⟨⟨⟨_, rfl, Wv.refl _⟩, (by simp [pureA, pureL, pureR, inA, inL, inR, inO, idsIn, encs_pure, enys_pure, valC_pure, tyC_pure])⟩, fmc ⟨⟨⟨_, rfl, Wv.refl _⟩, (by simp [pureA, pureL, pureR, inA, inL, inR, inO, idsIn, encs_pure, enys_pure, valC_pure, tyC_pure])⟩, fmc ⟨⟨⟨_, rfl, Wv.refl _⟩, (by simp [pureA, pureL, pureR, inA, inL, inR, inO, idsIn, encs_pure, enys_pure, valC_pure, tyC_pure])⟩, fmc ⟨⟨⟨_, rfl, Wv.refl _⟩, (by simp [pureA, pureL, pureR, inA, inL, inR, inO, idsIn, encs_pure, enys_pure, valC_pure, tyC_pure])⟩, fmc ⟨⟨⟨_, rfl, Wv.refl _⟩, (by simp [pureA, pureL, pureR, inA, inL, inR, inO, idsIn, encs_pure, enys_pure, valC_pure, tyC_pure])⟩, (fun _ h => by cases h)⟩⟩⟩⟩⟩, fmc ⟨⟨⟨_, rfl, ⟨rfl, ⟨Wv.refl _, Wv.refl _, trivial⟩⟩⟩, (by simp [pureA, pureL, pureR, inA, inL, inR, inO, idsIn, encs_pure, enys_pure, valC_pure, tyC_pure])⟩, (fun _ h => by cases h)⟩⟩ ⟨hr, Nat.le_refl _⟩ (fun ⟨m, v12_1⟩ hx => ?_)
                 obtain ⟨hr, hm⟩ := hx
                 try dsimp only at hr hm
                 cases m with
                 | zero => rw [s_f94_l12] at hr; cases hr
                 | succ m =>
                  rw [s_f94_l12] at hr
                  show AW Try.prog _ _ _ (mkS 114 [(2, .sl .ro 2 (enys a2)), (6, .ptr 0 0), (8, .int .i64 0), (9, .int .i64 0), (11, .int .i64 (v12_1 : Int))] [(0, .box 40 [.int .i64 0, .sl .nil 0 []])])
                  refine AW.seq ?_
                  refine AW.seq ?_
                  refine AW.rg ?_
                  refine AL.v good (d := 98) (v := .int .i64 (v12_1 : Int)) rfl rfl rfl rfl ?_
                  refine AL.v good (d := 99) (v := .sl .ro 2 (enys a2)) rfl rfl rfl rfl ?_
                  refine AL.ln good (d := 100) (m := a2.length) rfl rfl rfl rfl rfl rfl (enys_length _) ?_
                  refine AL.v good (d := 101) (v := .bool (decide ((v12_1 : Int) < (a2.length : Int)))) rfl rfl rfl rfl ?_
                  refine AW.if rfl (fun h174 => ?_) (fun h174 => ?_)
                  ·replace hr := cnd_t h174 hr
                   refine AW.skip ?_
                   refine AW.seq ?_
                   refine AW.block ?_
                   refine AW.seq ?_
                   refine AW.rg ?_
                   refine AL.v good (d := 104) (v := .sl .ro 2 (enys a2)) rfl rfl rfl rfl ?_
                   refine AL.v good (d := 105) (v := .int .i64 (v12_1 : Int)) rfl rfl rfl rfl ?_
                   obtain ⟨x175, h176, hr⟩ := bnd1 hr
                   refine AL.ix good (d := 106) (r := [.int .i64 x175.kind, .sl .ro 2 (enys x175.of)]) rfl rfl rfl rfl rfl rfl rfl (Int.natCast_nonneg _) (enys_get h176) ?_
                   refine AL.v good (d := 107) (v := .ep [.int .i64 x175.kind, .sl .ro 2 (enys x175.of)]) rfl rfl rfl rfl ?_
                   refine AL.v good (d := 108) (v := .int .i64 x175.kind) rfl rfl rfl rfl ?_
                   refine AL.v good (d := 109) (v := .int .i64 0) rfl rfl rfl rfl ?_
                   refine AL.v good (d := 110) (v := .bool (x175.kind != 0)) rfl rfl rfl rfl ?_
                   refine AW.if rfl (fun h177 => ?_) (fun h177 => ?_)
                   ·replace hr := cnd_t h177 hr
                    refine AW.seq ?_
                    refine AW.rg ?_
                    refine AL.bld good (d := 111) (l := [.int .i64 0, .sl .nil 0 []]) rfl rfl rfl rfl rfl rfl rfl ?_
                    refine AL.st2 good (c2 := [.int .i64 0, .sl .nil 0 []]) rfl rfl rfl rfl rfl rfl rfl rfl rfl rfl rfl rfl ?_
                    refine AL.v good (d := 7) (v := .int .i64 5) rfl rfl rfl rfl ?_
                    refine AW.ret ?_
                    obtain rfl := Option.some.inj hr
                    exact RetQ.w good (.inr rfl) rfl rfl ⟨⟨Wv.refl _, ⟨.inr rfl, trivial, .inr rfl⟩, trivial⟩, Wv.refl _, trivial⟩ (by simp [pureA, pureL, pureR, inA, inL, inR, inO, idsIn, encs_pure, enys_pure, valC_pure, tyC_pure])
                   ·replace hr := cnd_f h177 hr
                    refine AW.skip ?_
                    refine AW.rg ?_
                    refine AL.v good (d := 102) (v := .int .i64 (v12_1 : Int)) rfl rfl rfl rfl ?_
                    refine AL.v good (d := 103) (v := .int .i64 (IntKind.i64.wrap ((v12_1 : Int) + 1))) rfl rfl rfl rfl ?_
                    refine AL.v good (d := 11) (v := .int .i64 (IntKind.i64.wrap ((v12_1 : Int) + 1))) rfl rfl rfl rfl ?_
                    exact ⟨(m, (v12_1 + 1)), _, _, rfl, ⟨(fun _ h => by cases h), fmc ⟨⟨⟨_, rfl, Wv.refl _⟩, (by simp [pureA, pureL, pureR, inA, inL, inR, inO, idsIn, encs_pure, enys_pure, valC_pure, tyC_pure])⟩, fmc ⟨⟨⟨_, rfl, Wv.refl _⟩, (by simp [pureA, pureL, pureR, inA, inL, inR, inO, idsIn, encs_pure, enys_pure, valC_pure, tyC_pure])⟩, fmc ⟨⟨⟨_, rfl, Wv.refl _⟩, (by simp [pureA, pureL, pureR, inA, inL, inR, inO, idsIn, encs_pure, enys_pure, valC_pure, tyC_pure])⟩, fmc ⟨⟨⟨_, rfl, Wv.refl _⟩, (by simp [pureA, pureL, pureR, inA, inL, inR, inO, idsIn, encs_pure, enys_pure, valC_pure, tyC_pure])⟩, fmc ⟨⟨⟨_, rfl, (wnx h174 hl173)⟩, (by simp [pureA, pureL, pureR, inA, inL, inR, inO, idsIn, encs_pure, enys_pure, valC_pure, tyC_pure])⟩, (fun _ h => by cases h)⟩⟩⟩⟩⟩, fmc ⟨⟨⟨_, rfl, ⟨rfl, ⟨Wv.refl _, Wv.refl _, trivial⟩⟩⟩, (by simp [pureA, pureL, pureR, inA, inL, inR, inO, idsIn, encs_pure, enys_pure, valC_pure, tyC_pure])⟩, (fun _ h => by cases h)⟩⟩, ⟨hr, Nat.le_of_succ_le hm⟩, Nat.lt_succ_self _⟩
                  ·replace hr := cnd_f h174 hr
                   refine AW.exit ?_
                   refine AW.seq ?_
                   refine AW.rg ?_
                   refine AL.v good (d := 112) (v := .int .i64 0) rfl rfl rfl rfl ?_
                   refine AL.cw good (d := 113) (xs := [.int .i64 0]) (res := .agg [.int .i64 0, .sl .ro 2 (enys [])]) rfl rfl rfl rfl rfl rfl rfl (w_f121 0) ⟨(Wv.refl _), trivial⟩ (by simp [pureA, pureL, pureR, inA, inL, inR, inO, idsIn, encs_pure, enys_pure, valC_pure, tyC_pure]) ?_
                   refine AL.st2 good (c2 := [.int .i64 0, .sl .ro 2 (enys [])]) rfl rfl rfl rfl rfl rfl rfl rfl rfl rfl rfl rfl ?_
                   refine AL.v good (d := 7) (v := .int .i64 0) rfl rfl rfl rfl ?_
                   refine AW.ret ?_
                   obtain rfl := Option.some.inj hr
                   exact RetQ.w good (.inr rfl) rfl rfl (Wv.refl _) (by simp [pureA, pureL, pureR, inA, inL, inR, inO, idsIn, encs_pure, enys_pure, valC_pure, tyC_pure])

mutual
def s_f21 : Nat → Val → Option Ty
  | 0, _ => none
  | n + 1, a0 => (s_f21_l1 n a0 0 [])
def s_f21_l1 : Nat → Val → Nat → (List Ty) → Option Ty
  | 0, _, _, _ => none
  | n + 1, a0, v1_1, v1_2 => (bif (decide ((v1_1 : Int) < (a0.t.length : Int))) then ((a0.t[v1_1]?).bind fun x10 => ((s_f21 n x10).bind fun q12 => (if v1_2.length + 1 ≤ 1000000 then (s_f21_l1 n a0 (v1_1 + 1) (v1_2 ++ [q12])) else none))) else some (Ty.mk a0.kind v1_2))
end

theorem w_f21_a (n : Nat) (ih : ∀ (m : Nat) (a0 : Val) (r : Ty), s_f21 m a0 = some r → m < n → ACall Try.prog 21 [.agg (valC a0)] (.agg (tyC r))) (a0 : Val) (r : Ty) (hr : s_f21 n a0 = some r) : ACall Try.prog 21 [.agg (valC a0)] (.agg (tyC r)) := by
 refine ACall.go [(0, .agg (valC a0))] Try.func21 rfl Try.ntmps21 rfl rfl (by simp [pureA, pureL, pureR, inA, inL, inR, inO, idsIn, encs_pure, enys_pure, valC_pure, tyC_pure]) ?_
 cases n with
 | zero => rw [s_f21] at hr; cases hr
 | succ n =>
  rw [s_f21] at hr
  refine AW.seq ?_
  refine AW.rg ?_
  refine AL.bx good (d := 1) (l := [.int .i64 a0.kind, .int .i64 a0.i, .bool a0.b, .str a0.s, .sl .ro 5 (encs a0.t)]) rfl rfl rfl rfl rfl rfl 0 rfl ?_
  refine AL.alc good (d := 2) rfl rfl rfl rfl rfl 1 rfl ?_
  refine AW.seq ?_
  refine AW.rg ?_
  refine AL.v good (d := 5) (v := .ptr 0 0) rfl rfl rfl rfl ?_
  refine AL.v good (d := 6) (v := .int .i64 a0.kind) rfl rfl rfl rfl ?_
  refine AL.bld good (d := 7) (l := [.int .i64 a0.kind, .sl .nil 0 []]) rfl rfl rfl rfl rfl rfl rfl ?_
  refine AL.alc good (d := 3) rfl rfl rfl rfl rfl 2 rfl ?_
  refine AL.st2 good (c2 := [.int .i64 a0.kind, .sl .nil 0 []]) rfl rfl rfl rfl rfl rfl rfl rfl rfl rfl rfl rfl ?_
  refine AW.seq ?_
  refine AW.seq ?_
  refine AW.rg ?_
  refine AL.v good (d := 4) (v := .int .i64 0) rfl rfl rfl rfl ?_
  refine AW.block ?_
  refine AW.adoptB 2 rfl 1 rfl 3 2 40 rfl rfl ?_
  refine AW.lensB 0 rfl (fun hl8 => ?_)
  replace hl8 : a0.t.length ≤ 9223372036854775807 := by rw [← encs_length a0.t]; exact hl8.2.2.2.2.1
  refine AW.lpw (fun x : Nat × Nat × (List Ty) => [(1, .ptr 0 0), (2, .ptr 1 0), (3, .ptr 2 0), (4, .int .i64 (x.2.1 : Int))]) (fun x => [(0, .box 33 [.int .i64 a0.kind, .int .i64 a0.i, .bool a0.b, .str a0.s, .sl .ro 5 (encs a0.t)]), (1, .box 40 [.int .i64 0, .sl .nil 0 []]), (2, .box 40 [.int .i64 a0.kind, .sl (.own 3) 2 (enys x.2.2)]), (3, .row 40 2 (enys x.2.2).length)]) (fun x => s_f21_l1 x.1 a0 x.2.1 x.2.2 = some r ∧ x.1 ≤ n) (fun x => x.1) (n, 0, []) ⟨(fun _ h => by cases h), fmc ⟨⟨⟨_, rfl, Wv.refl _⟩, (by simp [pureA, pureL, pureR, inA, inL, inR, inO, idsIn, encs_pure, enys_pure, valC_pure, tyC_pure])⟩, fmc ⟨⟨⟨_, rfl, Wv.refl _⟩, (by simp [pureA, pureL, pureR, inA, inL, inR, inO, idsIn, encs_pure, enys_pure, valC_pure, tyC_pure])⟩, fmc ⟨⟨⟨_, rfl, Wv.refl _⟩, (by simp [pureA, pureL, pureR, inA, inL, inR, inO, idsIn, encs_pure, enys_pure, valC_pure, tyC_pure])⟩, fmc ⟨⟨⟨_, rfl, Wv.refl _⟩, (by simp [pureA, pureL, pureR, inA, inL, inR, inO, idsIn, encs_pure, enys_pure, valC_pure, tyC_pure])⟩, (fun _ h => by cases h)⟩⟩⟩⟩, fmc ⟨⟨⟨_, rfl, ⟨rfl, ⟨Wv.refl _, Wv.refl _, Wv.refl _, Wv.refl _, Wv.refl _, trivial⟩⟩⟩, (by simp [pureA, pureL, pureR, inA, inL, inR, inO, idsIn, encs_pure, enys_pure, valC_pure, tyC_pure])⟩, fmc ⟨⟨⟨_, rfl, ⟨rfl, ⟨Wv.refl _, Wv.refl _, trivial⟩⟩⟩, (by simp [pureA, pureL, pureR, inA, inL, inR, inO, idsIn, encs_pure, enys_pure, valC_pure, tyC_pure])⟩, fmc ⟨⟨⟨_, rfl, ⟨rfl, ⟨Wv.refl _, Wv.refl _, trivial⟩⟩⟩, (by simp [pureA, pureL, pureR, inA, inL, inR, inO, idsIn, encs_pure, enys_pure, valC_pure, tyC_pure])⟩, fmc ⟨⟨⟨_, rfl, ⟨rfl, rfl, rfl⟩⟩, (by simp [pureA, pureL, pureR, inA, inL, inR, inO, idsIn, encs_pure, enys_pure, valC_pure, tyC_pure])⟩, (fun _ h => by cases h)⟩⟩⟩⟩⟩ ⟨hr, Nat.le_refl _⟩ (fun ⟨m, v1_1, v1_2⟩ hx => ?_)
  obtain ⟨hr, hm⟩ := hx
  try dsimp only at hr hm
  cases m with
  | zero => rw [s_f21_l1] at hr; cases hr
  | succ m =>
   rw [s_f21_l1] at hr
   show AW Try.prog _ _ _ (mkS 27 [(1, .ptr 0 0), (2, .ptr 1 0), (3, .ptr 2 0), (4, .int .i64 (v1_1 : Int))] [(0, .box 33 [.int .i64 a0.kind, .int .i64 a0.i, .bool a0.b, .str a0.s, .sl .ro 5 (encs a0.t)]), (1, .box 40 [.int .i64 0, .sl .nil 0 []]), (2, .box 40 [.int .i64 a0.kind, .sl (.own 3) 2 (enys v1_2)]), (3, .row 40 2 (enys v1_2).length)])
   refine AW.seq ?_
   refine AW.seq ?_
   refine AW.rg ?_
   refine AL.v good (d := 8) (v := .int .i64 (v1_1 : Int)) rfl rfl rfl rfl ?_
   refine AL.v good (d := 9) (v := .ptr 0 4) rfl rfl rfl rfl ?_
   refine AL.v good (d := 10) (v := .sl .ro 5 (encs a0.t)) rfl rfl rfl rfl ?_
   refine AL.ln good (d := 11) (m := a0.t.length) rfl rfl rfl rfl rfl rfl (encs_length _) ?_
   refine AL.v good (d := 12) (v := .bool (decide ((v1_1 : Int) < (a0.t.length : Int)))) rfl rfl rfl rfl ?_
   refine AW.if rfl (fun h9 => ?_) (fun h9 => ?_)
   ·replace hr := cnd_t h9 hr
    refine AW.skip ?_
    refine AW.seq ?_
    refine AW.block ?_
    refine AW.drawc (M := fun i => ⟨Nat.beq i 9 || Nat.beq i 11, bif Nat.beq i 1 then some { ids := [2] } else bif Nat.beq i 3 then some { ids := [0] } else bif Nat.beq i 6 then some { ids := [] } else bif Nat.beq i 8 then some { ids := [4] } else bif Nat.beq i 9 then some { ids := [3] } else bif Nat.beq i 11 then some { ids := [2] } else none⟩) good.wide (by kernel_rfl) ?_
    refine AL.v (nc := ⟨rfl⟩) good (d := 15) (v := .ptr 2 1) rfl rfl rfl rfl ?_
    refine AL.vc good (d := 16) (v := .sl (.own 3) 2 (enys v1_2)) rfl rfl rfl rfl rfl rfl (fmc ⟨.head _, (fun _ h => by cases h)⟩) ?_
    refine AL.v (nc := ⟨rfl⟩) good (d := 17) (v := .ptr 0 4) rfl rfl rfl rfl ?_
    refine AL.vc good (d := 18) (v := .sl .ro 5 (encs a0.t)) rfl rfl rfl rfl rfl rfl (fmc ⟨.head _, (fun _ h => by cases h)⟩) ?_
    refine AL.v (nc := ⟨rfl⟩) good (d := 19) (v := .int .i64 (v1_1 : Int)) rfl rfl rfl rfl ?_
    obtain ⟨x10, h11, hr⟩ := bnd1 hr
    refine AL.ix (nc := ⟨rfl⟩) good (d := 20) (r := [.int .i64 x10.kind, .int .i64 x10.i, .bool x10.b, .str x10.s, .sl .ro 5 (encs x10.t)]) rfl rfl rfl rfl rfl rfl rfl (Int.natCast_nonneg _) (encs_get h11) ?_
    refine AL.vc good (d := 21) (v := .agg [.int .i64 x10.kind, .int .i64 x10.i, .bool x10.b, .str x10.s, .sl .ro 5 (encs x10.t)]) rfl rfl rfl rfl rfl rfl (fun _ h => by cases h) ?_
    obtain ⟨q12, h13, hr⟩ := bnd1 hr
    refine AL.cw (nc := ⟨rfl⟩) good (d := 22) (xs := [.agg (valC x10)]) (res := .agg [.int .i64 q12.kind, .sl .ro 2 (enys q12.of)]) rfl rfl rfl rfl rfl rfl rfl (ih _ _ _ h13 (by omega)) ⟨(Wv.refl _), trivial⟩ (by simp [pureA, pureL, pureR, inA, inL, inR, inO, idsIn, encs_pure, enys_pure, valC_pure, tyC_pure]) ?_
    refine AL.litC good (d := 23) (rows := [[.int .i64 q12.kind, .sl .ro 2 (enys q12.of)]]) rfl rfl rfl rfl rfl rfl rfl rfl rfl 4 rfl (ColN.mk rfl rfl (fun _ h => by cases h) (fmc ⟨.head _, (fun _ h => by cases h)⟩) (fun _ h => by cases h)) ?_
    obtain ⟨h14, hr⟩ := grd hr
    refine AL.aw2c good (d := 24) (rows := enys v1_2) (news := [(tyC q12)]) (rows2 := enys (v1_2 ++ [q12])) rfl rfl rfl rfl rfl rfl rfl rfl rfl (by simp) rfl rfl rfl rfl ⟨⟨Wv.refl _, Wv.refl _, trivial⟩, trivial⟩ (by simp [enys_map]) (by rw [enys_length, List.length_append]; exact h14) rfl ?_
    refine AL.v (nc := ⟨rfl⟩) good (d := 25) (v := .ptr 2 1) rfl rfl rfl rfl ?_
    refine AL.st2c good (c2 := [.int .i64 a0.kind, .sl (.own 3) 2 (enys (v1_2 ++ [q12]))]) rfl rfl rfl rfl rfl rfl rfl rfl rfl rfl rfl rfl rfl ?_
    refine AW.rg ?_
    refine AL.v good (d := 13) (v := .int .i64 (v1_1 : Int)) rfl rfl rfl rfl ?_
    refine AL.v good (d := 14) (v := .int .i64 (IntKind.i64.wrap ((v1_1 : Int) + 1))) rfl rfl rfl rfl ?_
    refine AL.v good (d := 4) (v := .int .i64 (IntKind.i64.wrap ((v1_1 : Int) + 1))) rfl rfl rfl rfl ?_
    exact ⟨(m, (v1_1 + 1), (v1_2 ++ [q12])), _, _, rfl, ⟨(fun _ h => by cases h), fmc ⟨⟨⟨_, rfl, Wv.refl _⟩, (by simp [pureA, pureL, pureR, inA, inL, inR, inO, idsIn, encs_pure, enys_pure, valC_pure, tyC_pure])⟩, fmc ⟨⟨⟨_, rfl, Wv.refl _⟩, (by simp [pureA, pureL, pureR, inA, inL, inR, inO, idsIn, encs_pure, enys_pure, valC_pure, tyC_pure])⟩, fmc ⟨⟨⟨_, rfl, Wv.refl _⟩, (by simp [pureA, pureL, pureR, inA, inL, inR, inO, idsIn, encs_pure, enys_pure, valC_pure, tyC_pure])⟩, fmc ⟨⟨⟨_, rfl, (wnx h9 hl8)⟩, (by simp [pureA, pureL, pureR, inA, inL, inR, inO, idsIn, encs_pure, enys_pure, valC_pure, tyC_pure])⟩, (fun _ h => by cases h)⟩⟩⟩⟩, fmc ⟨⟨⟨_, rfl, ⟨rfl, ⟨Wv.refl _, Wv.refl _, Wv.refl _, Wv.refl _, Wv.refl _, trivial⟩⟩⟩, (by simp [pureA, pureL, pureR, inA, inL, inR, inO, idsIn, encs_pure, enys_pure, valC_pure, tyC_pure])⟩, fmc ⟨⟨⟨_, rfl, ⟨rfl, ⟨Wv.refl _, Wv.refl _, trivial⟩⟩⟩, (by simp [pureA, pureL, pureR, inA, inL, inR, inO, idsIn, encs_pure, enys_pure, valC_pure, tyC_pure])⟩, fmc ⟨⟨⟨_, rfl, ⟨rfl, ⟨Wv.refl _, Wv.refl _, trivial⟩⟩⟩, (by simp [pureA, pureL, pureR, inA, inL, inR, inO, idsIn, encs_pure, enys_pure, valC_pure, tyC_pure])⟩, fmc ⟨⟨⟨_, rfl, ⟨rfl, rfl, rfl⟩⟩, (by simp [pureA, pureL, pureR, inA, inL, inR, inO, idsIn, encs_pure, enys_pure, valC_pure, tyC_pure])⟩, (fun _ h => by cases h)⟩⟩⟩⟩⟩, ⟨hr, Nat.le_of_succ_le hm⟩, Nat.lt_succ_self _⟩
   ·replace hr := cnd_f h9 hr
    refine AW.exit ?_
    refine AW.seq ?_
    refine AW.rg ?_
    refine AL.v good (d := 26) (v := .agg [.int .i64 a0.kind, .sl (.own 3) 2 (enys v1_2)]) rfl rfl rfl rfl ?_
    refine AL.st2 good (c2 := [.int .i64 a0.kind, .sl (.own 3) 2 (enys v1_2)]) rfl rfl rfl rfl rfl rfl rfl rfl rfl rfl rfl rfl ?_
    refine AW.ret ?_
    obtain rfl := Option.some.inj hr
    exact RetQ.w good (.inr rfl) rfl rfl ⟨Wv.refl _, ⟨.inr rfl, WvR.refl _, .inl rfl⟩, trivial⟩ (by simp [pureA, pureL, pureR, inA, inL, inR, inO, idsIn, encs_pure, enys_pure, valC_pure, tyC_pure])
theorem w_f21 (n : Nat) : ∀ (a0 : Val) (r : Ty) (hr : s_f21 n a0 = some r), ACall Try.prog 21 [.agg (valC a0)] (.agg (tyC r)) := by
 induction n using Nat.strongRecOn with
 | _ n ih =>
  intro a0 r hr
  exact w_f21_a n (fun m a0 r h hm => ih m hm a0 r h) a0 r hr

end Go.Proofs.Ytbcjcekoonebiaa.Tl

set_option linter.unusedVariables false
set_option linter.unusedSimpArgs false
namespace Go.Proofs.Ytbcjcekoonebiaa.Tl
open Go Go.RowKit
end Go.Proofs.Ytbcjcekoonebiaa.Tl

set_option linter.unusedVariables false
set_option linter.unusedSimpArgs false
namespace Go.Proofs.Ytbcjcekoonebiaa.Tl
open Go Go.RowKit
mutual
def s_f64 : Nat → Val → Val → Option Int
  | 0, _, _ => none
  | n + 1, a0, a1 => (bif (a0.kind != a1.kind) then ((s_f100 n (decide (a0.kind < a1.kind))).bind fun q2 => some q2) else (bif (a0.i != a1.i) then ((s_f100 n (decide (a0.i < a1.i))).bind fun q5 => some q5) else (bif (a0.b != a1.b) then ((s_f100 n a1.b).bind fun q8 => some q8) else (bif (a0.s.data.toList != a1.s.data.toList) then ((s_f100 n (Op.bytesLess a0.s.data.toList a1.s.data.toList)).bind fun q11 => some q11) else (s_f64_l1 n a0 a1 0)))))
def s_f64_l1 : Nat → Val → Val → Int → Option Int
  | 0, _, _, _ => none
  | n + 1, a0, a1, v1_1 => (bif ((decide (v1_1 < (a0.t.length : Int))) && (decide (v1_1 < (a1.t.length : Int)))) then (if 0 ≤ v1_1 then ((a0.t[v1_1.toNat]?).bind fun x28 => (if 0 ≤ v1_1 then ((a1.t[v1_1.toNat]?).bind fun x31 => ((s_f64 n x28 x31).bind fun q34 => (bif (q34 != 0) then some q34 else (s_f64_l1 n a0 a1 (IntKind.i64.wrap (v1_1 + 1)))))) else none)) else none) else (bif ((a0.t.length : Int) != (a1.t.length : Int)) then ((s_f100 n (decide ((a0.t.length : Int) < (a1.t.length : Int)))).bind fun q38 => some q38) else some 0))
end

theorem w_f64_a (n : Nat) (ih : ∀ (m : Nat) (a0 : Val) (a1 : Val) (r : Int), s_f64 m a0 a1 = some r → m < n → ACall Try.prog 64 [.agg (valC a0), .agg (valC a1)] (.int .i64 r)) (a0 : Val) (a1 : Val) (r : Int) (hr : s_f64 n a0 a1 = some r) : ACall Try.prog 64 [.agg (valC a0), .agg (valC a1)] (.int .i64 r) := by
 refine ACall.go [(0, .agg (valC a0)), (1, .agg (valC a1))] Try.func64 rfl Try.ntmps64 rfl rfl (by simp [pureA, pureL, pureR, inA, inL, inR, inO, idsIn, encs_pure, valC_pure]) ?_
 cases n with
 | zero => rw [s_f64] at hr; cases hr
 | succ n =>
  rw [s_f64] at hr
  refine AW.seq ?_
  refine AW.rg ?_
  refine AL.bx good (d := 2) (l := [.int .i64 a0.kind, .int .i64 a0.i, .bool a0.b, .str a0.s, .sl .ro 5 (encs a0.t)]) rfl rfl rfl rfl rfl rfl 0 rfl ?_
  refine AL.bx good (d := 3) (l := [.int .i64 a1.kind, .int .i64 a1.i, .bool a1.b, .str a1.s, .sl .ro 5 (encs a1.t)]) rfl rfl rfl rfl rfl rfl 1 rfl ?_
  refine AL.v good (d := 4) (v := .int .i64 0) rfl rfl rfl rfl ?_
  refine AW.seq ?_
  refine AW.block ?_
  refine AW.seq ?_
  refine AW.rg ?_
  refine AL.v good (d := 8) (v := .ptr 0 0) rfl rfl rfl rfl ?_
  refine AL.v good (d := 9) (v := .int .i64 a0.kind) rfl rfl rfl rfl ?_
  refine AL.v good (d := 10) (v := .ptr 1 0) rfl rfl rfl rfl ?_
  refine AL.v good (d := 11) (v := .int .i64 a1.kind) rfl rfl rfl rfl ?_
  refine AL.v good (d := 12) (v := .bool (a0.kind != a1.kind)) rfl rfl rfl rfl ?_
  refine AL.v good (d := 7) (v := .bool (a0.kind != a1.kind)) rfl rfl rfl rfl ?_
  refine AW.if rfl (fun h1 => ?_) (fun h1 => ?_)
  ·replace hr := cnd_t h1 hr
   refine AW.seq ?_
   refine AW.rg ?_
   refine AL.v good (d := 13) (v := .ptr 0 0) rfl rfl rfl rfl ?_
   refine AL.v good (d := 14) (v := .int .i64 a0.kind) rfl rfl rfl rfl ?_
   refine AL.v good (d := 15) (v := .ptr 1 0) rfl rfl rfl rfl ?_
   refine AL.v good (d := 16) (v := .int .i64 a1.kind) rfl rfl rfl rfl ?_
   refine AL.v good (d := 17) (v := .bool (decide (a0.kind < a1.kind))) rfl rfl rfl rfl ?_
   obtain ⟨q2, h3, hr⟩ := bnd1 hr
   refine AL.cw good (d := 18) (xs := [.bool (decide (a0.kind < a1.kind))]) (res := .int .i64 q2) rfl rfl rfl rfl rfl rfl rfl (w_f100 _ _ _ h3) ⟨(Wv.refl _), trivial⟩ (by simp [pureA, pureL, pureR, inA, inL, inR, inO, idsIn, encs_pure, valC_pure]) ?_
   refine AL.v good (d := 4) (v := .int .i64 q2) rfl rfl rfl rfl ?_
   refine AW.ret ?_
   obtain rfl := Option.some.inj hr
   exact RetQ.w good (.inr rfl) rfl rfl (Wv.refl _) (by simp [pureA, pureL, pureR, inA, inL, inR, inO, idsIn, encs_pure, valC_pure])
  ·replace hr := cnd_f h1 hr
   refine AW.seq ?_
   refine AW.rg ?_
   refine AL.v good (d := 20) (v := .ptr 0 1) rfl rfl rfl rfl ?_
   refine AL.v good (d := 21) (v := .int .i64 a0.i) rfl rfl rfl rfl ?_
   refine AL.v good (d := 22) (v := .ptr 1 1) rfl rfl rfl rfl ?_
   refine AL.v good (d := 23) (v := .int .i64 a1.i) rfl rfl rfl rfl ?_
   refine AL.v good (d := 24) (v := .bool (a0.i != a1.i)) rfl rfl rfl rfl ?_
   refine AL.v good (d := 19) (v := .bool (a0.i != a1.i)) rfl rfl rfl rfl ?_
   refine AW.if rfl (fun h4 => ?_) (fun h4 => ?_)
   ·replace hr := cnd_t h4 hr
    refine AW.seq ?_
    refine AW.rg ?_
    refine AL.v good (d := 25) (v := .ptr 0 1) rfl rfl rfl rfl ?_
    refine AL.v good (d := 26) (v := .int .i64 a0.i) rfl rfl rfl rfl ?_
    refine AL.v good (d := 27) (v := .ptr 1 1) rfl rfl rfl rfl ?_
    refine AL.v good (d := 28) (v := .int .i64 a1.i) rfl rfl rfl rfl ?_
    refine AL.v good (d := 29) (v := .bool (decide (a0.i < a1.i))) rfl rfl rfl rfl ?_
    obtain ⟨q5, h6, hr⟩ := bnd1 hr
    refine AL.cw good (d := 30) (xs := [.bool (decide (a0.i < a1.i))]) (res := .int .i64 q5) rfl rfl rfl rfl rfl rfl rfl (w_f100 _ _ _ h6) ⟨(Wv.refl _), trivial⟩ (by simp [pureA, pureL, pureR, inA, inL, inR, inO, idsIn, encs_pure, valC_pure]) ?_
    refine AL.v good (d := 4) (v := .int .i64 q5) rfl rfl rfl rfl ?_
    refine AW.ret ?_
    obtain rfl := Option.some.inj hr
    exact RetQ.w good (.inr rfl) rfl rfl (Wv.refl _) (by simp [pureA, pureL, pureR, inA, inL, inR, inO, idsIn, encs_pure, valC_pure])
   ·replace hr := cnd_f h4 hr
    refine AW.seq ?_
    refine AW.rg ?_
    refine AL.v good (d := 32) (v := .ptr 0 2) rfl rfl rfl rfl ?_
    refine AL.v good (d := 33) (v := .bool a0.b) rfl rfl rfl rfl ?_
    refine AL.v good (d := 34) (v := .ptr 1 2) rfl rfl rfl rfl ?_
    refine AL.v good (d := 35) (v := .bool a1.b) rfl rfl rfl rfl ?_
    refine AL.v good (d := 36) (v := .bool (a0.b != a1.b)) rfl rfl rfl rfl ?_
    refine AL.v good (d := 31) (v := .bool (a0.b != a1.b)) rfl rfl rfl rfl ?_
    refine AW.if rfl (fun h7 => ?_) (fun h7 => ?_)
    ·replace hr := cnd_t h7 hr
     refine AW.seq ?_
     refine AW.rg ?_
     refine AL.v good (d := 37) (v := .ptr 1 2) rfl rfl rfl rfl ?_
     refine AL.v good (d := 38) (v := .bool a1.b) rfl rfl rfl rfl ?_
     obtain ⟨q8, h9, hr⟩ := bnd1 hr
     refine AL.cw good (d := 39) (xs := [.bool a1.b]) (res := .int .i64 q8) rfl rfl rfl rfl rfl rfl rfl (w_f100 _ _ _ h9) ⟨(Wv.refl _), trivial⟩ (by simp [pureA, pureL, pureR, inA, inL, inR, inO, idsIn, encs_pure, valC_pure]) ?_
     refine AL.v good (d := 4) (v := .int .i64 q8) rfl rfl rfl rfl ?_
     refine AW.ret ?_
     obtain rfl := Option.some.inj hr
     exact RetQ.w good (.inr rfl) rfl rfl (Wv.refl _) (by simp [pureA, pureL, pureR, inA, inL, inR, inO, idsIn, encs_pure, valC_pure])
    ·replace hr := cnd_f h7 hr
     refine AW.seq ?_
     refine AW.rg ?_
     refine AL.v good (d := 41) (v := .ptr 0 3) rfl rfl rfl rfl ?_
     refine AL.v good (d := 42) (v := .str a0.s) rfl rfl rfl rfl ?_
     refine AL.v good (d := 43) (v := .ptr 1 3) rfl rfl rfl rfl ?_
     refine AL.v good (d := 44) (v := .str a1.s) rfl rfl rfl rfl ?_
     refine AL.sb good (d := 45) (b := (a0.s.data.toList != a1.s.data.toList)) rfl rfl rfl rfl rfl rfl rfl ?_
     refine AL.v good (d := 40) (v := .bool (a0.s.data.toList != a1.s.data.toList)) rfl rfl rfl rfl ?_
     refine AW.if rfl (fun h10 => ?_) (fun h10 => ?_)
     ·replace hr := cnd_t h10 hr
      refine AW.seq ?_
      refine AW.rg ?_
      refine AL.v good (d := 46) (v := .ptr 0 3) rfl rfl rfl rfl ?_
      refine AL.v good (d := 47) (v := .str a0.s) rfl rfl rfl rfl ?_
      refine AL.v good (d := 48) (v := .ptr 1 3) rfl rfl rfl rfl ?_
      refine AL.v good (d := 49) (v := .str a1.s) rfl rfl rfl rfl ?_
      refine AL.sb good (d := 50) (b := (Op.bytesLess a0.s.data.toList a1.s.data.toList)) rfl rfl rfl rfl rfl rfl rfl ?_
      obtain ⟨q11, h12, hr⟩ := bnd1 hr
      refine AL.cw good (d := 51) (xs := [.bool (Op.bytesLess a0.s.data.toList a1.s.data.toList)]) (res := .int .i64 q11) rfl rfl rfl rfl rfl rfl rfl (w_f100 _ _ _ h12) ⟨(Wv.refl _), trivial⟩ (by simp [pureA, pureL, pureR, inA, inL, inR, inO, idsIn, encs_pure, valC_pure]) ?_
      refine AL.v good (d := 4) (v := .int .i64 q11) rfl rfl rfl rfl ?_
      refine AW.ret ?_
      obtain rfl := Option.some.inj hr
      exact RetQ.w good (.inr rfl) rfl rfl (Wv.refl _) (by simp [pureA, pureL, pureR, inA, inL, inR, inO, idsIn, encs_pure, valC_pure])
     ·replace hr := cnd_f h10 hr
      refine AW.skip ?_
      refine AW.seq ?_
      refine AW.seq ?_
      refine AW.rg ?_
      refine AL.v good (d := 5) (v := .int .i64 0) rfl rfl rfl rfl ?_
      refine AW.block ?_
      refine AW.lpw (fun x : Nat × Int => [(2, .ptr 0 0), (3, .ptr 1 0), (5, .int .i64 x.2)]) (fun x => [(0, .box 33 [.int .i64 a0.kind, .int .i64 a0.i, .bool a0.b, .str a0.s, .sl .ro 5 (encs a0.t)]), (1, .box 33 [.int .i64 a1.kind, .int .i64 a1.i, .bool a1.b, .str a1.s, .sl .ro 5 (encs a1.t)])]) (fun x => s_f64_l1 x.1 a0 a1 x.2 = some r ∧ x.1 ≤ n) (fun x => x.1) (n, 0) ⟨(fun _ h => by cases h), fmc ⟨⟨⟨_, rfl, Wv.refl _⟩, (by simp [pureA, pureL, pureR, inA, inL, inR, inO, idsIn, encs_pure, valC_pure])⟩, fmc ⟨⟨⟨_, rfl, Wv.refl _⟩, (by simp [pureA, pureL, pureR, inA, inL, inR, inO, idsIn, encs_pure, valC_pure])⟩, fmc ⟨⟨⟨_, rfl, Wv.refl _⟩, (by simp [pureA, pureL, pureR, inA, inL, inR, inO, idsIn, encs_pure, valC_pure])⟩, (fun _ h => by cases h)⟩⟩⟩, fmc ⟨⟨⟨_, rfl, ⟨rfl, ⟨Wv.refl _, Wv.refl _, Wv.refl _, Wv.refl _, Wv.refl _, trivial⟩⟩⟩, (by simp [pureA, pureL, pureR, inA, inL, inR, inO, idsIn, encs_pure, valC_pure])⟩, fmc ⟨⟨⟨_, rfl, ⟨rfl, ⟨Wv.refl _, Wv.refl _, Wv.refl _, Wv.refl _, Wv.refl _, trivial⟩⟩⟩, (by simp [pureA, pureL, pureR, inA, inL, inR, inO, idsIn, encs_pure, valC_pure])⟩, (fun _ h => by cases h)⟩⟩⟩ ⟨hr, Nat.le_refl _⟩ (fun ⟨m, v1_1⟩ hx => ?_)
      obtain ⟨hr, hm⟩ := hx
      try dsimp only at hr hm
      cases m with
      | zero => rw [s_f64_l1] at hr; cases hr
      | succ m =>
       rw [s_f64_l1] at hr
       show AW Try.prog _ _ _ (mkS 95 [(2, .ptr 0 0), (3, .ptr 1 0), (5, .int .i64 v1_1)] [(0, .box 33 [.int .i64 a0.kind, .int .i64 a0.i, .bool a0.b, .str a0.s, .sl .ro 5 (encs a0.t)]), (1, .box 33 [.int .i64 a1.kind, .int .i64 a1.i, .bool a1.b, .str a1.s, .sl .ro 5 (encs a1.t)])])
       refine AW.seq ?_
       refine AW.seq ?_
       refine AW.rg ?_
       refine AL.v good (d := 52) (v := .int .i64 v1_1) rfl rfl rfl rfl ?_
       refine AL.v good (d := 53) (v := .ptr 0 4) rfl rfl rfl rfl ?_
       refine AL.v good (d := 54) (v := .sl .ro 5 (encs a0.t)) rfl rfl rfl rfl ?_
       refine AL.ln good (d := 55) (m := a0.t.length) rfl rfl rfl rfl rfl rfl (encs_length _) ?_
       refine AL.v good (d := 56) (v := .bool (decide (v1_1 < (a0.t.length : Int)))) rfl rfl rfl rfl ?_
       refine AL.vb good (d := 57) (b := (decide (v1_1 < (a0.t.length : Int)))) rfl rfl rfl rfl (fun g25 h26 => ?_)
       refine AL.gv good (d := 58) (c := g25) (v := .int .i64 v1_1) (rd := []) rfl rfl (by cases g25 <;> rfl) (fun h => by cases g25 <;> first | rfl | exact absurd h (by decide)) ?_
       refine AL.gv good (d := 59) (c := g25) (v := .ptr 1 4) (rd := []) rfl rfl (by cases g25 <;> rfl) (fun h => by cases g25 <;> first | rfl | exact absurd h (by decide)) ?_
       refine AL.gv good (d := 60) (c := g25) (v := .sl .ro 5 (encs a1.t)) (rd := [(1, .box 33 [.int .i64 a1.kind, .int .i64 a1.i, .bool a1.b, .str a1.s, .sl .ro 5 (encs a1.t)])]) rfl rfl (by cases g25 <;> rfl) (fun h => by cases g25 <;> first | rfl | exact absurd h (by decide)) ?_
       refine AL.gln good (d := 61) (c := g25) (m := a1.t.length) rfl rfl (by cases g25 <;> rfl) rfl rfl (fun h => by cases g25 <;> first | rfl | exact absurd h (by decide)) (encs_length _) ?_
       refine AL.gv good (d := 62) (c := g25) (v := .bool (decide (v1_1 < (a1.t.length : Int)))) (rd := []) rfl rfl (by cases g25 <;> rfl) (fun h => by cases g25 <;> first | rfl | exact absurd h (by decide)) ?_
       refine AL.v good (d := 63) (v := .bool (g25 && (decide (v1_1 < (a1.t.length : Int))))) (rd := []) rfl rfl rfl (by cases g25 <;> rfl) ?_
       subst h26
       refine AW.if rfl (fun h27 => ?_) (fun h27 => ?_)
       ·replace hr := cnd_t h27 hr
        refine AW.skip ?_
        refine AW.seq ?_
        refine AW.block ?_
        refine AW.seq ?_
        refine AW.draw (M := fun i => false) good.wide (by kernel_rfl) ?_
        refine AL.v good (d := 66) (v := .ptr 0 4) rfl rfl rfl rfl ?_
        refine AL.v good (d := 67) (v := .sl .ro 5 (encs a0.t)) rfl rfl rfl rfl ?_
        refine AL.v good (d := 68) (v := .int .i64 v1_1) rfl rfl rfl rfl ?_
        obtain ⟨h30, hr⟩ := grd hr
        obtain ⟨x28, h29, hr⟩ := bnd1 hr
        refine AL.ix good (d := 69) (r := [.int .i64 x28.kind, .int .i64 x28.i, .bool x28.b, .str x28.s, .sl .ro 5 (encs x28.t)]) rfl rfl rfl rfl rfl rfl rfl h30 (encs_get h29) ?_
        refine AL.v good (d := 70) (v := .agg [.int .i64 x28.kind, .int .i64 x28.i, .bool x28.b, .str x28.s, .sl .ro 5 (encs x28.t)]) rfl rfl rfl rfl ?_
        refine AL.v good (d := 71) (v := .ptr 1 4) rfl rfl rfl rfl ?_
        refine AL.v good (d := 72) (v := .sl .ro 5 (encs a1.t)) rfl rfl rfl rfl ?_
        refine AL.v good (d := 73) (v := .int .i64 v1_1) rfl rfl rfl rfl ?_
        obtain ⟨h33, hr⟩ := grd hr
        obtain ⟨x31, h32, hr⟩ := bnd1 hr
        refine AL.ix good (d := 74) (r := [.int .i64 x31.kind, .int .i64 x31.i, .bool x31.b, .str x31.s, .sl .ro 5 (encs x31.t)]) rfl rfl rfl rfl rfl rfl rfl h33 (encs_get h32) ?_
        refine AL.v good (d := 75) (v := .agg [.int .i64 x31.kind, .int .i64 x31.i, .bool x31.b, .str x31.s, .sl .ro 5 (encs x31.t)]) rfl rfl rfl rfl ?_
        obtain ⟨q34, h35, hr⟩ := bnd1 hr
        refine AL.cw good (d := 76) (xs := [.agg (valC x28), .agg (valC x31)]) (res := .int .i64 q34) rfl rfl rfl rfl rfl rfl rfl (ih _ _ _ _ h35 (by omega)) ⟨(Wv.refl _), (Wv.refl _), trivial⟩ (by simp [pureA, pureL, pureR, inA, inL, inR, inO, idsIn, encs_pure, valC_pure]) ?_
        refine AL.v good (d := 6) (v := .int .i64 q34) rfl rfl rfl rfl ?_
        refine AW.seq ?_
        refine AW.rg ?_
        refine AL.v good (d := 77) (v := .int .i64 q34) rfl rfl rfl rfl ?_
        refine AL.v good (d := 78) (v := .bool (q34 != 0)) rfl rfl rfl rfl ?_
        refine AW.if rfl (fun h36 => ?_) (fun h36 => ?_)
        ·replace hr := cnd_t h36 hr
         refine AW.seq ?_
         refine AW.rg ?_
         refine AL.v good (d := 79) (v := .int .i64 q34) rfl rfl rfl rfl ?_
         refine AL.v good (d := 4) (v := .int .i64 q34) rfl rfl rfl rfl ?_
         refine AW.ret ?_
         obtain rfl := Option.some.inj hr
         exact RetQ.w good (.inr rfl) rfl rfl (Wv.refl _) (by simp [pureA, pureL, pureR, inA, inL, inR, inO, idsIn, encs_pure, valC_pure])
        ·replace hr := cnd_f h36 hr
         refine AW.skip ?_
         refine AW.rg ?_
         refine AL.v good (d := 64) (v := .int .i64 v1_1) rfl rfl rfl rfl ?_
         refine AL.v good (d := 65) (v := .int .i64 (IntKind.i64.wrap (v1_1 + 1))) rfl rfl rfl rfl ?_
         refine AL.v good (d := 5) (v := .int .i64 (IntKind.i64.wrap (v1_1 + 1))) rfl rfl rfl rfl ?_
         exact ⟨(m, (IntKind.i64.wrap (v1_1 + 1))), _, _, rfl, ⟨(fun _ h => by cases h), fmc ⟨⟨⟨_, rfl, Wv.refl _⟩, (by simp [pureA, pureL, pureR, inA, inL, inR, inO, idsIn, encs_pure, valC_pure])⟩, fmc ⟨⟨⟨_, rfl, Wv.refl _⟩, (by simp [pureA, pureL, pureR, inA, inL, inR, inO, idsIn, encs_pure, valC_pure])⟩, fmc ⟨⟨⟨_, rfl, Wv.refl _⟩, (by simp [pureA, pureL, pureR, inA, inL, inR, inO, idsIn, encs_pure, valC_pure])⟩, (fun _ h => by cases h)⟩⟩⟩, fmc ⟨⟨⟨_, rfl, ⟨rfl, ⟨Wv.refl _, Wv.refl _, Wv.refl _, Wv.refl _, Wv.refl _, trivial⟩⟩⟩, (by simp [pureA, pureL, pureR, inA, inL, inR, inO, idsIn, encs_pure, valC_pure])⟩, fmc ⟨⟨⟨_, rfl, ⟨rfl, ⟨Wv.refl _, Wv.refl _, Wv.refl _, Wv.refl _, Wv.refl _, trivial⟩⟩⟩, (by simp [pureA, pureL, pureR, inA, inL, inR, inO, idsIn, encs_pure, valC_pure])⟩, (fun _ h => by cases h)⟩⟩⟩, ⟨hr, Nat.le_of_succ_le hm⟩, Nat.lt_succ_self _⟩
       ·replace hr := cnd_f h27 hr
        refine AW.exit ?_
        refine AW.seq ?_
        refine AW.seq ?_
        refine AW.rg ?_
        refine AL.v good (d := 80) (v := .ptr 0 4) rfl rfl rfl rfl ?_
        refine AL.v good (d := 81) (v := .sl .ro 5 (encs a0.t)) rfl rfl rfl rfl ?_
        refine AL.ln good (d := 82) (m := a0.t.length) rfl rfl rfl rfl rfl rfl (encs_length _) ?_
        refine AL.v good (d := 83) (v := .ptr 1 4) rfl rfl rfl rfl ?_
        refine AL.v good (d := 84) (v := .sl .ro 5 (encs a1.t)) rfl rfl rfl rfl ?_
        refine AL.ln good (d := 85) (m := a1.t.length) rfl rfl rfl rfl rfl rfl (encs_length _) ?_
        refine AL.v good (d := 86) (v := .bool ((a0.t.length : Int) != (a1.t.length : Int))) rfl rfl rfl rfl ?_
        refine AW.if rfl (fun h37 => ?_) (fun h37 => ?_)
        ·replace hr := cnd_t h37 hr
         refine AW.seq ?_
         refine AW.rg ?_
         refine AL.v good (d := 87) (v := .ptr 0 4) rfl rfl rfl rfl ?_
         refine AL.v good (d := 88) (v := .sl .ro 5 (encs a0.t)) rfl rfl rfl rfl ?_
         refine AL.ln good (d := 89) (m := a0.t.length) rfl rfl rfl rfl rfl rfl (encs_length _) ?_
         refine AL.v good (d := 90) (v := .ptr 1 4) rfl rfl rfl rfl ?_
         refine AL.v good (d := 91) (v := .sl .ro 5 (encs a1.t)) rfl rfl rfl rfl ?_
         refine AL.ln good (d := 92) (m := a1.t.length) rfl rfl rfl rfl rfl rfl (encs_length _) ?_
         refine AL.v good (d := 93) (v := .bool (decide ((a0.t.length : Int) < (a1.t.length : Int)))) rfl rfl rfl rfl ?_
         obtain ⟨q38, h39, hr⟩ := bnd1 hr
         refine AL.cw good (d := 94) (xs := [.bool (decide ((a0.t.length : Int) < (a1.t.length : Int)))]) (res := .int .i64 q38) rfl rfl rfl rfl rfl rfl rfl (w_f100 _ _ _ h39) ⟨(Wv.refl _), trivial⟩ (by simp [pureA, pureL, pureR, inA, inL, inR, inO, idsIn, encs_pure, valC_pure]) ?_
         refine AL.v good (d := 4) (v := .int .i64 q38) rfl rfl rfl rfl ?_
         refine AW.ret ?_
         obtain rfl := Option.some.inj hr
         exact RetQ.w good (.inr rfl) rfl rfl (Wv.refl _) (by simp [pureA, pureL, pureR, inA, inL, inR, inO, idsIn, encs_pure, valC_pure])
        ·replace hr := cnd_f h37 hr
         refine AW.skip ?_
         refine AW.seq ?_
         refine AW.rg ?_
         refine AL.v good (d := 4) (v := .int .i64 0) rfl rfl rfl rfl ?_
         refine AW.ret ?_
         obtain rfl := Option.some.inj hr
         exact RetQ.w good (.inr rfl) rfl rfl (Wv.refl _) (by simp [pureA, pureL, pureR, inA, inL, inR, inO, idsIn, encs_pure, valC_pure])
theorem w_f64 (n : Nat) : ∀ (a0 : Val) (a1 : Val) (r : Int) (hr : s_f64 n a0 a1 = some r), ACall Try.prog 64 [.agg (valC a0), .agg (valC a1)] (.int .i64 r) := by
 induction n using Nat.strongRecOn with
 | _ n ih =>
  intro a0 a1 r hr
  exact w_f64_a n (fun m a0 a1 r h hm => ih m hm a0 a1 r h) a0 a1 r hr

def s_f25 (n : Nat) (a0 : Val) (a1 : Val) : Option Bool :=
  ((s_f64 n a0 a1).bind fun q1 => some (q1 == 0))

theorem w_f25 (n : Nat) (a0 : Val) (a1 : Val) (r : Bool) (hr : s_f25 n a0 a1 = some r) : ACall Try.prog 25 [.agg (valC a0), .agg (valC a1)] (.bool r) := by
 refine ACall.go [(0, .agg (valC a0)), (1, .agg (valC a1))] Try.func25 rfl Try.ntmps25 rfl rfl (by simp [pureA, pureL, pureR, inA, inL, inR, inO, idsIn, encs_pure, valC_pure]) ?_
 rw [s_f25] at hr
 refine AW.seq ?_
 refine AW.rg ?_
 refine AL.bx good (d := 2) (l := [.int .i64 a0.kind, .int .i64 a0.i, .bool a0.b, .str a0.s, .sl .ro 5 (encs a0.t)]) rfl rfl rfl rfl rfl rfl 0 rfl ?_
 refine AL.bx good (d := 3) (l := [.int .i64 a1.kind, .int .i64 a1.i, .bool a1.b, .str a1.s, .sl .ro 5 (encs a1.t)]) rfl rfl rfl rfl rfl rfl 1 rfl ?_
 refine AL.v good (d := 4) (v := .bool false) rfl rfl rfl rfl ?_
 refine AW.seq ?_
 refine AW.rg ?_
 refine AL.v good (d := 5) (v := .agg [.int .i64 a0.kind, .int .i64 a0.i, .bool a0.b, .str a0.s, .sl .ro 5 (encs a0.t)]) rfl rfl rfl rfl ?_
 refine AL.v good (d := 6) (v := .agg [.int .i64 a1.kind, .int .i64 a1.i, .bool a1.b, .str a1.s, .sl .ro 5 (encs a1.t)]) rfl rfl rfl rfl ?_
 obtain ⟨q1, h2, hr⟩ := bnd1 hr
 refine AL.cw good (d := 7) (xs := [.agg (valC a0), .agg (valC a1)]) (res := .int .i64 q1) rfl rfl rfl rfl rfl rfl rfl (w_f64 _ _ _ _ h2) ⟨(Wv.refl _), (Wv.refl _), trivial⟩ (by simp [pureA, pureL, pureR, inA, inL, inR, inO, idsIn, encs_pure, valC_pure]) ?_
 refine AL.v good (d := 8) (v := .bool (q1 == 0)) rfl rfl rfl rfl ?_
 refine AL.v good (d := 4) (v := .bool (q1 == 0)) rfl rfl rfl rfl ?_
 refine AW.ret ?_
 obtain rfl := Option.some.inj hr
 exact RetQ.w good (.inr rfl) rfl rfl (Wv.refl _) (by simp [pureA, pureL, pureR, inA, inL, inR, inO, idsIn, encs_pure, valC_pure])

end Go.Proofs.Ytbcjcekoonebiaa.Tl

set_option linter.unusedVariables false
set_option linter.unusedSimpArgs false
namespace Go.Proofs.Ytbcjcekoonebiaa.Tl
open Go Go.RowKit
def s_f63 (n : Nat) (a0 : ByteArray) (a1 : Int) (a2 : List Val) : Option (Val × Int) :=
  (bif (a0.data.toList == [97, 116]) then ((a2[0]?).bind fun x2 => (if 0 ≤ a1 then ((x2.t[a1.toNat]?).bind fun x4 => some (x4, 0)) else none)) else (bif (a0.data.toList == [116, 117, 112]) then (if a2.length ≤ 1000000 then some ((Val.mk 4 0 false ⟨#[]⟩ a2), 0) else none) else (bif (a0.data.toList == [110, 101, 103]) then ((a2[0]?).bind fun x10 => some ((Val.mk 1 (IntKind.i64.wrap (0 - x10.i)) false ⟨#[]⟩ []), 0)) else (bif (a0.data.toList == [110, 111, 116]) then ((a2[0]?).bind fun x13 => some ((Val.mk 2 0 (!x13.b) ⟨#[]⟩ []), 0)) else (bif (a0.data.toList == [108, 101, 110]) then ((a2[0]?).bind fun x16 => some ((Val.mk 1 (x16.s.size : Int) false ⟨#[]⟩ []), 0)) else (bif (a0.data.toList == [97, 100, 100]) then ((a2[0]?).bind fun x19 => ((a2[1]?).bind fun x21 => some ((Val.mk 1 (IntKind.i64.wrap (x19.i + x21.i)) false ⟨#[]⟩ []), 0))) else (bif (a0.data.toList == [115, 117, 98]) then ((a2[0]?).bind fun x24 => ((a2[1]?).bind fun x26 => some ((Val.mk 1 (IntKind.i64.wrap (x24.i - x26.i)) false ⟨#[]⟩ []), 0))) else (bif (a0.data.toList == [109, 117, 108]) then ((a2[0]?).bind fun x29 => ((a2[1]?).bind fun x31 => some ((Val.mk 1 (IntKind.i64.wrap (x29.i * x31.i)) false ⟨#[]⟩ []), 0))) else (bif (a0.data.toList == [101, 113]) then ((a2[0]?).bind fun x34 => ((a2[1]?).bind fun x36 => ((s_f25 n x34 x36).bind fun q38 => some ((Val.mk 2 0 q38 ⟨#[]⟩ []), 0)))) else (bif (a0.data.toList == [108, 116]) then ((a2[0]?).bind fun x41 => ((a2[1]?).bind fun x43 => ((s_f64 n x41 x43).bind fun q45 => some ((Val.mk 2 0 (decide (q45 < 0)) ⟨#[]⟩ []), 0)))) else (bif (a0.data.toList == [99, 97, 116]) then ((a2[0]?).bind fun x48 => ((a2[1]?).bind fun x50 => (if x48.s.size + x50.s.size ≤ 1000000 then (bif (decide (((x48.s ++ x50.s).size : Int) > 255)) then some ((Val.mk 0 0 false ⟨#[]⟩ []), 4) else some ((Val.mk 3 0 false (x48.s ++ x50.s) []), 0)) else none))) else ((a2[1]?).bind fun x54 => (bif (x54.i == 0) then some ((Val.mk 0 0 false ⟨#[]⟩ []), 8) else ((a2[1]?).bind fun x57 => (bif (x57.i == (-1)) then (bif (a0.data.toList == [100, 105, 118]) then ((a2[0]?).bind fun x61 => some ((Val.mk 1 (IntKind.i64.wrap (0 - x61.i)) false ⟨#[]⟩ []), 0)) else some ((Val.mk 1 0 false ⟨#[]⟩ []), 0)) else (bif (a0.data.toList == [100, 105, 118]) then ((a2[0]?).bind fun x64 => ((a2[1]?).bind fun x66 => (if x66.i ≠ 0 then some ((Val.mk 1 (IntKind.i64.wrap (x64.i.tdiv x66.i)) false ⟨#[]⟩ []), 0) else none))) else ((a2[0]?).bind fun x69 => ((a2[1]?).bind fun x71 => (if x71.i ≠ 0 then some ((Val.mk 1 (x69.i.tmod x71.i) false ⟨#[]⟩ []), 0) else none)))))))))))))))))))

theorem w_f63 (n : Nat) (a0 : ByteArray) (a1 : Int) (a2 : List Val) (r : Val × Int) (hr : s_f63 n a0 a1 a2 = some r) : ACall Try.prog 63 [.str a0, .int .i64 a1, .sl .ro 5 (encs a2)] (.tup [.agg (valC r.1), .int .i64 r.2]) := by
 refine ACall.go [(0, .str a0), (1, .int .i64 a1), (2, .sl .ro 5 (encs a2))] Try.func63 rfl Try.ntmps63 rfl rfl (by simp [pureA, pureL, pureR, inA, inL, inR, inO, idsIn, encs_pure, valC_pure]) ?_
 rw [s_f63] at hr
 refine AW.seq ?_
 refine AW.rg ?_
 refine AL.alc good (d := 6) rfl rfl rfl rfl rfl 0 rfl ?_
 refine AL.v good (d := 7) (v := .int .i64 0) rfl rfl rfl rfl ?_
 refine AW.seq ?_
 refine AW.seq ?_
 refine AW.rg ?_
 refine AL.v good (d := 9) (v := .str a0) rfl rfl rfl rfl ?_
 refine AW.block ?_
 refine AW.seq ?_
 refine AW.rg ?_
 refine AL.sb good (d := 11) (b := (a0.data.toList == [97, 116])) rfl rfl rfl rfl rfl rfl rfl ?_
 refine AL.v good (d := 10) (v := .bool (a0.data.toList == [97, 116])) rfl rfl rfl rfl ?_
 refine AW.if rfl (fun h1 => ?_) (fun h1 => ?_)
 ·replace hr := cnd_t h1 hr
  refine AW.seq ?_
  refine AW.rg ?_
  refine AL.v good (d := 12) (v := .sl .ro 5 (encs a2)) rfl rfl rfl rfl ?_
  obtain ⟨x2, h3, hr⟩ := bnd1 hr
  refine AL.ix good (d := 13) (r := [.int .i64 x2.kind, .int .i64 x2.i, .bool x2.b, .str x2.s, .sl .ro 5 (encs x2.t)]) rfl rfl rfl rfl rfl rfl rfl (by decide) (encs_get h3) ?_
  refine AL.v good (d := 14) (v := .ep [.sl .ro 5 (encs x2.t)]) rfl rfl rfl rfl ?_
  refine AL.v good (d := 15) (v := .sl .ro 5 (encs x2.t)) rfl rfl rfl rfl ?_
  refine AL.v good (d := 16) (v := .int .i64 a1) rfl rfl rfl rfl ?_
  obtain ⟨h6, hr⟩ := grd hr
  obtain ⟨x4, h5, hr⟩ := bnd1 hr
  refine AL.ix good (d := 17) (r := [.int .i64 x4.kind, .int .i64 x4.i, .bool x4.b, .str x4.s, .sl .ro 5 (encs x4.t)]) rfl rfl rfl rfl rfl rfl rfl h6 (encs_get h5) ?_
  refine AL.v good (d := 18) (v := .agg [.int .i64 x4.kind, .int .i64 x4.i, .bool x4.b, .str x4.s, .sl .ro 5 (encs x4.t)]) rfl rfl rfl rfl ?_
  refine AL.st2 good (c2 := [.int .i64 x4.kind, .int .i64 x4.i, .bool x4.b, .str x4.s, .sl .ro 5 (encs x4.t)]) rfl rfl rfl rfl rfl rfl rfl rfl rfl rfl rfl rfl ?_
  refine AL.v good (d := 7) (v := .int .i64 0) rfl rfl rfl rfl ?_
  refine AW.ret ?_
  obtain rfl := Option.some.inj hr
  exact RetQ.w good (.inr rfl) rfl rfl (Wv.refl _) (by simp [pureA, pureL, pureR, inA, inL, inR, inO, idsIn, encs_pure, valC_pure])
 ·replace hr := cnd_f h1 hr
  refine AW.seq ?_
  refine AW.rg ?_
  refine AL.sb good (d := 20) (b := (a0.data.toList == [116, 117, 112])) rfl rfl rfl rfl rfl rfl rfl ?_
  refine AL.v good (d := 19) (v := .bool (a0.data.toList == [116, 117, 112])) rfl rfl rfl rfl ?_
  refine AW.if rfl (fun h7 => ?_) (fun h7 => ?_)
  ·replace hr := cnd_t h7 hr
   refine AW.seq ?_
   refine AW.rg ?_
   refine AL.lit good (d := 21) (rows := []) rfl rfl rfl rfl rfl rfl rfl rfl rfl 1 rfl ?_
   refine AL.v good (d := 22) (v := .sl .ro 5 (encs a2)) rfl rfl rfl rfl ?_
   obtain ⟨h8, hr⟩ := grd hr
   refine AL.aw2 good (d := 23) (rows := encs []) (news := encs a2) (rows2 := encs a2) rfl rfl rfl rfl rfl rfl rfl rfl rfl (by simp) rfl rfl rfl (WvR.refl _) (by simp [encs_map]) (by rw [encs_length]; exact h8) rfl ?_
   refine AL.bld good (d := 24) (l := [.int .i64 4, .int .i64 0, .bool false, .str ⟨#[]⟩, .sl (.own 1) 5 (encs a2)]) rfl rfl rfl rfl rfl rfl rfl ?_
   refine AL.st2 good (c2 := [.int .i64 4, .int .i64 0, .bool false, .str ⟨#[]⟩, .sl (.own 1) 5 (encs a2)]) rfl rfl rfl rfl rfl rfl rfl rfl rfl rfl rfl rfl ?_
   refine AL.v good (d := 7) (v := .int .i64 0) rfl rfl rfl rfl ?_
   refine AW.ret ?_
   obtain rfl := Option.some.inj hr
   exact RetQ.w good (.inr rfl) rfl rfl ⟨⟨Wv.refl _, Wv.refl _, Wv.refl _, Wv.refl _, ⟨.inr rfl, WvR.refl _, .inl rfl⟩, trivial⟩, Wv.refl _, trivial⟩ (by simp [pureA, pureL, pureR, inA, inL, inR, inO, idsIn, encs_pure, valC_pure])
  ·replace hr := cnd_f h7 hr
   refine AW.seq ?_
   refine AW.rg ?_
   refine AL.sb good (d := 26) (b := (a0.data.toList == [110, 101, 103])) rfl rfl rfl rfl rfl rfl rfl ?_
   refine AL.v good (d := 25) (v := .bool (a0.data.toList == [110, 101, 103])) rfl rfl rfl rfl ?_
   refine AW.if rfl (fun h9 => ?_) (fun h9 => ?_)
   ·replace hr := cnd_t h9 hr
    refine AW.seq ?_
    refine AW.rg ?_
    refine AL.v good (d := 27) (v := .sl .ro 5 (encs a2)) rfl rfl rfl rfl ?_
    obtain ⟨x10, h11, hr⟩ := bnd1 hr
    refine AL.ix good (d := 28) (r := [.int .i64 x10.kind, .int .i64 x10.i, .bool x10.b, .str x10.s, .sl .ro 5 (encs x10.t)]) rfl rfl rfl rfl rfl rfl rfl (by decide) (encs_get h11) ?_
    refine AL.v good (d := 29) (v := .ep [.int .i64 x10.i, .bool x10.b, .str x10.s, .sl .ro 5 (encs x10.t)]) rfl rfl rfl rfl ?_
    refine AL.v good (d := 30) (v := .int .i64 x10.i) rfl rfl rfl rfl ?_
    refine AL.v good (d := 31) (v := .int .i64 (IntKind.i64.wrap (0 - x10.i))) rfl rfl rfl rfl ?_
    refine AL.cw good (d := 32) (xs := [.int .i64 (IntKind.i64.wrap (0 - x10.i))]) (res := .agg [.int .i64 1, .int .i64 (IntKind.i64.wrap (0 - x10.i)), .bool false, .str ⟨#[]⟩, .sl .ro 5 (encs [])]) rfl rfl rfl rfl rfl rfl rfl (w_f53 (IntKind.i64.wrap (0 - x10.i))) ⟨(Wv.refl _), trivial⟩ (by simp [pureA, pureL, pureR, inA, inL, inR, inO, idsIn, encs_pure, valC_pure]) ?_
    refine AL.st2 good (c2 := [.int .i64 1, .int .i64 (IntKind.i64.wrap (0 - x10.i)), .bool false, .str ⟨#[]⟩, .sl .ro 5 (encs [])]) rfl rfl rfl rfl rfl rfl rfl rfl rfl rfl rfl rfl ?_
    refine AL.v good (d := 7) (v := .int .i64 0) rfl rfl rfl rfl ?_
    refine AW.ret ?_
    obtain rfl := Option.some.inj hr
    exact RetQ.w good (.inr rfl) rfl rfl (Wv.refl _) (by simp [pureA, pureL, pureR, inA, inL, inR, inO, idsIn, encs_pure, valC_pure])
   ·replace hr := cnd_f h9 hr
    refine AW.seq ?_
    refine AW.rg ?_
    refine AL.sb good (d := 34) (b := (a0.data.toList == [110, 111, 116])) rfl rfl rfl rfl rfl rfl rfl ?_
    refine AL.v good (d := 33) (v := .bool (a0.data.toList == [110, 111, 116])) rfl rfl rfl rfl ?_
    refine AW.if rfl (fun h12 => ?_) (fun h12 => ?_)
    ·replace hr := cnd_t h12 hr
     refine AW.seq ?_
     refine AW.rg ?_
     refine AL.v good (d := 35) (v := .sl .ro 5 (encs a2)) rfl rfl rfl rfl ?_
     obtain ⟨x13, h14, hr⟩ := bnd1 hr
     refine AL.ix good (d := 36) (r := [.int .i64 x13.kind, .int .i64 x13.i, .bool x13.b, .str x13.s, .sl .ro 5 (encs x13.t)]) rfl rfl rfl rfl rfl rfl rfl (by decide) (encs_get h14) ?_
     refine AL.v good (d := 37) (v := .ep [.bool x13.b, .str x13.s, .sl .ro 5 (encs x13.t)]) rfl rfl rfl rfl ?_
     refine AL.v good (d := 38) (v := .bool x13.b) rfl rfl rfl rfl ?_
     refine AL.v good (d := 39) (v := .bool (!x13.b)) rfl rfl rfl rfl ?_
     refine AL.cw good (d := 40) (xs := [.bool (!x13.b)]) (res := .agg [.int .i64 2, .int .i64 0, .bool (!x13.b), .str ⟨#[]⟩, .sl .ro 5 (encs [])]) rfl rfl rfl rfl rfl rfl rfl (w_f99 (!x13.b)) ⟨(Wv.refl _), trivial⟩ (by simp [pureA, pureL, pureR, inA, inL, inR, inO, idsIn, encs_pure, valC_pure]) ?_
     refine AL.st2 good (c2 := [.int .i64 2, .int .i64 0, .bool (!x13.b), .str ⟨#[]⟩, .sl .ro 5 (encs [])]) rfl rfl rfl rfl rfl rfl rfl rfl rfl rfl rfl rfl ?_
     refine AL.v good (d := 7) (v := .int .i64 0) rfl rfl rfl rfl ?_
     refine AW.ret ?_
     obtain rfl := Option.some.inj hr
     exact RetQ.w good (.inr rfl) rfl rfl (Wv.refl _) (by simp [pureA, pureL, pureR, inA, inL, inR, inO, idsIn, encs_pure, valC_pure])
    ·replace hr := cnd_f h12 hr
     refine AW.seq ?_
     refine AW.rg ?_
     refine AL.sb good (d := 42) (b := (a0.data.toList == [108, 101, 110])) rfl rfl rfl rfl rfl rfl rfl ?_
     refine AL.v good (d := 41) (v := .bool (a0.data.toList == [108, 101, 110])) rfl rfl rfl rfl ?_
     refine AW.if rfl (fun h15 => ?_) (fun h15 => ?_)
     ·replace hr := cnd_t h15 hr
      refine AW.seq ?_
      refine AW.rg ?_
      refine AL.v good (d := 43) (v := .sl .ro 5 (encs a2)) rfl rfl rfl rfl ?_
      obtain ⟨x16, h17, hr⟩ := bnd1 hr
      refine AL.ix good (d := 44) (r := [.int .i64 x16.kind, .int .i64 x16.i, .bool x16.b, .str x16.s, .sl .ro 5 (encs x16.t)]) rfl rfl rfl rfl rfl rfl rfl (by decide) (encs_get h17) ?_
      refine AL.v good (d := 45) (v := .ep [.str x16.s, .sl .ro 5 (encs x16.t)]) rfl rfl rfl rfl ?_
      refine AL.v good (d := 46) (v := .str x16.s) rfl rfl rfl rfl ?_
      refine AL.v good (d := 47) (v := .int .i64 (x16.s.size : Int)) rfl rfl rfl rfl ?_
      refine AL.cw good (d := 48) (xs := [.int .i64 (x16.s.size : Int)]) (res := .agg [.int .i64 1, .int .i64 (x16.s.size : Int), .bool false, .str ⟨#[]⟩, .sl .ro 5 (encs [])]) rfl rfl rfl rfl rfl rfl rfl (w_f53 (x16.s.size : Int)) ⟨(Wv.refl _), trivial⟩ (by simp [pureA, pureL, pureR, inA, inL, inR, inO, idsIn, encs_pure, valC_pure]) ?_
      refine AL.st2 good (c2 := [.int .i64 1, .int .i64 (x16.s.size : Int), .bool false, .str ⟨#[]⟩, .sl .ro 5 (encs [])]) rfl rfl rfl rfl rfl rfl rfl rfl rfl rfl rfl rfl ?_
      refine AL.v good (d := 7) (v := .int .i64 0) rfl rfl rfl rfl ?_
      refine AW.ret ?_
      obtain rfl := Option.some.inj hr
      exact RetQ.w good (.inr rfl) rfl rfl (Wv.refl _) (by simp [pureA, pureL, pureR, inA, inL, inR, inO, idsIn, encs_pure, valC_pure])
     ·replace hr := cnd_f h15 hr
      refine AW.seq ?_
      refine AW.rg ?_
      refine AL.sb good (d := 50) (b := (a0.data.toList == [97, 100, 100])) rfl rfl rfl rfl rfl rfl rfl ?_
      refine AL.v good (d := 49) (v := .bool (a0.data.toList == [97, 100, 100])) rfl rfl rfl rfl ?_
      refine AW.if rfl (fun h18 => ?_) (fun h18 => ?_)
      ·replace hr := cnd_t h18 hr
       refine AW.seq ?_
       refine AW.drawc (M := fun i => ⟨Nat.beq i 10, bif Nat.beq i 3 then some { ids := [] } else bif Nat.beq i 7 then some { ids := [] } else bif Nat.beq i 10 then some { ids := [0] } else none⟩) good.wide (by kernel_rfl) ?_
       refine AL.v (nc := ⟨rfl⟩) good (d := 51) (v := .sl .ro 5 (encs a2)) rfl rfl rfl rfl ?_
       obtain ⟨x19, h20, hr⟩ := bnd1 hr
       refine AL.ix (nc := ⟨rfl⟩) good (d := 52) (r := [.int .i64 x19.kind, .int .i64 x19.i, .bool x19.b, .str x19.s, .sl .ro 5 (encs x19.t)]) rfl rfl rfl rfl rfl rfl rfl (by decide) (encs_get h20) ?_
       refine AL.v (nc := ⟨rfl⟩) good (d := 53) (v := .ep [.int .i64 x19.i, .bool x19.b, .str x19.s, .sl .ro 5 (encs x19.t)]) rfl rfl rfl rfl ?_
       refine AL.vc good (d := 54) (v := .int .i64 x19.i) rfl rfl rfl rfl rfl rfl (fun _ h => by cases h) ?_
       refine AL.v (nc := ⟨rfl⟩) good (d := 55) (v := .sl .ro 5 (encs a2)) rfl rfl rfl rfl ?_
       obtain ⟨x21, h22, hr⟩ := bnd1 hr
       refine AL.ix (nc := ⟨rfl⟩) good (d := 56) (r := [.int .i64 x21.kind, .int .i64 x21.i, .bool x21.b, .str x21.s, .sl .ro 5 (encs x21.t)]) rfl rfl rfl rfl rfl rfl rfl (by decide) (encs_get h22) ?_
       refine AL.v (nc := ⟨rfl⟩) good (d := 57) (v := .ep [.int .i64 x21.i, .bool x21.b, .str x21.s, .sl .ro 5 (encs x21.t)]) rfl rfl rfl rfl ?_
       refine AL.vc good (d := 58) (v := .int .i64 x21.i) rfl rfl rfl rfl rfl rfl (fun _ h => by cases h) ?_
       refine AL.v (nc := ⟨rfl⟩) good (d := 59) (v := .int .i64 (IntKind.i64.wrap (x19.i + x21.i))) rfl rfl rfl rfl ?_
       refine AL.cw (nc := ⟨rfl⟩) good (d := 60) (xs := [.int .i64 (IntKind.i64.wrap (x19.i + x21.i))]) (res := .agg [.int .i64 1, .int .i64 (IntKind.i64.wrap (x19.i + x21.i)), .bool false, .str ⟨#[]⟩, .sl .ro 5 (encs [])]) rfl rfl rfl rfl rfl rfl rfl (w_f53 (IntKind.i64.wrap (x19.i + x21.i))) ⟨(Wv.refl _), trivial⟩ (by simp [pureA, pureL, pureR, inA, inL, inR, inO, idsIn, encs_pure, valC_pure]) ?_
       refine AL.st2c good (c2 := [.int .i64 1, .int .i64 (IntKind.i64.wrap (x19.i + x21.i)), .bool false, .str ⟨#[]⟩, .sl .ro 5 (encs [])]) rfl rfl rfl rfl rfl rfl rfl rfl rfl rfl rfl rfl rfl ?_
       refine AL.v (nc := ⟨rfl⟩) good (d := 7) (v := .int .i64 0) rfl rfl rfl rfl ?_
       refine AW.ret ?_
       obtain rfl := Option.some.inj hr
       exact RetQ.w good (.inr rfl) rfl rfl (Wv.refl _) (by simp [pureA, pureL, pureR, inA, inL, inR, inO, idsIn, encs_pure, valC_pure])
      ·replace hr := cnd_f h18 hr
       refine AW.seq ?_
       refine AW.rg ?_
       refine AL.sb good (d := 62) (b := (a0.data.toList == [115, 117, 98])) rfl rfl rfl rfl rfl rfl rfl ?_
       refine AL.v good (d := 61) (v := .bool (a0.data.toList == [115, 117, 98])) rfl rfl rfl rfl ?_
       refine AW.if rfl (fun h23 => ?_) (fun h23 => ?_)
       ·replace hr := cnd_t h23 hr
        refine AW.seq ?_
        refine AW.drawc (M := fun i => ⟨Nat.beq i 10, bif Nat.beq i 3 then some { ids := [] } else bif Nat.beq i 7 then some { ids := [] } else bif Nat.beq i 10 then some { ids := [0] } else none⟩) good.wide (by kernel_rfl) ?_
        refine AL.v (nc := ⟨rfl⟩) good (d := 63) (v := .sl .ro 5 (encs a2)) rfl rfl rfl rfl ?_
        obtain ⟨x24, h25, hr⟩ := bnd1 hr
        refine AL.ix (nc := ⟨rfl⟩) good (d := 64) (r := [.int .i64 x24.kind, .int .i64 x24.i, .bool x24.b, .str x24.s, .sl .ro 5 (encs x24.t)]) rfl rfl rfl rfl rfl rfl rfl (by decide) (encs_get h25) ?_
        refine AL.v (nc := ⟨rfl⟩) good (d := 65) (v := .ep [.int .i64 x24.i, .bool x24.b, .str x24.s, .sl .ro 5 (encs x24.t)]) rfl rfl rfl rfl ?_
        refine AL.vc good (d := 66) (v := .int .i64 x24.i) rfl rfl rfl rfl rfl rfl (fun _ h => by cases h) ?_
        refine AL.v (nc := ⟨rfl⟩) good (d := 67) (v := .sl .ro 5 (encs a2)) rfl rfl rfl rfl ?_
        obtain ⟨x26, h27, hr⟩ := bnd1 hr
        refine AL.ix (nc := ⟨rfl⟩) good (d := 68) (r := [.int .i64 x26.kind, .int .i64 x26.i, .bool x26.b, .str x26.s, .sl .ro 5 (encs x26.t)]) rfl rfl rfl rfl rfl rfl rfl (by decide) (encs_get h27) ?_
        refine AL.v (nc := ⟨rfl⟩) good (d := 69) (v := .ep [.int .i64 x26.i, .bool x26.b, .str x26.s, .sl .ro 5 (encs x26.t)]) rfl rfl rfl rfl ?_
        refine AL.vc good (d := 70) (v := .int .i64 x26.i) rfl rfl rfl rfl rfl rfl (fun _ h => by cases h) ?_
        refine AL.v (nc := ⟨rfl⟩) good (d := 71) (v := .int .i64 (IntKind.i64.wrap (x24.i - x26.i))) rfl rfl rfl rfl ?_
        refine AL.cw (nc := ⟨rfl⟩) good (d := 72) (xs := [.int .i64 (IntKind.i64.wrap (x24.i - x26.i))]) (res := .agg [.int .i64 1, .int .i64 (IntKind.i64.wrap (x24.i - x26.i)), .bool false, .str ⟨#[]⟩, .sl .ro 5 (encs [])]) rfl rfl rfl rfl rfl rfl rfl (w_f53 (IntKind.i64.wrap (x24.i - x26.i))) ⟨(Wv.refl _), trivial⟩ (by simp [pureA, pureL, pureR, inA, inL, inR, inO, idsIn, encs_pure, valC_pure]) ?_
        refine AL.st2c good (c2 := [.int .i64 1, .int .i64 (IntKind.i64.wrap (x24.i - x26.i)), .bool false, .str ⟨#[]⟩, .sl .ro 5 (encs [])]) rfl rfl rfl rfl rfl rfl rfl rfl rfl rfl rfl rfl rfl ?_
        refine AL.v (nc := ⟨rfl⟩) good (d := 7) (v := .int .i64 0) rfl rfl rfl rfl ?_
        refine AW.ret ?_
        obtain rfl := Option.some.inj hr
        exact RetQ.w good (.inr rfl) rfl rfl (Wv.refl _) (by simp [pureA, pureL, pureR, inA, inL, inR, inO, idsIn, encs_pure, valC_pure])
       ·replace hr := cnd_f h23 hr
        refine AW.seq ?_
        refine AW.rg ?_
        refine AL.sb good (d := 74) (b := (a0.data.toList == [109, 117, 108])) rfl rfl rfl rfl rfl rfl rfl ?_
        refine AL.v good (d := 73) (v := .bool (a0.data.toList == [109, 117, 108])) rfl rfl rfl rfl ?_
        refine AW.if rfl (fun h28 => ?_) (fun h28 => ?_)
        ·replace hr := cnd_t h28 hr
         refine AW.seq ?_
         refine AW.drawc (M := fun i => ⟨Nat.beq i 10, bif Nat.beq i 3 then some { ids := [] } else bif Nat.beq i 7 then some { ids := [] } else bif Nat.beq i 10 then some { ids := [0] } else none⟩) good.wide (by kernel_rfl) ?_
         refine AL.v (nc := ⟨rfl⟩) good (d := 75) (v := .sl .ro 5 (encs a2)) rfl rfl rfl rfl ?_
         obtain ⟨x29, h30, hr⟩ := bnd1 hr
         refine AL.ix (nc := ⟨rfl⟩) good (d := 76) (r := [.int .i64 x29.kind, .int .i64 x29.i, .bool x29.b, .str x29.s, .sl .ro 5 (encs x29.t)]) rfl rfl rfl rfl rfl rfl rfl (by decide) (encs_get h30) ?_
         refine AL.v (nc := ⟨rfl⟩) good (d := 77) (v := .ep [.int .i64 x29.i, .bool x29.b, .str x29.s, .sl .ro 5 (encs x29.t)]) rfl rfl rfl rfl ?_
         refine AL.vc good (d := 78) (v := .int .i64 x29.i) rfl rfl rfl rfl rfl rfl (fun _ h => by cases h) ?_
         refine AL.v (nc := ⟨rfl⟩) good (d := 79) (v := .sl .ro 5 (encs a2)) rfl rfl rfl rfl ?_
         obtain ⟨x31, h32, hr⟩ := bnd1 hr
         refine AL.ix (nc := ⟨rfl⟩) good (d := 80) (r := [.int .i64 x31.kind, .int .i64 x31.i, .bool x31.b, .str x31.s, .sl .ro 5 (encs x31.t)]) rfl rfl rfl rfl rfl rfl rfl (by decide) (encs_get h32) ?_
         refine AL.v (nc := ⟨rfl⟩) good (d := 81) (v := .ep [.int .i64 x31.i, .bool x31.b, .str x31.s, .sl .ro 5 (encs x31.t)]) rfl rfl rfl rfl ?_
         refine AL.vc good (d := 82) (v := .int .i64 x31.i) rfl rfl rfl rfl rfl rfl (fun _ h => by cases h) ?_
         refine AL.v (nc := ⟨rfl⟩) good (d := 83) (v := .int .i64 (IntKind.i64.wrap (x29.i * x31.i))) rfl rfl rfl rfl ?_
         refine AL.cw (nc := ⟨rfl⟩) good (d := 84) (xs := [.int .i64 (IntKind.i64.wrap (x29.i * x31.i))]) (res := .agg [.int .i64 1, .int .i64 (IntKind.i64.wrap (x29.i * x31.i)), .bool false, .str ⟨#[]⟩, .sl .ro 5 (encs [])]) rfl rfl rfl rfl rfl rfl rfl (w_f53 (IntKind.i64.wrap (x29.i * x31.i))) ⟨(Wv.refl _), trivial⟩ (by simp [pureA, pureL, pureR, inA, inL, inR, inO, idsIn, encs_pure, valC_pure]) ?_
         refine AL.st2c good (c2 := [.int .i64 1, .int .i64 (IntKind.i64.wrap (x29.i * x31.i)), .bool false, .str ⟨#[]⟩, .sl .ro 5 (encs [])]) rfl rfl rfl rfl rfl rfl rfl rfl rfl rfl rfl rfl rfl ?_
         refine AL.v (nc := ⟨rfl⟩) good (d := 7) (v := .int .i64 0) rfl rfl rfl rfl ?_
         refine AW.ret ?_
         obtain rfl := Option.some.inj hr
         exact RetQ.w good (.inr rfl) rfl rfl (Wv.refl _) (by simp [pureA, pureL, pureR, inA, inL, inR, inO, idsIn, encs_pure, valC_pure])
        ·replace hr := cnd_f h28 hr
         refine AW.seq ?_
         refine AW.rg ?_
         refine AL.sb good (d := 86) (b := (a0.data.toList == [101, 113])) rfl rfl rfl rfl rfl rfl rfl ?_
         refine AL.v good (d := 85) (v := .bool (a0.data.toList == [101, 113])) rfl rfl rfl rfl ?_
         refine AW.if rfl (fun h33 => ?_) (fun h33 => ?_)
         ·replace hr := cnd_t h33 hr
          refine AW.seq ?_
          refine AW.drawc (M := fun i => ⟨Nat.beq i 8, bif Nat.beq i 2 then some { ids := [] } else bif Nat.beq i 5 then some { ids := [] } else bif Nat.beq i 8 then some { ids := [0] } else none⟩) good.wide (by kernel_rfl) ?_
          refine AL.v (nc := ⟨rfl⟩) good (d := 87) (v := .sl .ro 5 (encs a2)) rfl rfl rfl rfl ?_
          obtain ⟨x34, h35, hr⟩ := bnd1 hr
          refine AL.ix (nc := ⟨rfl⟩) good (d := 88) (r := [.int .i64 x34.kind, .int .i64 x34.i, .bool x34.b, .str x34.s, .sl .ro 5 (encs x34.t)]) rfl rfl rfl rfl rfl rfl rfl (by decide) (encs_get h35) ?_
          refine AL.vc good (d := 89) (v := .agg [.int .i64 x34.kind, .int .i64 x34.i, .bool x34.b, .str x34.s, .sl .ro 5 (encs x34.t)]) rfl rfl rfl rfl rfl rfl (fun _ h => by cases h) ?_
          refine AL.v (nc := ⟨rfl⟩) good (d := 90) (v := .sl .ro 5 (encs a2)) rfl rfl rfl rfl ?_
          obtain ⟨x36, h37, hr⟩ := bnd1 hr
          refine AL.ix (nc := ⟨rfl⟩) good (d := 91) (r := [.int .i64 x36.kind, .int .i64 x36.i, .bool x36.b, .str x36.s, .sl .ro 5 (encs x36.t)]) rfl rfl rfl rfl rfl rfl rfl (by decide) (encs_get h37) ?_
          refine AL.vc good (d := 92) (v := .agg [.int .i64 x36.kind, .int .i64 x36.i, .bool x36.b, .str x36.s, .sl .ro 5 (encs x36.t)]) rfl rfl rfl rfl rfl rfl (fun _ h => by cases h) ?_
          obtain ⟨q38, h39, hr⟩ := bnd1 hr
          refine AL.cw (nc := ⟨rfl⟩) good (d := 93) (xs := [.agg (valC x34), .agg (valC x36)]) (res := .bool q38) rfl rfl rfl rfl rfl rfl rfl (w_f25 _ _ _ _ h39) ⟨(Wv.refl _), (Wv.refl _), trivial⟩ (by simp [pureA, pureL, pureR, inA, inL, inR, inO, idsIn, encs_pure, valC_pure]) ?_
          refine AL.cw (nc := ⟨rfl⟩) good (d := 94) (xs := [.bool q38]) (res := .agg [.int .i64 2, .int .i64 0, .bool q38, .str ⟨#[]⟩, .sl .ro 5 (encs [])]) rfl rfl rfl rfl rfl rfl rfl (w_f99 q38) ⟨(Wv.refl _), trivial⟩ (by simp [pureA, pureL, pureR, inA, inL, inR, inO, idsIn, encs_pure, valC_pure]) ?_
          refine AL.st2c good (c2 := [.int .i64 2, .int .i64 0, .bool q38, .str ⟨#[]⟩, .sl .ro 5 (encs [])]) rfl rfl rfl rfl rfl rfl rfl rfl rfl rfl rfl rfl rfl ?_
          refine AL.v (nc := ⟨rfl⟩) good (d := 7) (v := .int .i64 0) rfl rfl rfl rfl ?_
          refine AW.ret ?_
          obtain rfl := Option.some.inj hr
          exact RetQ.w good (.inr rfl) rfl rfl (Wv.refl _) (by simp [pureA, pureL, pureR, inA, inL, inR, inO, idsIn, encs_pure, valC_pure])
         ·replace hr := cnd_f h33 hr
          refine AW.seq ?_
          refine AW.rg ?_
          refine AL.sb good (d := 96) (b := (a0.data.toList == [108, 116])) rfl rfl rfl rfl rfl rfl rfl ?_
          refine AL.v good (d := 95) (v := .bool (a0.data.toList == [108, 116])) rfl rfl rfl rfl ?_
          refine AW.if rfl (fun h40 => ?_) (fun h40 => ?_)
          ·replace hr := cnd_t h40 hr
           refine AW.seq ?_
           refine AW.drawc (M := fun i => ⟨Nat.beq i 9, bif Nat.beq i 2 then some { ids := [] } else bif Nat.beq i 5 then some { ids := [] } else bif Nat.beq i 9 then some { ids := [0] } else none⟩) good.wide (by kernel_rfl) ?_
           refine AL.v (nc := ⟨rfl⟩) good (d := 97) (v := .sl .ro 5 (encs a2)) rfl rfl rfl rfl ?_
           obtain ⟨x41, h42, hr⟩ := bnd1 hr
           refine AL.ix (nc := ⟨rfl⟩) good (d := 98) (r := [.int .i64 x41.kind, .int .i64 x41.i, .bool x41.b, .str x41.s, .sl .ro 5 (encs x41.t)]) rfl rfl rfl rfl rfl rfl rfl (by decide) (encs_get h42) ?_
           refine AL.vc good (d := 99) (v := .agg [.int .i64 x41.kind, .int .i64 x41.i, .bool x41.b, .str x41.s, .sl .ro 5 (encs x41.t)]) rfl rfl rfl rfl rfl rfl (fun _ h => by cases h) ?_
           refine AL.v (nc := ⟨rfl⟩) good (d := 100) (v := .sl .ro 5 (encs a2)) rfl rfl rfl rfl ?_
           obtain ⟨x43, h44, hr⟩ := bnd1 hr
           refine AL.ix (nc := ⟨rfl⟩) good (d := 101) (r := [.int .i64 x43.kind, .int .i64 x43.i, .bool x43.b, .str x43.s, .sl .ro 5 (encs x43.t)]) rfl rfl rfl rfl rfl rfl rfl (by decide) (encs_get h44) ?_
           refine AL.vc good (d := 102) (v := .agg [.int .i64 x43.kind, .int .i64 x43.i, .bool x43.b, .str x43.s, .sl .ro 5 (encs x43.t)]) rfl rfl rfl rfl rfl rfl (fun _ h => by cases h) ?_
           obtain ⟨q45, h46, hr⟩ := bnd1 hr
           refine AL.cw (nc := ⟨rfl⟩) good (d := 103) (xs := [.agg (valC x41), .agg (valC x43)]) (res := .int .i64 q45) rfl rfl rfl rfl rfl rfl rfl (w_f64 _ _ _ _ h46) ⟨(Wv.refl _), (Wv.refl _), trivial⟩ (by simp [pureA, pureL, pureR, inA, inL, inR, inO, idsIn, encs_pure, valC_pure]) ?_
           refine AL.v (nc := ⟨rfl⟩) good (d := 104) (v := .bool (decide (q45 < 0))) rfl rfl rfl rfl ?_
           refine AL.cw (nc := ⟨rfl⟩) good (d := 105) (xs := [.bool (decide (q45 < 0))]) (res := .agg [.int .i64 2, .int .i64 0, .bool (decide (q45 < 0)), .str ⟨#[]⟩, .sl .ro 5 (encs [])]) rfl rfl rfl rfl rfl rfl rfl (w_f99 (decide (q45 < 0))) ⟨(Wv.refl _), trivial⟩ (by simp [pureA, pureL, pureR, inA, inL, inR, inO, idsIn, encs_pure, valC_pure]) ?_
           refine AL.st2c good (c2 := [.int .i64 2, .int .i64 0, .bool (decide (q45 < 0)), .str ⟨#[]⟩, .sl .ro 5 (encs [])]) rfl rfl rfl rfl rfl rfl rfl rfl rfl rfl rfl rfl rfl ?_
           refine AL.v (nc := ⟨rfl⟩) good (d := 7) (v := .int .i64 0) rfl rfl rfl rfl ?_
           refine AW.ret ?_
           obtain rfl := Option.some.inj hr
           exact RetQ.w good (.inr rfl) rfl rfl (Wv.refl _) (by simp [pureA, pureL, pureR, inA, inL, inR, inO, idsIn, encs_pure, valC_pure])
          ·replace hr := cnd_f h40 hr
           refine AW.seq ?_
           refine AW.rg ?_
           refine AL.sb good (d := 107) (b := (a0.data.toList == [99, 97, 116])) rfl rfl rfl rfl rfl rfl rfl ?_
           refine AL.v good (d := 106) (v := .bool (a0.data.toList == [99, 97, 116])) rfl rfl rfl rfl ?_
           refine AW.if rfl (fun h47 => ?_) (fun h47 => ?_)
           ·replace hr := cnd_t h47 hr
            refine AW.seq ?_
            refine AW.draw (M := fun i => false) good.wide (by kernel_rfl) ?_
            refine AL.v good (d := 108) (v := .sl .ro 5 (encs a2)) rfl rfl rfl rfl ?_
            obtain ⟨x48, h49, hr⟩ := bnd1 hr
            refine AL.ix good (d := 109) (r := [.int .i64 x48.kind, .int .i64 x48.i, .bool x48.b, .str x48.s, .sl .ro 5 (encs x48.t)]) rfl rfl rfl rfl rfl rfl rfl (by decide) (encs_get h49) ?_
            refine AL.v good (d := 110) (v := .ep [.str x48.s, .sl .ro 5 (encs x48.t)]) rfl rfl rfl rfl ?_
            refine AL.v good (d := 111) (v := .str x48.s) rfl rfl rfl rfl ?_
            refine AL.v good (d := 112) (v := .sl .ro 5 (encs a2)) rfl rfl rfl rfl ?_
            obtain ⟨x50, h51, hr⟩ := bnd1 hr
            refine AL.ix good (d := 113) (r := [.int .i64 x50.kind, .int .i64 x50.i, .bool x50.b, .str x50.s, .sl .ro 5 (encs x50.t)]) rfl rfl rfl rfl rfl rfl rfl (by decide) (encs_get h51) ?_
            refine AL.v good (d := 114) (v := .ep [.str x50.s, .sl .ro 5 (encs x50.t)]) rfl rfl rfl rfl ?_
            refine AL.v good (d := 115) (v := .str x50.s) rfl rfl rfl rfl ?_
            obtain ⟨h52, hr⟩ := grd hr
            refine AL.cat good (d := 116) rfl rfl rfl rfl rfl rfl h52 ?_
            refine AL.v good (d := 8) (v := .str (x48.s ++ x50.s)) rfl rfl rfl rfl ?_
            refine AW.seq ?_
            refine AW.seq ?_
            refine AW.rg ?_
            refine AL.v good (d := 117) (v := .str (x48.s ++ x50.s)) rfl rfl rfl rfl ?_
            refine AL.v good (d := 118) (v := .int .i64 ((x48.s ++ x50.s).size : Int)) rfl rfl rfl rfl ?_
            refine AL.v good (d := 119) (v := .bool (decide (((x48.s ++ x50.s).size : Int) > 255))) rfl rfl rfl rfl ?_
            refine AW.if rfl (fun h53 => ?_) (fun h53 => ?_)
            ·replace hr := cnd_t h53 hr
             refine AW.seq ?_
             refine AW.rg ?_
             refine AL.bld good (d := 120) (l := [.int .i64 0, .int .i64 0, .bool false, .str ⟨#[]⟩, .sl .nil 0 []]) rfl rfl rfl rfl rfl rfl rfl ?_
             refine AL.st2 good (c2 := [.int .i64 0, .int .i64 0, .bool false, .str ⟨#[]⟩, .sl .nil 0 []]) rfl rfl rfl rfl rfl rfl rfl rfl rfl rfl rfl rfl ?_
             refine AL.v good (d := 7) (v := .int .i64 4) rfl rfl rfl rfl ?_
             refine AW.ret ?_
             obtain rfl := Option.some.inj hr
             exact RetQ.w good (.inr rfl) rfl rfl ⟨⟨Wv.refl _, Wv.refl _, Wv.refl _, Wv.refl _, ⟨.inr rfl, trivial, .inr rfl⟩, trivial⟩, Wv.refl _, trivial⟩ (by simp [pureA, pureL, pureR, inA, inL, inR, inO, idsIn, encs_pure, valC_pure])
            ·replace hr := cnd_f h53 hr
             refine AW.skip ?_
             refine AW.seq ?_
             refine AW.rg ?_
             refine AL.v good (d := 121) (v := .str (x48.s ++ x50.s)) rfl rfl rfl rfl ?_
             refine AL.bld good (d := 122) (l := [.int .i64 3, .int .i64 0, .bool false, .str (x48.s ++ x50.s), .sl .nil 0 []]) rfl rfl rfl rfl rfl rfl rfl ?_
             refine AL.st2 good (c2 := [.int .i64 3, .int .i64 0, .bool false, .str (x48.s ++ x50.s), .sl .nil 0 []]) rfl rfl rfl rfl rfl rfl rfl rfl rfl rfl rfl rfl ?_
             refine AL.v good (d := 7) (v := .int .i64 0) rfl rfl rfl rfl ?_
             refine AW.ret ?_
             obtain rfl := Option.some.inj hr
             exact RetQ.w good (.inr rfl) rfl rfl ⟨⟨Wv.refl _, Wv.refl _, Wv.refl _, Wv.refl _, ⟨.inr rfl, trivial, .inr rfl⟩, trivial⟩, Wv.refl _, trivial⟩ (by simp [pureA, pureL, pureR, inA, inL, inR, inO, idsIn, encs_pure, valC_pure])
           ·replace hr := cnd_f h47 hr
            refine AW.skip ?_
            refine AW.seq ?_
            refine AW.seq ?_
            refine AW.rg ?_
            refine AL.v good (d := 123) (v := .sl .ro 5 (encs a2)) rfl rfl rfl rfl ?_
            obtain ⟨x54, h55, hr⟩ := bnd1 hr
            refine AL.ix good (d := 124) (r := [.int .i64 x54.kind, .int .i64 x54.i, .bool x54.b, .str x54.s, .sl .ro 5 (encs x54.t)]) rfl rfl rfl rfl rfl rfl rfl (by decide) (encs_get h55) ?_
            refine AL.v good (d := 125) (v := .ep [.int .i64 x54.i, .bool x54.b, .str x54.s, .sl .ro 5 (encs x54.t)]) rfl rfl rfl rfl ?_
            refine AL.v good (d := 126) (v := .int .i64 x54.i) rfl rfl rfl rfl ?_
            refine AL.v good (d := 127) (v := .bool (x54.i == 0)) rfl rfl rfl rfl ?_
            refine AW.if rfl (fun h56 => ?_) (fun h56 => ?_)
            ·replace hr := cnd_t h56 hr
             refine AW.seq ?_
             refine AW.rg ?_
             refine AL.bld good (d := 128) (l := [.int .i64 0, .int .i64 0, .bool false, .str ⟨#[]⟩, .sl .nil 0 []]) rfl rfl rfl rfl rfl rfl rfl ?_
             refine AL.st2 good (c2 := [.int .i64 0, .int .i64 0, .bool false, .str ⟨#[]⟩, .sl .nil 0 []]) rfl rfl rfl rfl rfl rfl rfl rfl rfl rfl rfl rfl ?_
             refine AL.v good (d := 7) (v := .int .i64 8) rfl rfl rfl rfl ?_
             refine AW.ret ?_
             obtain rfl := Option.some.inj hr
             exact RetQ.w good (.inr rfl) rfl rfl ⟨⟨Wv.refl _, Wv.refl _, Wv.refl _, Wv.refl _, ⟨.inr rfl, trivial, .inr rfl⟩, trivial⟩, Wv.refl _, trivial⟩ (by simp [pureA, pureL, pureR, inA, inL, inR, inO, idsIn, encs_pure, valC_pure])
            ·replace hr := cnd_f h56 hr
             refine AW.skip ?_
             refine AW.seq ?_
             refine AW.seq ?_
             refine AW.rg ?_
             refine AL.v good (d := 129) (v := .sl .ro 5 (encs a2)) rfl rfl rfl rfl ?_
             obtain ⟨x57, h58, hr⟩ := bnd1 hr
             refine AL.ix good (d := 130) (r := [.int .i64 x57.kind, .int .i64 x57.i, .bool x57.b, .str x57.s, .sl .ro 5 (encs x57.t)]) rfl rfl rfl rfl rfl rfl rfl (by decide) (encs_get h58) ?_
             refine AL.v good (d := 131) (v := .ep [.int .i64 x57.i, .bool x57.b, .str x57.s, .sl .ro 5 (encs x57.t)]) rfl rfl rfl rfl ?_
             refine AL.v good (d := 132) (v := .int .i64 x57.i) rfl rfl rfl rfl ?_
             refine AL.v good (d := 133) (v := .bool (x57.i == (-1))) rfl rfl rfl rfl ?_
             refine AW.if rfl (fun h59 => ?_) (fun h59 => ?_)
             ·replace hr := cnd_t h59 hr
              refine AW.seq ?_
              refine AW.seq ?_
              refine AW.rg ?_
              refine AL.v good (d := 134) (v := .str a0) rfl rfl rfl rfl ?_
              refine AL.sb good (d := 135) (b := (a0.data.toList == [100, 105, 118])) rfl rfl rfl rfl rfl rfl rfl ?_
              refine AW.if rfl (fun h60 => ?_) (fun h60 => ?_)
              ·replace hr := cnd_t h60 hr
               refine AW.seq ?_
               refine AW.rg ?_
               refine AL.v good (d := 136) (v := .sl .ro 5 (encs a2)) rfl rfl rfl rfl ?_
               obtain ⟨x61, h62, hr⟩ := bnd1 hr
               refine AL.ix good (d := 137) (r := [.int .i64 x61.kind, .int .i64 x61.i, .bool x61.b, .str x61.s, .sl .ro 5 (encs x61.t)]) rfl rfl rfl rfl rfl rfl rfl (by decide) (encs_get h62) ?_
               refine AL.v good (d := 138) (v := .ep [.int .i64 x61.i, .bool x61.b, .str x61.s, .sl .ro 5 (encs x61.t)]) rfl rfl rfl rfl ?_
               refine AL.v good (d := 139) (v := .int .i64 x61.i) rfl rfl rfl rfl ?_
               refine AL.v good (d := 140) (v := .int .i64 (IntKind.i64.wrap (0 - x61.i))) rfl rfl rfl rfl ?_
               refine AL.cw good (d := 141) (xs := [.int .i64 (IntKind.i64.wrap (0 - x61.i))]) (res := .agg [.int .i64 1, .int .i64 (IntKind.i64.wrap (0 - x61.i)), .bool false, .str ⟨#[]⟩, .sl .ro 5 (encs [])]) rfl rfl rfl rfl rfl rfl rfl (w_f53 (IntKind.i64.wrap (0 - x61.i))) ⟨(Wv.refl _), trivial⟩ (by simp [pureA, pureL, pureR, inA, inL, inR, inO, idsIn, encs_pure, valC_pure]) ?_
               refine AL.st2 good (c2 := [.int .i64 1, .int .i64 (IntKind.i64.wrap (0 - x61.i)), .bool false, .str ⟨#[]⟩, .sl .ro 5 (encs [])]) rfl rfl rfl rfl rfl rfl rfl rfl rfl rfl rfl rfl ?_
               refine AL.v good (d := 7) (v := .int .i64 0) rfl rfl rfl rfl ?_
               refine AW.ret ?_
               obtain rfl := Option.some.inj hr
               exact RetQ.w good (.inr rfl) rfl rfl (Wv.refl _) (by simp [pureA, pureL, pureR, inA, inL, inR, inO, idsIn, encs_pure, valC_pure])
              ·replace hr := cnd_f h60 hr
               refine AW.skip ?_
               refine AW.seq ?_
               refine AW.rg ?_
               refine AL.cw good (d := 142) (xs := [.int .i64 0]) (res := .agg [.int .i64 1, .int .i64 0, .bool false, .str ⟨#[]⟩, .sl .ro 5 (encs [])]) rfl rfl rfl rfl rfl rfl rfl (w_f53 0) ⟨(Wv.refl _), trivial⟩ (by simp [pureA, pureL, pureR, inA, inL, inR, inO, idsIn, encs_pure, valC_pure]) ?_
               refine AL.st2 good (c2 := [.int .i64 1, .int .i64 0, .bool false, .str ⟨#[]⟩, .sl .ro 5 (encs [])]) rfl rfl rfl rfl rfl rfl rfl rfl rfl rfl rfl rfl ?_
               refine AL.v good (d := 7) (v := .int .i64 0) rfl rfl rfl rfl ?_
               refine AW.ret ?_
               obtain rfl := Option.some.inj hr
               exact RetQ.w good (.inr rfl) rfl rfl (Wv.refl _) (by simp [pureA, pureL, pureR, inA, inL, inR, inO, idsIn, encs_pure, valC_pure])
             ·replace hr := cnd_f h59 hr
              refine AW.skip ?_
              refine AW.seq ?_
              refine AW.seq ?_
              refine AW.rg ?_
              refine AL.v good (d := 143) (v := .str a0) rfl rfl rfl rfl ?_
              refine AL.sb good (d := 144) (b := (a0.data.toList == [100, 105, 118])) rfl rfl rfl rfl rfl rfl rfl ?_
              refine AW.if rfl (fun h63 => ?_) (fun h63 => ?_)
              ·replace hr := cnd_t h63 hr
               refine AW.seq ?_
               refine AW.drawc (M := fun i => ⟨Nat.beq i 10, bif Nat.beq i 3 then some { ids := [] } else bif Nat.beq i 7 then some { ids := [] } else bif Nat.beq i 10 then some { ids := [0] } else none⟩) good.wide (by kernel_rfl) ?_
               refine AL.v (nc := ⟨rfl⟩) good (d := 145) (v := .sl .ro 5 (encs a2)) rfl rfl rfl rfl ?_
               obtain ⟨x64, h65, hr⟩ := bnd1 hr
               refine AL.ix (nc := ⟨rfl⟩) good (d := 146) (r := [.int .i64 x64.kind, .int .i64 x64.i, .bool x64.b, .str x64.s, .sl .ro 5 (encs x64.t)]) rfl rfl rfl rfl rfl rfl rfl (by decide) (encs_get h65) ?_
               refine AL.v (nc := ⟨rfl⟩) good (d := 147) (v := .ep [.int .i64 x64.i, .bool x64.b, .str x64.s, .sl .ro 5 (encs x64.t)]) rfl rfl rfl rfl ?_
               refine AL.vc good (d := 148) (v := .int .i64 x64.i) rfl rfl rfl rfl rfl rfl (fun _ h => by cases h) ?_
               refine AL.v (nc := ⟨rfl⟩) good (d := 149) (v := .sl .ro 5 (encs a2)) rfl rfl rfl rfl ?_
               obtain ⟨x66, h67, hr⟩ := bnd1 hr
               refine AL.ix (nc := ⟨rfl⟩) good (d := 150) (r := [.int .i64 x66.kind, .int .i64 x66.i, .bool x66.b, .str x66.s, .sl .ro 5 (encs x66.t)]) rfl rfl rfl rfl rfl rfl rfl (by decide) (encs_get h67) ?_
               refine AL.v (nc := ⟨rfl⟩) good (d := 151) (v := .ep [.int .i64 x66.i, .bool x66.b, .str x66.s, .sl .ro 5 (encs x66.t)]) rfl rfl rfl rfl ?_
               refine AL.vc good (d := 152) (v := .int .i64 x66.i) rfl rfl rfl rfl rfl rfl (fun _ h => by cases h) ?_
               obtain ⟨h68, hr⟩ := grd hr
               refine AL.v (nc := ⟨rfl⟩) good (d := 153) (v := .int .i64 (IntKind.i64.wrap (x64.i.tdiv x66.i))) rfl rfl rfl (by simp only [aval]; exact avq_quo h68) ?_
               refine AL.cw (nc := ⟨rfl⟩) good (d := 154) (xs := [.int .i64 (IntKind.i64.wrap (x64.i.tdiv x66.i))]) (res := .agg [.int .i64 1, .int .i64 (IntKind.i64.wrap (x64.i.tdiv x66.i)), .bool false, .str ⟨#[]⟩, .sl .ro 5 (encs [])]) rfl rfl rfl rfl rfl rfl rfl (w_f53 (IntKind.i64.wrap (x64.i.tdiv x66.i))) ⟨(Wv.refl _), trivial⟩ (by simp [pureA, pureL, pureR, inA, inL, inR, inO, idsIn, encs_pure, valC_pure]) ?_
               refine AL.st2c good (c2 := [.int .i64 1, .int .i64 (IntKind.i64.wrap (x64.i.tdiv x66.i)), .bool false, .str ⟨#[]⟩, .sl .ro 5 (encs [])]) rfl rfl rfl rfl rfl rfl rfl rfl rfl rfl rfl rfl rfl ?_
               refine AL.v (nc := ⟨rfl⟩) good (d := 7) (v := .int .i64 0) rfl rfl rfl rfl ?_
               refine AW.ret ?_
               obtain rfl := Option.some.inj hr
               exact RetQ.w good (.inr rfl) rfl rfl (Wv.refl _) (by simp [pureA, pureL, pureR, inA, inL, inR, inO, idsIn, encs_pure, valC_pure])
              ·replace hr := cnd_f h63 hr
               refine AW.skip ?_
               refine AW.seq ?_
               refine AW.drawc (M := fun i => ⟨Nat.beq i 10, bif Nat.beq i 3 then some { ids := [] } else bif Nat.beq i 7 then some { ids := [] } else bif Nat.beq i 10 then some { ids := [0] } else none⟩) good.wide (by kernel_rfl) ?_
               refine AL.v (nc := ⟨rfl⟩) good (d := 155) (v := .sl .ro 5 (encs a2)) rfl rfl rfl rfl ?_
               obtain ⟨x69, h70, hr⟩ := bnd1 hr
               refine AL.ix (nc := ⟨rfl⟩) good (d := 156) (r := [.int .i64 x69.kind, .int .i64 x69.i, .bool x69.b, .str x69.s, .sl .ro 5 (encs x69.t)]) rfl rfl rfl rfl rfl rfl rfl (by decide) (encs_get h70) ?_
               refine AL.v (nc := ⟨rfl⟩) good (d := 157) (v := .ep [.int .i64 x69.i, .bool x69.b, .str x69.s, .sl .ro 5 (encs x69.t)]) rfl rfl rfl rfl ?_
               refine AL.vc good (d := 158) (v := .int .i64 x69.i) rfl rfl rfl rfl rfl rfl (fun _ h => by cases h) ?_
               refine AL.v (nc := ⟨rfl⟩) good (d := 159) (v := .sl .ro 5 (encs a2)) rfl rfl rfl rfl ?_
               obtain ⟨x71, h72, hr⟩ := bnd1 hr
               refine AL.ix (nc := ⟨rfl⟩) good (d := 160) (r := [.int .i64 x71.kind, .int .i64 x71.i, .bool x71.b, .str x71.s, .sl .ro 5 (encs x71.t)]) rfl rfl rfl rfl rfl rfl rfl (by decide) (encs_get h72) ?_
               refine AL.v (nc := ⟨rfl⟩) good (d := 161) (v := .ep [.int .i64 x71.i, .bool x71.b, .str x71.s, .sl .ro 5 (encs x71.t)]) rfl rfl rfl rfl ?_
               refine AL.vc good (d := 162) (v := .int .i64 x71.i) rfl rfl rfl rfl rfl rfl (fun _ h => by cases h) ?_
               obtain ⟨h73, hr⟩ := grd hr
               refine AL.v (nc := ⟨rfl⟩) good (d := 163) (v := .int .i64 (x69.i.tmod x71.i)) rfl rfl rfl (by simp only [aval]; exact avq_rem h73) ?_
               refine AL.cw (nc := ⟨rfl⟩) good (d := 164) (xs := [.int .i64 (x69.i.tmod x71.i)]) (res := .agg [.int .i64 1, .int .i64 (x69.i.tmod x71.i), .bool false, .str ⟨#[]⟩, .sl .ro 5 (encs [])]) rfl rfl rfl rfl rfl rfl rfl (w_f53 (x69.i.tmod x71.i)) ⟨(Wv.refl _), trivial⟩ (by simp [pureA, pureL, pureR, inA, inL, inR, inO, idsIn, encs_pure, valC_pure]) ?_
               refine AL.st2c good (c2 := [.int .i64 1, .int .i64 (x69.i.tmod x71.i), .bool false, .str ⟨#[]⟩, .sl .ro 5 (encs [])]) rfl rfl rfl rfl rfl rfl rfl rfl rfl rfl rfl rfl rfl ?_
               refine AL.v (nc := ⟨rfl⟩) good (d := 7) (v := .int .i64 0) rfl rfl rfl rfl ?_
               refine AW.ret ?_
               obtain rfl := Option.some.inj hr
               exact RetQ.w good (.inr rfl) rfl rfl (Wv.refl _) (by simp [pureA, pureL, pureR, inA, inL, inR, inO, idsIn, encs_pure, valC_pure])

mutual
def s_f24 : Nat → Ex → Val → Option (Val × Int)
  | 0, _, _ => none
  | n + 1, a0, a1 => (bif (a0.op.data.toList == [108, 105, 116]) then some (a0.v, 0) else (bif (a0.op.data.toList == [120]) then some (a1, 0) else ((a0.a[0]?).bind fun x3 => ((s_f24 n x3 a1).bind fun q5 => (bif (q5.2 != 0) then some ((Val.mk 0 0 false ⟨#[]⟩ []), q5.2) else (bif (a0.op.data.toList == [97, 110, 100]) then (bif (!q5.1.b) then some (q5.1, 0) else ((a0.a[1]?).bind fun x10 => ((s_f24 n x10 a1).bind fun q12 => some (q12.1, q12.2)))) else (bif (a0.op.data.toList == [111, 114]) then (bif q5.1.b then some (q5.1, 0) else ((a0.a[1]?).bind fun x16 => ((s_f24 n x16 a1).bind fun q18 => some (q18.1, q18.2)))) else (bif (a0.op.data.toList == [105, 102]) then (bif q5.1.b then ((a0.a[1]?).bind fun x22 => ((s_f24 n x22 a1).bind fun q24 => some (q24.1, q24.2))) else ((a0.a[2]?).bind fun x26 => ((s_f24 n x26 a1).bind fun q28 => some (q28.1, q28.2)))) else (s_f24_l1 n a0 a1 [q5.1] 1)))))))))
def s_f24_l1 : Nat → Ex → Val → (List Val) → Nat → Option (Val × Int)
  | 0, _, _, _, _ => none
  | n + 1, a0, a1, v1_1, v1_2 => (bif (decide ((v1_2 : Int) < (a0.a.length : Int))) then ((a0.a[v1_2]?).bind fun x40 => ((s_f24 n x40 a1).bind fun q42 => (bif (q42.2 != 0) then some ((Val.mk 0 0 false ⟨#[]⟩ []), q42.2) else (if v1_1.length + 1 ≤ 1000000 then (s_f24_l1 n a0 a1 (v1_1 ++ [q42.1]) (v1_2 + 1)) else none)))) else ((s_f63 n a0.op a0.n v1_1).bind fun q46 => some (q46.1, q46.2)))
end

end Go.Proofs.Ytbcjcekoonebiaa.Tl

set_option linter.unusedVariables false
set_option linter.unusedSimpArgs false
namespace Go.Proofs.Ytbcjcekoonebiaa.Tl
open Go Go.RowKit
mutual
def s_f120_l1 : Nat → (List GInst) → Int → (List GInst) → Nat → Option (List GInst)
  | 0, _, _, _, _ => none
  | n + 1, a0, a1, v1_1, v1_2 => (bif (decide ((v1_2 : Int) < (a0.length : Int))) then ((a0[v1_2]?).bind fun x12 => (bif ((x12.f0.data.toList == [106, 109, 112]) || (x12.f0.data.toList == [106, 102])) then (if v1_1.length + 1 ≤ 1000000 then (s_f120_l1 n a0 a1 (v1_1 ++ [(GInst.mk x12.f0 x12.f1 (IntKind.i64.wrap (x12.f2 + a1)))]) (v1_2 + 1)) else none) else (if v1_1.length + 1 ≤ 1000000 then (s_f120_l1 n a0 a1 (v1_1 ++ [x12]) (v1_2 + 1)) else none))) else some v1_1)
end
def s_f120 (n : Nat) (a0 : List GInst) (a1 : Int) : Option (List GInst) :=
  (s_f120_l1 n a0 a1 [] 0)

def s_f89 (n : Nat) (a0 : List GInst) (a1 : List GInst) : Option (List GInst) :=
  (if a0.length ≤ 1000000 then ((s_f120 n a1 (a0.length : Int)).bind fun q2 => (if a0.length + q2.length ≤ 1000000 then some (a0 ++ q2) else none)) else none)

def s_f87 (n : Nat) (a0 : List GInst) (a1 : List GInst) (a2 : List GInst) : Option (List GInst) :=
  (if a0.length ≤ 1000000 then (if a0.length + 1 ≤ 1000000 then ((s_f89 n (a0 ++ [(GInst.mk ⟨#[106, 102]⟩ (Val.mk 0 0 false ⟨#[]⟩ []) (IntKind.i64.wrap ((IntKind.i64.wrap ((IntKind.i64.wrap ((a0.length : Int) + 1)) + (a1.length : Int))) + 1)))]) a1).bind fun q3 => (if q3.length + 1 ≤ 1000000 then ((s_f89 n (q3 ++ [(GInst.mk ⟨#[106, 109, 112]⟩ (Val.mk 0 0 false ⟨#[]⟩ []) (IntKind.i64.wrap ((IntKind.i64.wrap ((IntKind.i64.wrap ((IntKind.i64.wrap ((a0.length : Int) + 1)) + (a1.length : Int))) + 1)) + (a2.length : Int))))]) a2).bind fun q6 => some q6) else none)) else none) else none)

mutual
def s_f52 : Nat → Ex → Option (List GInst)
  | 0, _ => none
  | n + 1, a0 => (bif (a0.op.data.toList == [108, 105, 116]) then some [(GInst.mk ⟨#[112, 117, 115, 104]⟩ a0.v 0)] else (bif (a0.op.data.toList == [120]) then some [(GInst.mk ⟨#[120]⟩ (Val.mk 0 0 false ⟨#[]⟩ []) 0)] else (bif (a0.op.data.toList == [97, 110, 100]) then ((a0.a[0]?).bind fun x4 => ((s_f52 n x4).bind fun q6 => ((a0.a[1]?).bind fun x8 => ((s_f52 n x8).bind fun q10 => ((s_f87 n q6 q10 [(GInst.mk ⟨#[112, 117, 115, 104]⟩ (Val.mk 2 0 false ⟨#[]⟩ []) 0)]).bind fun q12 => some q12))))) else (bif (a0.op.data.toList == [111, 114]) then ((a0.a[0]?).bind fun x15 => ((s_f52 n x15).bind fun q17 => ((a0.a[1]?).bind fun x19 => ((s_f52 n x19).bind fun q21 => ((s_f87 n q17 [(GInst.mk ⟨#[112, 117, 115, 104]⟩ (Val.mk 2 0 true ⟨#[]⟩ []) 0)] q21).bind fun q23 => some q23))))) else (bif (a0.op.data.toList == [105, 102]) then ((a0.a[0]?).bind fun x26 => ((s_f52 n x26).bind fun q28 => ((a0.a[1]?).bind fun x30 => ((s_f52 n x30).bind fun q32 => ((a0.a[2]?).bind fun x34 => ((s_f52 n x34).bind fun q36 => ((s_f87 n q28 q32 q36).bind fun q38 => some q38))))))) else (s_f52_l1 n a0 [] 0))))))
def s_f52_l1 : Nat → Ex → (List GInst) → Nat → Option (List GInst)
  | 0, _, _, _ => none
  | n + 1, a0, v1_1, v1_2 => (bif (decide ((v1_2 : Int) < (a0.a.length : Int))) then ((a0.a[v1_2]?).bind fun x50 => ((s_f52 n x50).bind fun q52 => ((s_f89 n v1_1 q52).bind fun q54 => (s_f52_l1 n a0 q54 (v1_2 + 1))))) else (bif (a0.op.data.toList == [97, 116]) then (if v1_1.length + 1 ≤ 1000000 then some (v1_1 ++ [(GInst.mk ⟨#[97, 116]⟩ (Val.mk 0 0 false ⟨#[]⟩ []) a0.n)]) else none) else (bif (a0.op.data.toList == [116, 117, 112]) then (if v1_1.length + 1 ≤ 1000000 then some (v1_1 ++ [(GInst.mk ⟨#[116, 117, 112]⟩ (Val.mk 0 0 false ⟨#[]⟩ []) (a0.a.length : Int))]) else none) else (if v1_1.length + 1 ≤ 1000000 then some (v1_1 ++ [(GInst.mk a0.op (Val.mk 0 0 false ⟨#[]⟩ []) 0)]) else none))))
end

end Go.Proofs.Ytbcjcekoonebiaa.Tl

set_option linter.unusedVariables false
set_option linter.unusedSimpArgs false
namespace Go.Proofs.Ytbcjcekoonebiaa.Tl
open Go Go.RowKit
end Go.Proofs.Ytbcjcekoonebiaa.Tl

set_option linter.unusedVariables false
set_option linter.unusedSimpArgs false
namespace Go.Proofs.Ytbcjcekoonebiaa.Tl
open Go Go.RowKit
abbrev c_int_i8 (x : Int) : List AV := [.int .i8 x]
def r_int_i8 (l : List Int) : List (List AV) := rowF c_int_i8 l
theorem r_int_i8_pure (S : Nat → Bool) (l : List Int) : inR S (r_int_i8 l) = true := rowF_pure S (fun x => by simp [pureA, pureL, pureR, inA, inL, inR, inO, idsIn, encs_pure, enxs_pure, enys_pure, valC_pure, exC_pure, tyC_pure, c_int_i8, r_int_u8_pure, r_st_GInst_pure, r_sl_st_GInst_pure, r_st_GMiss_pure]) l
abbrev c_int_i64 (x : Int) : List AV := [.int .i64 x]
def r_int_i64 (l : List Int) : List (List AV) := rowF c_int_i64 l
theorem r_int_i64_pure (S : Nat → Bool) (l : List Int) : inR S (r_int_i64 l) = true := rowF_pure S (fun x => by simp [pureA, pureL, pureR, inA, inL, inR, inO, idsIn, encs_pure, enxs_pure, enys_pure, valC_pure, exC_pure, tyC_pure, c_int_i64, r_int_u8_pure, r_st_GInst_pure, r_sl_st_GInst_pure, r_st_GMiss_pure, r_int_i8_pure]) l

end Go.Proofs.Ytbcjcekoonebiaa.Tl

set_option linter.unusedVariables false
set_option linter.unusedSimpArgs false
namespace Go.Proofs.Ytbcjcekoonebiaa.Tl
open Go Go.RowKit
theorem RdL.of_get {C : Cx} : ∀ {xs : List AV} {vs : List Value}, xs.length = vs.length → (∀ (j : Nat) (x : AV) (v : Value), xs[j]? = some x → vs[j]? = some v → Rd C x v) → RdL C xs vs
  | [], [], _, _ => by simp [RdL]
  | [], _ :: _, h, _ => by simp at h
  | _ :: _, [], h, _ => by simp at h
  | x :: xs, v :: vs, h, k => by
    simp only [RdL]
    exact ⟨k 0 x v rfl rfl, RdL.of_get (by simpa using h) (fun j a b p q => k (j + 1) a b (by simpa using p) (by simpa using q))⟩
theorem RdL.get2 {C : Cx} : ∀ {xs : List AV} {vs : List Value} {j : Nat} {x : AV} {v : Value}, RdL C xs vs → xs[j]? = some x → vs[j]? = some v → Rd C x v
  | [], _, j, x, v, _, h, _ => by simp at h
  | _ :: _, [], j, x, v, h, _, _ => by simp [RdL] at h
  | y :: xs, u :: vs, 0, x, v, h, p, q => by
    simp only [RdL] at h
    simp only [List.getElem?_cons_zero, Option.some.injEq] at p q
    subst p q
    exact h.1
  | y :: xs, u :: vs, j + 1, x, v, h, p, q => by
    simp only [RdL] at h
    simp only [List.getElem?_cons_succ] at p q
    exact RdL.get2 h.2 p q
theorem rep_get {α : Type} {z : List α} {sz : Nat} (hz : z.length = sz) (h0 : 0 < sz) : ∀ (m j : Nat) (x : α), (List.replicate m z).flatten[j]? = some x → z[j % sz]? = some x
  | 0, j, x, h => by simp at h
  | m + 1, j, x, h => by
    rw [List.replicate_succ, List.flatten_cons] at h
    rcases Nat.lt_or_ge j sz with hj | hj
    · rw [List.getElem?_append_left (by omega)] at h
      rw [Nat.mod_eq_of_lt hj]
      exact h
    · rw [List.getElem?_append_right (by omega), hz] at h
      have := rep_get hz h0 m (j - sz) x h
      rw [Nat.mod_eq_sub_mod hj]
      exact this
theorem made_rd {C : Cx} {z : List AV} {cs : Array Value} {sz : Nat} (h : RdL C z cs.toList) (h1 : ∀ u ∈ cs.toList, u.oneCell' = true) (hz : z.length = sz) (h0 : 0 < sz) (m : Nat) :
    RdL C (List.replicate m z).flatten (madeCells cs (m * sz)).toList ∧ ∀ u ∈ (madeCells cs (m * sz)).toList, u.oneCell' = true := by
  have hl : cs.size = sz := by have := h.length; simp at this; omega
  have hg : ∀ (j : Nat) (v : Value), (madeCells cs (m * sz)).toList[j]? = some v → cs.toList[j % sz]? = some v := fun j v hv => by
    have hlt : j % sz < cs.size := by rw [hl]; exact Nat.mod_lt _ h0
    simp only [madeCells, Array.getElem?_toList, Array.getElem?_map, Option.map_eq_some_iff] at hv
    obtain ⟨k, k1, k2⟩ := hv
    have : k = j := by
      rw [Array.getElem?_range] at k1
      split at k1
      · injection k1 with k1; exact k1.symm
      · cases k1
    subst this
    rw [Array.getElem?_toList, ← k2, hl, Array.getElem?_eq_getElem hlt, getElem!_pos cs (k % sz) hlt]
  constructor
  · refine RdL.of_get ?_ (fun j x v hx hv => RdL.get2 h (rep_get hz h0 m j x hx) (hg j v hv))
    have e : (madeCells cs (m * sz)).toList.length = m * sz := by rw [Array.length_toList, size_madeCells]
    rw [e]
    simp [hz]
  · intro u hu
    obtain ⟨j, hj⟩ := List.mem_iff_getElem?.1 hu
    exact h1 u (List.mem_of_getElem? (hg j u hj))

theorem OpS.mmake {P : Program} {o : Oper} {ρ : Operand → Option AV} {ty e : TypeId} {sz : Nat} {len cap : Operand} (ho : o.op = .makeSlice ty len cap) (he : elm P ty = some (e, sz)) (hsz : 0 < sz) {z : List AV} (hz : zr P e = some z) (hzl : z.length = sz) {by_ : Nat} (hby : byt P e = some by_)
    {kl kc : IntKind} {m : Nat} (hl : ρ len = some (.int kl m)) (hc : ρ cap = some (.int kc m)) (hb : m * by_ ≤ 281474976710656) (hm : m ≤ 1000000) {rows : List (List AV)} (hw : WvR (List.replicate m z) rows) (id : Nat) :
    OpS P o ρ [] [(id, .arr e sz 0 rows)] (.mv id 0 .hdr) := by
  intro C a next Q hI hρ hrd hup hk
  have hH : C.H id = none := by
    have := hup (id, .arr e sz 0 rows) (by simp)
    simpa using this
  obtain ⟨e1, i, e2, e3⟩ := elm_spec he
  obtain ⟨i', zv, f1, f2, f3, _⟩ := zr_spec hz
  rw [e2] at f1
  injection f1 with f1
  subst f1
  have hbi : i.bytes = by_ := by simpa [byt, e2] using hby
  have q1 := hρ len (by simp [ho, Op.operands]) _ hl
  have q2 := hρ cap (by simp [ho, Op.operands]) _ hc
  simp only [Rd] at q1 q2
  obtain ⟨z1, z2⟩ := listV_rd (C := C) f3
  obtain ⟨m1, m2⟩ := made_rd z1 z2 hzl hsz m
  have m3 := WvL.rd _ _ _ (WvR.flat hw) m1
  have hrl : rows.length = m := by rw [← hw.length]; simp
  have hrs : ∀ r ∈ rows, r.length = sz := WvR.len hw (fun r hr => by rw [List.eq_of_mem_replicate hr]; exact hzl)
  have hrun := run_make (P := P) C.w ty e i zv e1 e2 f2 kl kc (m : Int) (m : Int) (by omega) (Int.le_refl _) (by
    rw [hbi, ← Int.natCast_mul]
    rw [Nat.mul_comm] at hb
    omega) (by omega)
  rw [Int.toNat_natCast, e3] at hrun
  unfold Oper.wp
  have hex : (execOp a.eval o).run P C.w = .ok (.value (.slice (some ⟨C.w.heap.size, 0, none⟩) m m)) (C.w.alloc (.cells (madeCells zv.cells (m * sz)) e)) := by
    unfold execOp
    simp only [ho, q1, q2, Sem.run_bind, hrun, Result.andThen_ok, Sem.run_pure]
  rw [hex, Oper.upon_value]
  have hown : (C.w.alloc (.cells (madeCells zv.cells (m * sz)) e)).ownsRow C.w0.heap.size e sz (.slice (some ⟨C.w.heap.size, 0, none⟩) m m) m (madeCells zv.cells (m * sz)).toList :=
    ⟨by rw [Array.length_toList, size_madeCells], .inr ⟨C.w.heap.size, m, _, rfl, hI.below.size, heap_alloc_new C.w _, Nat.le_refl _, by simp only [maxLen]; omega, by rw [size_madeCells], by rw [List.take_of_length_le]; rw [Array.length_toList, size_madeCells]; exact Nat.le_refl _⟩⟩
  have hn := hI.new id hH (madeCells zv.cells (m * sz)) e (.slice (some ⟨C.w.heap.size, 0, none⟩) m m) (.arr e sz 0 rows) rfl (fun C' e' hle hbk hge => by
    subst e'
    exact ⟨hsz, hrs, _, by rw [hrl]; exact hown, m3.le hle, m2⟩)
  refine hk _ (.slice (some ⟨C.w.heap.size, 0, none⟩) m m) hn.1 hn.2 rfl rfl rfl (fun id' u h => ?_) (fun p hp => ?_) ?_
  · by_cases e' : id' = id
    · subst e'; exact ⟨_, upd_same _ _ _⟩
    · exact ⟨u, by simpa only [upd_ne _ _ e'] using h⟩
  · simp only [List.mem_singleton] at hp
    subst hp
    exact ⟨_, upd_same _ _ _⟩
  · simp only [Rd]
    exact ⟨⟨_, _, _, rfl⟩, e, sz, 0, rows, upd_same _ _ _, Nat.le_refl _, fun _ => ⟨_, upd_same _ _ _, rfl⟩⟩

theorem WvR_rep {a b : List AV} (h : WvL a b) : ∀ m : Nat, WvR (List.replicate m a) (List.replicate m b)
  | 0 => by simp [WvR]
  | m + 1 => by simp only [List.replicate_succ, WvR]; exact ⟨h, WvR_rep h m⟩
theorem wr_rep {α : Type} (c : α → List AV) (x : α) {z : List AV} (m : Nat) (h : WvL z (c x)) : WvR (List.replicate m z) (rowF c (List.replicate m x)) := by
  simp only [rowF, List.map_replicate]
  exact WvR_rep h m
section
variable {P : Program} {T : TI} (hT : T.Good P) {ops : Array Oper} {M : Nat → Mk} {o : Oper} {rest : List Oper} {i n : Nat} {E : List (Nat × AV)} {H : List (Nat × AObj)} {Q : St → Prop}
include hT
theorem AL.mkC {d : Nat} (hd : o.dst = some d) (hn : Nat.blt d n = true) (hg : gdec ops (lk E) o = some true) {ty : TypeId} {len cap : Operand} (ho : o.op = .makeSlice ty len cap) {e sz : Nat} (he : gt T.elm ty = some (e, sz + 1))
    {z : List AV} (hz : gt T.zr e = some z) (hzl : Nat.beq z.length (sz + 1) = true) {by_ : Nat} (hby : gt T.byt e = some by_) (hbb : Nat.ble by_ 1000000 = true) {kl kc : IntKind} {m : Nat} (hl : evE E len = some (.int kl m)) (hc : evE E cap = some (.int kc m)) (hm : m ≤ 1000000) {rows : List (List AV)} (hw : WvR (List.replicate m z) rows) (id : Nat) (hid : lk H id = none)
    (hcl : ColN M i (lk H) [] [(id, .arr e (sz + 1) 0 rows)]) (k : AL P ops M rest (i + 1) (mkS n ((d, (.mv id 0 .hdr)) :: E) ((id, .arr e (sz + 1) 0 rows) :: H)) Q) : AL P ops M (o :: rest) i (mkS n E H) Q := by
  have h1 := Nat.le_of_ble_eq_true hbb
  have h2 : m * by_ ≤ 1000000 * 1000000 := Nat.mul_le_mul hm h1
  exact AL.newObjC hT hd hn hg id hid (by rw [ho]; rfl) (OpS.mmake ho (hT.elm he) (Nat.succ_pos _) (hT.zr hz) (Nat.eq_of_beq_eq_true hzl) (hT.byt hby) hl hc (by omega) hm hw id) hcl k
theorem AL.skc {d : Nat} (hd : o.dst = some d) (hn : Nat.blt d n = true) (hg : gdec ops (lk E) o = some false) (k : AL P ops M rest (i + 1) (mkS n ((d, .tup []) :: E) H) Q) : AL P ops M (o :: rest) i (mkS n E H) Q := by
  have _ := hT
  refine AL.skip (dOk1 hd hn) hg ?_
  unfold St.step
  rw [hd, lk_pt]
  exact k
variable {id ver : Nat} {e sz : Nat} {rows : List (List AV)}
theorem AL.msw (hd : o.dst = none) (hg : gdec ops (lk E) o = some true) {ty : TypeId} {x : Operand} {t : Tmp} (ho : o.op = .store ty x (.tmp t)) {q k0 : Nat} (hx : evE E x = some (.mv id ver (.cell (q * sz + k0)))) (hxt : x ≠ .tmp t) {v0 v : AV} (hy : lk E t = some v0) (hv : Wv v0 v) {l : List AV} (hl : cellsA v = some l) {g : Bool} {m : Nat} (hlay : gt T.lay ty = some (g, m)) (hlm : Nat.beq l.length m = true) (hH : lk H id = some (.arr e sz ver rows)) {row : List AV} (hrow : rows[q]? = some row) (hks : Nat.ble (k0 + l.length) sz = true) (hb : (M i).b = true) {rows2 : List (List AV)} (hr : rows.set q (spl row k0 l) = rows2)
    (hc : ColN M i (lk H) [(id, .arr e sz ver rows)] [(id, .arr e sz ver rows2)]) (k : AL P ops M rest (i + 1) (mkS n E ((id, .arr e sz ver rows2) :: H)) Q) : AL P ops M (o :: rest) i (mkS n E H) Q := by
  subst hr
  have e1 := Nat.eq_of_beq_eq_true hlm
  have h3 := Nat.le_of_ble_eq_true hks
  have hE : WE E ((t, v) :: E) := (WE.refl E).put t hy hv
  have hx' : evE ((t, v) :: E) x = some (.mv id ver (.cell (q * sz + k0))) := by
    cases x with
    | tmp u =>
      show lk ((t, _) :: E) u = _
      rw [lk_cons, upd_ne _ _ (fun q => hxt (by rw [q]))]
      exact hx
    | const v => exact hx
    | func f => exact hx
    | global g => exact hx
  have hy' : evE ((t, v) :: E) (.tmp t) = some v := by
    show lk ((t, _) :: E) t = _
    rw [lk_cons, upd_same]
  have hS : OpS P o (evE ((t, v) :: E)) [(id, .arr e sz ver rows)] [(id, .arr e sz ver (rows.set q (spl row k0 l)))] .undef := by
    intro C a next Q hI hρ hrd hup hk
    obtain ⟨_, _, _, _, z2, _⟩ := arr_at hI (hρ x (by rw [ho]; simp [Op.operands]) _ hx') (hrd (id, .arr e sz ver rows) (by simp)).1
    have hlt : q < rows.length := (List.getElem?_eq_some_iff.1 hrow).1
    have h2 : (q + 1) * sz ≤ rows.length * sz := Nat.mul_le_mul_right _ hlt
    rw [Nat.add_mul] at h2
    refine OpS.mstore ho hx' hy' hl (by rw [e1]; exact hT.lay hlay) (rows' := rows.set q (spl row k0 l)) (by simp) (fun r hr => ?_) (flat_set k0 l z2 hrow h3) (by omega) C a next Q hI hρ hrd hup hk
    rcases List.mem_or_eq_of_mem_set hr with h | h
    · exact z2 r h
    · rw [h]
      have := z2 row (List.mem_of_getElem? hrow)
      simp only [spl, List.length_append, List.length_take, List.length_drop]
      omega
  refine AL.op (fun d h => by rw [hd] at h; cases h) hg (rd := [(id, .arr e sz ver rows)]) (up := [(id, .arr e sz ver (rows.set q (spl row k0 l)))]) (v := .undef) ⟨by rw [ev_lk]; exact hS.weak hE.ev, fun p hp => ?_, fun p hp => ?_, .inl hb, hc.col⟩ ?_
  · simp only [List.mem_singleton] at hp; subst hp; exact hH
  · simp only [List.mem_singleton] at hp; subst hp; exact .inl ⟨_, List.mem_singleton.2 rfl⟩
  · unfold St.step
    rw [hd, updL_lk]
    exact k
end
end Go.Proofs.Ytbcjcekoonebiaa.Tl
