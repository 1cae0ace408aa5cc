/- Definitions and walks: types. Conditions: none. -/
import Derived.Test.YtbcjcekoonebiaaTlXb
set_option linter.unusedVariables false
set_option linter.unusedSimpArgs false
namespace Go.Proofs.Ytbcjcekoonebiaa.Tl
open Go Go.RowKit



mutual
def s_f91 : Nat → Ty → Int → Option Int
  | 0, _, _ => none
  | n + 1, a0, a1 => (bif (((decide (a0.kind < 1)) || (decide (a0.kind > 4))) || ((a0.kind != 4) && (decide ((a0.of.length : Int) > 0)))) then some 5 else (bif (a0.kind != 4) then some 0 else (bif ((a0.of.length : Int) == 0) then some 1 else (bif (decide ((a0.of.length : Int) > 8)) then some 10 else (bif (decide (a1 > 4)) then some 9 else (s_f91_l1 n a0 a1 0))))))
def s_f91_l1 : Nat → Ty → Int → Nat → Option Int
  | 0, _, _, _ => none
  | n + 1, a0, a1, v1_1 => (bif (decide ((v1_1 : Int) < (a0.of.length : Int))) then ((a0.of[v1_1]?).bind fun x21 => ((s_f91 n x21 (IntKind.i64.wrap (a1 + 1))).bind fun q23 => (bif (q23 != 0) then some q23 else (s_f91_l1 n a0 a1 (v1_1 + 1))))) else some 0)
end

theorem w_f91_a (n : Nat) (ih : ∀ (m : Nat) (a0 : Ty) (a1 : Int) (r : Int), s_f91 m a0 a1 = some r → m < n → ACall Try.prog 91 [.agg (tyC a0), .int .i64 a1] (.int .i64 r)) (a0 : Ty) (a1 : Int) (r : Int) (hr : s_f91 n a0 a1 = some r) : ACall Try.prog 91 [.agg (tyC a0), .int .i64 a1] (.int .i64 r) := by
  refine ACall.go [(0, .agg (tyC a0)), (1, .int .i64 a1)] Try.func91 rfl Try.ntmps91 rfl rfl (by simp [pureA, pureL, pureR, inA, inL, inR, inO, idsIn, encs_pure, enxs_pure, enys_pure, valC_pure, exC_pure, tyC_pure]) ?_
  cases n with
  | zero => rw [s_f91] at hr; cases hr
  | succ n =>
    rw [s_f91] at hr
    refine AW.seq ?_
    refine AW.region (M := fun _ => true) ?_
    refine AL.bx good (d := 2) (l := [.int .i64 a0.kind, .sl .ro 2 (enys a0.of)]) rfl rfl rfl rfl rfl rfl 0 rfl ?_
    refine AL.v good (d := 4) (v := .int .i64 0) rfl rfl rfl rfl ?_
    refine AW.seq ?_
    refine AW.block ?_
    refine AW.seq ?_
    refine AW.region (M := fun _ => true) ?_
    refine AL.v good (d := 8) (v := .ptr 0 0) rfl rfl rfl rfl ?_
    refine AL.v good (d := 9) (v := .int .i64 a0.kind) rfl rfl rfl rfl ?_
    refine AL.v good (d := 10) (v := .bool (decide (a0.kind < 1))) rfl rfl rfl rfl ?_
    refine AL.vb good (d := 11) (b := (decide (a0.kind < 1))) rfl rfl rfl rfl (fun g1 h2 => ?_)
    refine AL.gv good (d := 12) (c := (!g1)) (v := .ptr 0 0) (rd := []) rfl rfl (by cases g1 <;> rfl) (fun h => by cases g1 <;> first | rfl | exact absurd h (by decide)) ?_
    refine AL.gv good (d := 13) (c := (!g1)) (v := .int .i64 a0.kind) (rd := [(0, .box 40 [.int .i64 a0.kind, .sl .ro 2 (enys a0.of)])]) rfl rfl (by cases g1 <;> rfl) (fun h => by cases g1 <;> first | rfl | exact absurd h (by decide)) ?_
    refine AL.gv good (d := 14) (c := (!g1)) (v := .bool (decide (a0.kind > 4))) (rd := []) rfl rfl (by cases g1 <;> rfl) (fun h => by cases g1 <;> first | rfl | exact absurd h (by decide)) ?_
    refine AL.v good (d := 15) (v := .bool (g1 || (decide (a0.kind > 4)))) (rd := []) rfl rfl rfl (by cases g1 <;> rfl) ?_
    refine AL.vb good (d := 16) (b := (g1 || (decide (a0.kind > 4)))) rfl rfl rfl rfl (fun g3 h4 => ?_)
    refine AL.gv good (d := 17) (c := (!g3)) (v := .ptr 0 0) (rd := []) rfl rfl (by cases g3 <;> rfl) (fun h => by cases g3 <;> first | rfl | exact absurd h (by decide)) ?_
    refine AL.gv good (d := 18) (c := (!g3)) (v := .int .i64 a0.kind) (rd := [(0, .box 40 [.int .i64 a0.kind, .sl .ro 2 (enys a0.of)])]) rfl rfl (by cases g3 <;> rfl) (fun h => by cases g3 <;> first | rfl | exact absurd h (by decide)) ?_
    refine AL.gv good (d := 19) (c := (!g3)) (v := .bool (a0.kind != 4)) (rd := []) rfl rfl (by cases g3 <;> rfl) (fun h => by cases g3 <;> first | rfl | exact absurd h (by decide)) ?_
    refine AL.gvb good (d := 20) (c := (!g3)) (r := (a0.kind != 4)) (rd := []) rfl rfl (by cases g3 <;> rfl) (fun h => by cases g3 <;> first | rfl | exact absurd h (by decide)) (fun g5 h6 => ?_)
    refine AL.gv good (d := 21) (c := ((!g3) && g5)) (v := .ptr 0 1) (rd := []) rfl rfl (by cases g3 <;> cases g5 <;> rfl) (fun h => by cases g3 <;> cases g5 <;> first | rfl | exact absurd h (by decide)) ?_
    refine AL.gv good (d := 22) (c := ((!g3) && g5)) (v := .sl .ro 2 (enys a0.of)) (rd := [(0, .box 40 [.int .i64 a0.kind, .sl .ro 2 (enys a0.of)])]) rfl rfl (by cases g3 <;> cases g5 <;> rfl) (fun h => by cases g3 <;> cases g5 <;> first | rfl | exact absurd h (by decide)) ?_
    refine AL.gln good (d := 23) (c := ((!g3) && g5)) (m := a0.of.length) rfl rfl (by cases g3 <;> cases g5 <;> rfl) rfl rfl (fun h => by cases g3 <;> cases g5 <;> first | rfl | exact absurd h (by decide)) (enys_length _) ?_
    refine AL.gv good (d := 24) (c := ((!g3) && g5)) (v := .bool (decide ((a0.of.length : Int) > 0))) (rd := []) rfl rfl (by cases g3 <;> cases g5 <;> rfl) (fun h => by cases g3 <;> cases g5 <;> first | rfl | exact absurd h (by decide)) ?_
    refine AL.gv good (d := 25) (c := (!g3)) (v := .bool (g5 && (decide ((a0.of.length : Int) > 0)))) (rd := []) rfl rfl (by cases g3 <;> cases g5 <;> rfl) (fun h => by cases g3 <;> cases g5 <;> first | rfl | exact absurd h (by decide)) ?_
    refine AL.v good (d := 26) (v := .bool (g3 || (g5 && (decide ((a0.of.length : Int) > 0))))) (rd := []) rfl rfl rfl (by cases g3 <;> rfl) ?_
    refine AL.v good (d := 7) (v := .bool (g3 || (g5 && (decide ((a0.of.length : Int) > 0))))) rfl rfl rfl rfl ?_
    subst h2 h4 h6
    refine AW.if rfl (fun h7 => ?_) (fun h7 => ?_)
    · replace hr := cnd_t h7 hr
      refine AW.seq ?_
      refine AW.region (M := fun _ => true) ?_
      refine AL.v good (d := 4) (v := .int .i64 5) rfl rfl rfl rfl ?_
      refine AW.ret ?_
      obtain rfl := Option.some.inj hr
      exact RetQ.w good (.inr rfl) rfl rfl (Wv.refl _) (by simp [pureA, pureL, pureR, inA, inL, inR, inO, idsIn, encs_pure, enxs_pure, enys_pure, valC_pure, exC_pure, tyC_pure])
    · replace hr := cnd_f h7 hr
      refine AW.seq ?_
      refine AW.region (M := fun _ => true) ?_
      refine AL.v good (d := 28) (v := .ptr 0 0) rfl rfl rfl rfl ?_
      refine AL.v good (d := 29) (v := .int .i64 a0.kind) rfl rfl rfl rfl ?_
      refine AL.v good (d := 30) (v := .bool (a0.kind != 4)) rfl rfl rfl rfl ?_
      refine AL.v good (d := 27) (v := .bool (a0.kind != 4)) rfl rfl rfl rfl ?_
      refine AW.if rfl (fun h8 => ?_) (fun h8 => ?_)
      · replace hr := cnd_t h8 hr
        refine AW.seq ?_
        refine AW.region (M := fun _ => true) ?_
        refine AL.v good (d := 4) (v := .int .i64 0) rfl rfl rfl rfl ?_
        refine AW.ret ?_
        obtain rfl := Option.some.inj hr
        exact RetQ.w good (.inr rfl) rfl rfl (Wv.refl _) (by simp [pureA, pureL, pureR, inA, inL, inR, inO, idsIn, encs_pure, enxs_pure, enys_pure, valC_pure, exC_pure, tyC_pure])
      · replace hr := cnd_f h8 hr
        refine AW.seq ?_
        refine AW.region (M := fun _ => true) ?_
        refine AL.v good (d := 32) (v := .ptr 0 1) rfl rfl rfl rfl ?_
        refine AL.v good (d := 33) (v := .sl .ro 2 (enys a0.of)) rfl rfl rfl rfl ?_
        refine AL.ln good (d := 34) (m := a0.of.length) rfl rfl rfl rfl rfl rfl (enys_length _) ?_
        refine AL.v good (d := 35) (v := .bool ((a0.of.length : Int) == 0)) rfl rfl rfl rfl ?_
        refine AL.v good (d := 31) (v := .bool ((a0.of.length : Int) == 0)) rfl rfl rfl rfl ?_
        refine AW.if rfl (fun h9 => ?_) (fun h9 => ?_)
        · replace hr := cnd_t h9 hr
          refine AW.seq ?_
          refine AW.region (M := fun _ => true) ?_
          refine AL.v good (d := 4) (v := .int .i64 1) rfl rfl rfl rfl ?_
          refine AW.ret ?_
          obtain rfl := Option.some.inj hr
          exact RetQ.w good (.inr rfl) rfl rfl (Wv.refl _) (by simp [pureA, pureL, pureR, inA, inL, inR, inO, idsIn, encs_pure, enxs_pure, enys_pure, valC_pure, exC_pure, tyC_pure])
        · replace hr := cnd_f h9 hr
          refine AW.seq ?_
          refine AW.region (M := fun _ => true) ?_
          refine AL.v good (d := 37) (v := .ptr 0 1) rfl rfl rfl rfl ?_
          refine AL.v good (d := 38) (v := .sl .ro 2 (enys a0.of)) rfl rfl rfl rfl ?_
          refine AL.ln good (d := 39) (m := a0.of.length) rfl rfl rfl rfl rfl rfl (enys_length _) ?_
          refine AL.v good (d := 40) (v := .bool (decide ((a0.of.length : Int) > 8))) rfl rfl rfl rfl ?_
          refine AL.v good (d := 36) (v := .bool (decide ((a0.of.length : Int) > 8))) rfl rfl rfl rfl ?_
          refine AW.if rfl (fun h10 => ?_) (fun h10 => ?_)
          · replace hr := cnd_t h10 hr
            refine AW.seq ?_
            refine AW.region (M := fun _ => true) ?_
            refine AL.v good (d := 4) (v := .int .i64 10) rfl rfl rfl rfl ?_
            refine AW.ret ?_
            obtain rfl := Option.some.inj hr
            exact RetQ.w good (.inr rfl) rfl rfl (Wv.refl _) (by simp [pureA, pureL, pureR, inA, inL, inR, inO, idsIn, encs_pure, enxs_pure, enys_pure, valC_pure, exC_pure, tyC_pure])
          · replace hr := cnd_f h10 hr
            refine AW.seq ?_
            refine AW.region (M := fun _ => true) ?_
            refine AL.v good (d := 42) (v := .int .i64 a1) rfl rfl rfl rfl ?_
            refine AL.v good (d := 43) (v := .bool (decide (a1 > 4))) rfl rfl rfl rfl ?_
            refine AL.v good (d := 41) (v := .bool (decide (a1 > 4))) rfl rfl rfl rfl ?_
            refine AW.if rfl (fun h11 => ?_) (fun h11 => ?_)
            · replace hr := cnd_t h11 hr
              refine AW.seq ?_
              refine AW.region (M := fun _ => true) ?_
              refine AL.v good (d := 4) (v := .int .i64 9) rfl rfl rfl rfl ?_
              refine AW.ret ?_
              obtain rfl := Option.some.inj hr
              exact RetQ.w good (.inr rfl) rfl rfl (Wv.refl _) (by simp [pureA, pureL, pureR, inA, inL, inR, inO, idsIn, encs_pure, enxs_pure, enys_pure, valC_pure, exC_pure, tyC_pure])
            · replace hr := cnd_f h11 hr
              refine AW.skip ?_
              refine AW.seq ?_
              refine AW.seq ?_
              refine AW.region (M := fun _ => true) ?_
              refine AL.v good (d := 5) (v := .int .i64 0) rfl rfl rfl rfl ?_
              refine AW.block ?_
              refine AW.lensB 0 rfl (fun hl19 => ?_)
              replace hl19 : a0.of.length ≤ 9223372036854775807 := by rw [← enys_length a0.of]; exact hl19.2.1
              refine AW.lpw (fun x : Nat × Nat => [(1, .int .i64 a1), (2, .ptr 0 0), (5, .int .i64 (x.2 : Int))]) (fun x => [(0, .box 40 [.int .i64 a0.kind, .sl .ro 2 (enys a0.of)])]) (fun x => s_f91_l1 x.1 a0 a1 x.2 = some r ∧ x.1 ≤ n) (fun x => x.1) (n, 0) ⟨(fun _ h => by cases h), List.forall_mem_cons.2 ⟨⟨⟨_, rfl, Wv.refl _⟩, (by simp [pureA, pureL, pureR, inA, inL, inR, inO, idsIn, encs_pure, enxs_pure, enys_pure, valC_pure, exC_pure, tyC_pure])⟩, List.forall_mem_cons.2 ⟨⟨⟨_, rfl, Wv.refl _⟩, (by simp [pureA, pureL, pureR, inA, inL, inR, inO, idsIn, encs_pure, enxs_pure, enys_pure, valC_pure, exC_pure, tyC_pure])⟩, List.forall_mem_cons.2 ⟨⟨⟨_, rfl, Wv.refl _⟩, (by simp [pureA, pureL, pureR, inA, inL, inR, inO, idsIn, encs_pure, enxs_pure, enys_pure, valC_pure, exC_pure, tyC_pure])⟩, (fun _ h => by cases h)⟩⟩⟩, List.forall_mem_cons.2 ⟨⟨⟨_, rfl, ⟨rfl, ⟨Wv.refl _, Wv.refl _, trivial⟩⟩⟩, (by simp [pureA, pureL, pureR, inA, inL, inR, inO, idsIn, encs_pure, enxs_pure, enys_pure, valC_pure, exC_pure, tyC_pure])⟩, (fun _ h => by cases h)⟩⟩ ⟨hr, Nat.le_refl _⟩ (fun ⟨m, v1_1⟩ hx => ?_)
              obtain ⟨hr, hm⟩ := hx
              dsimp only at hr hm
              cases m with
              | zero => rw [s_f91_l1] at hr; cases hr
              | succ m =>
                rw [s_f91_l1] at hr
                show AW Try.prog _ _ _ (mkS 62 [(1, .int .i64 a1), (2, .ptr 0 0), (5, .int .i64 (v1_1 : Int))] [(0, .box 40 [.int .i64 a0.kind, .sl .ro 2 (enys a0.of)])])
                refine AW.seq ?_
                refine AW.seq ?_
                refine AW.region (M := fun _ => true) ?_
                refine AL.v good (d := 44) (v := .int .i64 (v1_1 : Int)) rfl rfl rfl rfl ?_
                refine AL.v good (d := 45) (v := .ptr 0 1) rfl rfl rfl rfl ?_
                refine AL.v good (d := 46) (v := .sl .ro 2 (enys a0.of)) rfl rfl rfl rfl ?_
                refine AL.ln good (d := 47) (m := a0.of.length) rfl rfl rfl rfl rfl rfl (enys_length _) ?_
                refine AL.v good (d := 48) (v := .bool (decide ((v1_1 : Int) < (a0.of.length : Int)))) rfl rfl rfl rfl ?_
                refine AW.if rfl (fun h20 => ?_) (fun h20 => ?_)
                · replace hr := cnd_t h20 hr
                  refine AW.skip ?_
                  refine AW.seq ?_
                  refine AW.block ?_
                  refine AW.seq ?_
                  refine AW.region (M := fun _ => true) ?_
                  refine AL.v good (d := 51) (v := .ptr 0 1) rfl rfl rfl rfl ?_
                  refine AL.v good (d := 52) (v := .sl .ro 2 (enys a0.of)) rfl rfl rfl rfl ?_
                  refine AL.v good (d := 53) (v := .int .i64 (v1_1 : Int)) rfl rfl rfl rfl ?_
                  obtain ⟨x21, h22, hr⟩ := bnd1 hr
                  refine AL.ix good (d := 54) (r := [.int .i64 x21.kind, .sl .ro 2 (enys x21.of)]) rfl rfl rfl rfl rfl rfl rfl (Int.natCast_nonneg _) (enys_get h22) ?_
                  refine AL.v good (d := 55) (v := .agg [.int .i64 x21.kind, .sl .ro 2 (enys x21.of)]) rfl rfl rfl rfl ?_
                  refine AL.v good (d := 56) (v := .int .i64 a1) rfl rfl rfl rfl ?_
                  refine AL.v good (d := 57) (v := .int .i64 (IntKind.i64.wrap (a1 + 1))) rfl rfl rfl rfl ?_
                  obtain ⟨q23, h24, hr⟩ := bnd1 hr
                  refine AL.cw good (d := 58) (xs := [.agg (tyC x21), .int .i64 (IntKind.i64.wrap (a1 + 1))]) (res := .int .i64 q23) rfl rfl rfl rfl rfl rfl rfl (ih _ _ _ _ h24 (by omega)) ⟨(Wv.refl _), (Wv.refl _), trivial⟩ (by simp [pureA, pureL, pureR, inA, inL, inR, inO, idsIn, encs_pure, enxs_pure, enys_pure, valC_pure, exC_pure, tyC_pure]) ?_
                  refine AL.v good (d := 6) (v := .int .i64 q23) rfl rfl rfl rfl ?_
                  refine AW.seq ?_
                  refine AW.region (M := fun _ => true) ?_
                  refine AL.v good (d := 59) (v := .int .i64 q23) rfl rfl rfl rfl ?_
                  refine AL.v good (d := 60) (v := .bool (q23 != 0)) rfl rfl rfl rfl ?_
                  refine AW.if rfl (fun h25 => ?_) (fun h25 => ?_)
                  · replace hr := cnd_t h25 hr
                    refine AW.seq ?_
                    refine AW.region (M := fun _ => true) ?_
                    refine AL.v good (d := 61) (v := .int .i64 q23) rfl rfl rfl rfl ?_
                    refine AL.v good (d := 4) (v := .int .i64 q23) rfl rfl rfl rfl ?_
                    refine AW.ret ?_
                    obtain rfl := Option.some.inj hr
                    exact RetQ.w good (.inr rfl) rfl rfl (Wv.refl _) (by simp [pureA, pureL, pureR, inA, inL, inR, inO, idsIn, encs_pure, enxs_pure, enys_pure, valC_pure, exC_pure, tyC_pure])
                  · replace hr := cnd_f h25 hr
                    refine AW.skip ?_
                    refine AW.region (M := fun _ => true) ?_
                    refine AL.v good (d := 49) (v := .int .i64 (v1_1 : Int)) rfl rfl rfl rfl ?_
                    refine AL.v good (d := 50) (v := .int .i64 (IntKind.i64.wrap ((v1_1 : Int) + 1))) rfl rfl rfl rfl ?_
                    refine AL.v good (d := 5) (v := .int .i64 (IntKind.i64.wrap ((v1_1 : Int) + 1))) rfl rfl rfl rfl ?_
                    exact ⟨(m, (v1_1 + 1)), _, _, rfl, ⟨(fun _ h => by cases h), List.forall_mem_cons.2 ⟨⟨⟨_, rfl, Wv.refl _⟩, (by simp [pureA, pureL, pureR, inA, inL, inR, inO, idsIn, encs_pure, enxs_pure, enys_pure, valC_pure, exC_pure, tyC_pure])⟩, List.forall_mem_cons.2 ⟨⟨⟨_, rfl, Wv.refl _⟩, (by simp [pureA, pureL, pureR, inA, inL, inR, inO, idsIn, encs_pure, enxs_pure, enys_pure, valC_pure, exC_pure, tyC_pure])⟩, List.forall_mem_cons.2 ⟨⟨⟨_, rfl, (wnx h20 hl19)⟩, (by simp [pureA, pureL, pureR, inA, inL, inR, inO, idsIn, encs_pure, enxs_pure, enys_pure, valC_pure, exC_pure, tyC_pure])⟩, (fun _ h => by cases h)⟩⟩⟩, List.forall_mem_cons.2 ⟨⟨⟨_, rfl, ⟨rfl, ⟨Wv.refl _, Wv.refl _, trivial⟩⟩⟩, (by simp [pureA, pureL, pureR, inA, inL, inR, inO, idsIn, encs_pure, enxs_pure, enys_pure, valC_pure, exC_pure, tyC_pure])⟩, (fun _ h => by cases h)⟩⟩, ⟨hr, Nat.le_of_succ_le hm⟩, Nat.lt_succ_self _⟩
                · replace hr := cnd_f h20 hr
                  refine AW.exit ?_
                  refine AW.seq ?_
                  refine AW.region (M := fun _ => true) ?_
                  refine AL.v good (d := 4) (v := .int .i64 0) rfl rfl rfl rfl ?_
                  refine AW.ret ?_
                  obtain rfl := Option.some.inj hr
                  exact RetQ.w good (.inr rfl) rfl rfl (Wv.refl _) (by simp [pureA, pureL, pureR, inA, inL, inR, inO, idsIn, encs_pure, enxs_pure, enys_pure, valC_pure, exC_pure, tyC_pure])
theorem w_f91 (n : Nat) : ∀ (a0 : Ty) (a1 : Int) (r : Int) (hr : s_f91 n a0 a1 = some r), ACall Try.prog 91 [.agg (tyC a0), .int .i64 a1] (.int .i64 r) := by
  induction n using Nat.strongRecOn with
  | _ n ih =>
    intro a0 a1 r hr
    exact w_f91_a n (fun m a0 a1 r h hm => ih m hm a0 a1 r h) a0 a1 r hr

def s_f56 (n : Nat) (a0 : Ty) : Option Int :=
  ((s_f91 n a0 0).bind fun q1 => some q1)

theorem w_f56 (n : Nat) (a0 : Ty) (r : Int) (hr : s_f56 n a0 = some r) : ACall Try.prog 56 [.agg (tyC a0)] (.int .i64 r) := by
  refine ACall.go [(0, .agg (tyC a0))] Try.func56 rfl Try.ntmps56 rfl rfl (by simp [pureA, pureL, pureR, inA, inL, inR, inO, idsIn, encs_pure, enxs_pure, enys_pure, valC_pure, exC_pure, tyC_pure]) ?_
  rw [s_f56] at hr
  refine AW.seq ?_
  refine AW.region (M := fun _ => true) ?_
  refine AL.bx good (d := 1) (l := [.int .i64 a0.kind, .sl .ro 2 (enys a0.of)]) rfl rfl rfl rfl rfl rfl 0 rfl ?_
  refine AL.v good (d := 2) (v := .int .i64 0) rfl rfl rfl rfl ?_
  refine AW.seq ?_
  refine AW.region (M := fun _ => true) ?_
  refine AL.v good (d := 3) (v := .agg [.int .i64 a0.kind, .sl .ro 2 (enys a0.of)]) rfl rfl rfl rfl ?_
  obtain ⟨q1, h2, hr⟩ := bnd1 hr
  refine AL.cw good (d := 4) (xs := [.agg (tyC a0), .int .i64 0]) (res := .int .i64 q1) rfl rfl rfl rfl rfl rfl rfl (w_f91 _ _ _ _ h2) ⟨(Wv.refl _), (Wv.refl _), trivial⟩ (by simp [pureA, pureL, pureR, inA, inL, inR, inO, idsIn, encs_pure, enxs_pure, enys_pure, valC_pure, exC_pure, tyC_pure]) ?_
  refine AL.v good (d := 2) (v := .int .i64 q1) rfl rfl rfl rfl ?_
  refine AW.ret ?_
  obtain rfl := Option.some.inj hr
  exact RetQ.w good (.inr rfl) rfl rfl (Wv.refl _) (by simp [pureA, pureL, pureR, inA, inL, inR, inO, idsIn, encs_pure, enxs_pure, enys_pure, valC_pure, exC_pure, tyC_pure])

mutual
def s_f57 : Nat → Ex → Option Int
  | 0, _ => none
  | n + 1, a0 => (s_f57_l1 n a0 1 0)
def s_f57_l1 : Nat → Ex → Int → Nat → Option Int
  | 0, _, _, _ => none
  | n + 1, a0, v1_1, v1_2 => (bif (decide ((v1_2 : Int) < (a0.a.length : Int))) then ((a0.a[v1_2]?).bind fun x9 => ((s_f57 n x9).bind fun q11 => (s_f57_l1 n a0 (IntKind.i64.wrap (v1_1 + q11)) (v1_2 + 1)))) else some v1_1)
end

theorem w_f57_a (n : Nat) (ih : ∀ (m : Nat) (a0 : Ex) (r : Int), s_f57 m a0 = some r → m < n → ACall Try.prog 57 [.agg (exC a0)] (.int .i64 r)) (a0 : Ex) (r : Int) (hr : s_f57 n a0 = some r) : ACall Try.prog 57 [.agg (exC a0)] (.int .i64 r) := by
  refine ACall.go [(0, .agg (exC a0))] Try.func57 rfl Try.ntmps57 rfl rfl (by simp [pureA, pureL, pureR, inA, inL, inR, inO, idsIn, encs_pure, enxs_pure, enys_pure, valC_pure, exC_pure, tyC_pure]) ?_
  cases n with
  | zero => rw [s_f57] at hr; cases hr
  | succ n =>
    rw [s_f57] at hr
    refine AW.seq ?_
    refine AW.region (M := fun _ => true) ?_
    refine AL.bx good (d := 1) (l := [.str a0.op, .int .i64 a0.v.kind, .int .i64 a0.v.i, .bool a0.v.b, .str a0.v.s, .sl .ro 5 (encs a0.v.t), .int .i64 a0.n, .sl .ro 8 (enxs a0.a)]) rfl rfl rfl rfl rfl rfl 0 rfl ?_
    refine AL.v good (d := 2) (v := .int .i64 0) rfl rfl rfl rfl ?_
    refine AW.seq ?_
    refine AW.region (M := fun _ => true) ?_
    refine AL.v good (d := 3) (v := .int .i64 1) rfl rfl rfl rfl ?_
    refine AW.seq ?_
    refine AW.seq ?_
    refine AW.region (M := fun _ => true) ?_
    refine AL.v good (d := 4) (v := .int .i64 0) rfl rfl rfl rfl ?_
    refine AW.block ?_
    refine AW.lensB 0 rfl (fun hl7 => ?_)
    replace hl7 : a0.a.length ≤ 9223372036854775807 := by rw [← enxs_length a0.a]; exact hl7.2.2.2.2.2.2.2.1
    refine AW.lpw (fun x : Nat × Int × Nat => [(1, .ptr 0 0), (3, .int .i64 x.2.1), (4, .int .i64 (x.2.2 : Int))]) (fun x => [(0, .box 36 [.str a0.op, .int .i64 a0.v.kind, .int .i64 a0.v.i, .bool a0.v.b, .str a0.v.s, .sl .ro 5 (encs a0.v.t), .int .i64 a0.n, .sl .ro 8 (enxs a0.a)])]) (fun x => s_f57_l1 x.1 a0 x.2.1 x.2.2 = some r ∧ x.1 ≤ n) (fun x => x.1) (n, 1, 0) ⟨(fun _ h => by cases h), List.forall_mem_cons.2 ⟨⟨⟨_, rfl, Wv.refl _⟩, (by simp [pureA, pureL, pureR, inA, inL, inR, inO, idsIn, encs_pure, enxs_pure, enys_pure, valC_pure, exC_pure, tyC_pure])⟩, List.forall_mem_cons.2 ⟨⟨⟨_, rfl, Wv.refl _⟩, (by simp [pureA, pureL, pureR, inA, inL, inR, inO, idsIn, encs_pure, enxs_pure, enys_pure, valC_pure, exC_pure, tyC_pure])⟩, List.forall_mem_cons.2 ⟨⟨⟨_, rfl, Wv.refl _⟩, (by simp [pureA, pureL, pureR, inA, inL, inR, inO, idsIn, encs_pure, enxs_pure, enys_pure, valC_pure, exC_pure, tyC_pure])⟩, (fun _ h => by cases h)⟩⟩⟩, List.forall_mem_cons.2 ⟨⟨⟨_, rfl, ⟨rfl, ⟨Wv.refl _, Wv.refl _, Wv.refl _, Wv.refl _, Wv.refl _, Wv.refl _, Wv.refl _, Wv.refl _, trivial⟩⟩⟩, (by simp [pureA, pureL, pureR, inA, inL, inR, inO, idsIn, encs_pure, enxs_pure, enys_pure, valC_pure, exC_pure, tyC_pure])⟩, (fun _ h => by cases h)⟩⟩ ⟨hr, Nat.le_refl _⟩ (fun ⟨m, v1_1, v1_2⟩ hx => ?_)
    obtain ⟨hr, hm⟩ := hx
    dsimp only at hr hm
    cases m with
    | zero => rw [s_f57_l1] at hr; cases hr
    | succ m =>
      rw [s_f57_l1] at hr
      show AW Try.prog _ _ _ (mkS 21 [(1, .ptr 0 0), (3, .int .i64 v1_1), (4, .int .i64 (v1_2 : Int))] [(0, .box 36 [.str a0.op, .int .i64 a0.v.kind, .int .i64 a0.v.i, .bool a0.v.b, .str a0.v.s, .sl .ro 5 (encs a0.v.t), .int .i64 a0.n, .sl .ro 8 (enxs a0.a)])])
      refine AW.seq ?_
      refine AW.seq ?_
      refine AW.region (M := fun _ => true) ?_
      refine AL.v good (d := 5) (v := .int .i64 (v1_2 : Int)) rfl rfl rfl rfl ?_
      refine AL.v good (d := 6) (v := .ptr 0 7) rfl rfl rfl rfl ?_
      refine AL.v good (d := 7) (v := .sl .ro 8 (enxs a0.a)) rfl rfl rfl rfl ?_
      refine AL.ln good (d := 8) (m := a0.a.length) rfl rfl rfl rfl rfl rfl (enxs_length _) ?_
      refine AL.v good (d := 9) (v := .bool (decide ((v1_2 : Int) < (a0.a.length : Int)))) rfl rfl rfl rfl ?_
      refine AW.if rfl (fun h8 => ?_) (fun h8 => ?_)
      · replace hr := cnd_t h8 hr
        refine AW.skip ?_
        refine AW.seq ?_
        refine AW.block ?_
        refine AW.region (M := fun _ => true) ?_
        refine AL.v good (d := 12) (v := .int .i64 v1_1) rfl rfl rfl rfl ?_
        refine AL.v good (d := 13) (v := .ptr 0 7) rfl rfl rfl rfl ?_
        refine AL.v good (d := 14) (v := .sl .ro 8 (enxs a0.a)) rfl rfl rfl rfl ?_
        refine AL.v good (d := 15) (v := .int .i64 (v1_2 : Int)) rfl rfl rfl rfl ?_
        obtain ⟨x9, h10, hr⟩ := bnd1 hr
        refine AL.ix good (d := 16) (r := [.str x9.op, .int .i64 x9.v.kind, .int .i64 x9.v.i, .bool x9.v.b, .str x9.v.s, .sl .ro 5 (encs x9.v.t), .int .i64 x9.n, .sl .ro 8 (enxs x9.a)]) rfl rfl rfl rfl rfl rfl rfl (Int.natCast_nonneg _) (enxs_get h10) ?_
        refine AL.v good (d := 17) (v := .agg [.str x9.op, .int .i64 x9.v.kind, .int .i64 x9.v.i, .bool x9.v.b, .str x9.v.s, .sl .ro 5 (encs x9.v.t), .int .i64 x9.n, .sl .ro 8 (enxs x9.a)]) rfl rfl rfl rfl ?_
        obtain ⟨q11, h12, hr⟩ := bnd1 hr
        refine AL.cw good (d := 18) (xs := [.agg (exC x9)]) (res := .int .i64 q11) rfl rfl rfl rfl rfl rfl rfl (ih _ _ _ h12 (by omega)) ⟨(Wv.refl _), trivial⟩ (by simp [pureA, pureL, pureR, inA, inL, inR, inO, idsIn, encs_pure, enxs_pure, enys_pure, valC_pure, exC_pure, tyC_pure]) ?_
        refine AL.v good (d := 19) (v := .int .i64 (IntKind.i64.wrap (v1_1 + q11))) rfl rfl rfl rfl ?_
        refine AL.v good (d := 3) (v := .int .i64 (IntKind.i64.wrap (v1_1 + q11))) rfl rfl rfl rfl ?_
        refine AW.region (M := fun _ => true) ?_
        refine AL.v good (d := 10) (v := .int .i64 (v1_2 : Int)) rfl rfl rfl rfl ?_
        refine AL.v good (d := 11) (v := .int .i64 (IntKind.i64.wrap ((v1_2 : Int) + 1))) rfl rfl rfl rfl ?_
        refine AL.v good (d := 4) (v := .int .i64 (IntKind.i64.wrap ((v1_2 : Int) + 1))) rfl rfl rfl rfl ?_
        exact ⟨(m, (IntKind.i64.wrap (v1_1 + q11)), (v1_2 + 1)), _, _, rfl, ⟨(fun _ h => by cases h), List.forall_mem_cons.2 ⟨⟨⟨_, rfl, Wv.refl _⟩, (by simp [pureA, pureL, pureR, inA, inL, inR, inO, idsIn, encs_pure, enxs_pure, enys_pure, valC_pure, exC_pure, tyC_pure])⟩, List.forall_mem_cons.2 ⟨⟨⟨_, rfl, Wv.refl _⟩, (by simp [pureA, pureL, pureR, inA, inL, inR, inO, idsIn, encs_pure, enxs_pure, enys_pure, valC_pure, exC_pure, tyC_pure])⟩, List.forall_mem_cons.2 ⟨⟨⟨_, rfl, (wnx h8 hl7)⟩, (by simp [pureA, pureL, pureR, inA, inL, inR, inO, idsIn, encs_pure, enxs_pure, enys_pure, valC_pure, exC_pure, tyC_pure])⟩, (fun _ h => by cases h)⟩⟩⟩, List.forall_mem_cons.2 ⟨⟨⟨_, rfl, ⟨rfl, ⟨Wv.refl _, Wv.refl _, Wv.refl _, Wv.refl _, Wv.refl _, Wv.refl _, Wv.refl _, Wv.refl _, trivial⟩⟩⟩, (by simp [pureA, pureL, pureR, inA, inL, inR, inO, idsIn, encs_pure, enxs_pure, enys_pure, valC_pure, exC_pure, tyC_pure])⟩, (fun _ h => by cases h)⟩⟩, ⟨hr, Nat.le_of_succ_le hm⟩, Nat.lt_succ_self _⟩
      · replace hr := cnd_f h8 hr
        refine AW.exit ?_
        refine AW.seq ?_
        refine AW.region (M := fun _ => true) ?_
        refine AL.v good (d := 20) (v := .int .i64 v1_1) rfl rfl rfl rfl ?_
        refine AL.v good (d := 2) (v := .int .i64 v1_1) rfl rfl rfl rfl ?_
        refine AW.ret ?_
        obtain rfl := Option.some.inj hr
        exact RetQ.w good (.inr rfl) rfl rfl (Wv.refl _) (by simp [pureA, pureL, pureR, inA, inL, inR, inO, idsIn, encs_pure, enxs_pure, enys_pure, valC_pure, exC_pure, tyC_pure])
theorem w_f57 (n : Nat) : ∀ (a0 : Ex) (r : Int) (hr : s_f57 n a0 = some r), ACall Try.prog 57 [.agg (exC a0)] (.int .i64 r) := by
  induction n using Nat.strongRecOn with
  | _ n ih =>
    intro a0 r hr
    exact w_f57_a n (fun m a0 r h hm => ih m hm a0 r h) a0 r hr

mutual
def s_f65 : Nat → Ty → Ty → Option Bool
  | 0, _, _ => none
  | n + 1, a0, a1 => (bif ((a0.kind != a1.kind) || ((a0.of.length : Int) != (a1.of.length : Int))) then some false else (s_f65_l1 n a0 a1 0))
def s_f65_l1 : Nat → Ty → Ty → Nat → Option Bool
  | 0, _, _, _ => none
  | n + 1, a0, a1, v1_1 => (bif (decide ((v1_1 : Int) < (a0.of.length : Int))) then ((a0.of[v1_1]?).bind fun x16 => ((a1.of[v1_1]?).bind fun x18 => ((s_f65 n x16 x18).bind fun q20 => (bif (!q20) then some false else (s_f65_l1 n a0 a1 (v1_1 + 1)))))) else some true)
end

theorem w_f65_a (n : Nat) (ih : ∀ (m : Nat) (a0 : Ty) (a1 : Ty) (r : Bool), s_f65 m a0 a1 = some r → m < n → ACall Try.prog 65 [.agg (tyC a0), .agg (tyC a1)] (.bool r)) (a0 : Ty) (a1 : Ty) (r : Bool) (hr : s_f65 n a0 a1 = some r) : ACall Try.prog 65 [.agg (tyC a0), .agg (tyC a1)] (.bool r) := by
  refine ACall.go [(0, .agg (tyC a0)), (1, .agg (tyC a1))] Try.func65 rfl Try.ntmps65 rfl rfl (by simp [pureA, pureL, pureR, inA, inL, inR, inO, idsIn, encs_pure, enxs_pure, enys_pure, valC_pure, exC_pure, tyC_pure]) ?_
  cases n with
  | zero => rw [s_f65] at hr; cases hr
  | succ n =>
    rw [s_f65] at hr
    refine AW.seq ?_
    refine AW.region (M := fun _ => true) ?_
    refine AL.bx good (d := 2) (l := [.int .i64 a0.kind, .sl .ro 2 (enys a0.of)]) rfl rfl rfl rfl rfl rfl 0 rfl ?_
    refine AL.bx good (d := 3) (l := [.int .i64 a1.kind, .sl .ro 2 (enys a1.of)]) rfl rfl rfl rfl rfl rfl 1 rfl ?_
    refine AL.v good (d := 4) (v := .bool false) rfl rfl rfl rfl ?_
    refine AW.seq ?_
    refine AW.seq ?_
    refine AW.region (M := fun _ => true) ?_
    refine AL.v good (d := 6) (v := .ptr 0 0) rfl rfl rfl rfl ?_
    refine AL.v good (d := 7) (v := .int .i64 a0.kind) rfl rfl rfl rfl ?_
    refine AL.v good (d := 8) (v := .ptr 1 0) rfl rfl rfl rfl ?_
    refine AL.v good (d := 9) (v := .int .i64 a1.kind) rfl rfl rfl rfl ?_
    refine AL.v good (d := 10) (v := .bool (a0.kind != a1.kind)) rfl rfl rfl rfl ?_
    refine AL.vb good (d := 11) (b := (a0.kind != a1.kind)) rfl rfl rfl rfl (fun g1 h2 => ?_)
    refine AL.gv good (d := 12) (c := (!g1)) (v := .ptr 0 1) (rd := []) rfl rfl (by cases g1 <;> rfl) (fun h => by cases g1 <;> first | rfl | exact absurd h (by decide)) ?_
    refine AL.gv good (d := 13) (c := (!g1)) (v := .sl .ro 2 (enys a0.of)) (rd := [(0, .box 40 [.int .i64 a0.kind, .sl .ro 2 (enys a0.of)])]) rfl rfl (by cases g1 <;> rfl) (fun h => by cases g1 <;> first | rfl | exact absurd h (by decide)) ?_
    refine AL.gln good (d := 14) (c := (!g1)) (m := a0.of.length) rfl rfl (by cases g1 <;> rfl) rfl rfl (fun h => by cases g1 <;> first | rfl | exact absurd h (by decide)) (enys_length _) ?_
    refine AL.gv good (d := 15) (c := (!g1)) (v := .ptr 1 1) (rd := []) rfl rfl (by cases g1 <;> rfl) (fun h => by cases g1 <;> first | rfl | exact absurd h (by decide)) ?_
    refine AL.gv good (d := 16) (c := (!g1)) (v := .sl .ro 2 (enys a1.of)) (rd := [(1, .box 40 [.int .i64 a1.kind, .sl .ro 2 (enys a1.of)])]) rfl rfl (by cases g1 <;> rfl) (fun h => by cases g1 <;> first | rfl | exact absurd h (by decide)) ?_
    refine AL.gln good (d := 17) (c := (!g1)) (m := a1.of.length) rfl rfl (by cases g1 <;> rfl) rfl rfl (fun h => by cases g1 <;> first | rfl | exact absurd h (by decide)) (enys_length _) ?_
    refine AL.gv good (d := 18) (c := (!g1)) (v := .bool ((a0.of.length : Int) != (a1.of.length : Int))) (rd := []) rfl rfl (by cases g1 <;> rfl) (fun h => by cases g1 <;> first | rfl | exact absurd h (by decide)) ?_
    refine AL.v good (d := 19) (v := .bool (g1 || ((a0.of.length : Int) != (a1.of.length : Int)))) (rd := []) rfl rfl rfl (by cases g1 <;> rfl) ?_
    subst h2
    refine AW.if rfl (fun h3 => ?_) (fun h3 => ?_)
    · replace hr := cnd_t h3 hr
      refine AW.seq ?_
      refine AW.region (M := fun _ => true) ?_
      refine AL.v good (d := 4) (v := .bool false) rfl rfl rfl rfl ?_
      refine AW.ret ?_
      obtain rfl := Option.some.inj hr
      exact RetQ.w good (.inr rfl) rfl rfl (Wv.refl _) (by simp [pureA, pureL, pureR, inA, inL, inR, inO, idsIn, encs_pure, enxs_pure, enys_pure, valC_pure, exC_pure, tyC_pure])
    · replace hr := cnd_f h3 hr
      refine AW.skip ?_
      refine AW.seq ?_
      refine AW.seq ?_
      refine AW.region (M := fun _ => true) ?_
      refine AL.v good (d := 5) (v := .int .i64 0) rfl rfl rfl rfl ?_
      refine AW.block ?_
      refine AW.lensB 0 rfl (fun hl14 => ?_)
      replace hl14 : a0.of.length ≤ 9223372036854775807 := by rw [← enys_length a0.of]; exact hl14.2.1
      refine AW.lpw (fun x : Nat × Nat => [(2, .ptr 0 0), (3, .ptr 1 0), (5, .int .i64 (x.2 : Int))]) (fun x => [(0, .box 40 [.int .i64 a0.kind, .sl .ro 2 (enys a0.of)]), (1, .box 40 [.int .i64 a1.kind, .sl .ro 2 (enys a1.of)])]) (fun x => s_f65_l1 x.1 a0 a1 x.2 = some r ∧ x.1 ≤ n) (fun x => x.1) (n, 0) ⟨(fun _ h => by cases h), List.forall_mem_cons.2 ⟨⟨⟨_, rfl, Wv.refl _⟩, (by simp [pureA, pureL, pureR, inA, inL, inR, inO, idsIn, encs_pure, enxs_pure, enys_pure, valC_pure, exC_pure, tyC_pure])⟩, List.forall_mem_cons.2 ⟨⟨⟨_, rfl, Wv.refl _⟩, (by simp [pureA, pureL, pureR, inA, inL, inR, inO, idsIn, encs_pure, enxs_pure, enys_pure, valC_pure, exC_pure, tyC_pure])⟩, List.forall_mem_cons.2 ⟨⟨⟨_, rfl, Wv.refl _⟩, (by simp [pureA, pureL, pureR, inA, inL, inR, inO, idsIn, encs_pure, enxs_pure, enys_pure, valC_pure, exC_pure, tyC_pure])⟩, (fun _ h => by cases h)⟩⟩⟩, List.forall_mem_cons.2 ⟨⟨⟨_, rfl, ⟨rfl, ⟨Wv.refl _, Wv.refl _, trivial⟩⟩⟩, (by simp [pureA, pureL, pureR, inA, inL, inR, inO, idsIn, encs_pure, enxs_pure, enys_pure, valC_pure, exC_pure, tyC_pure])⟩, List.forall_mem_cons.2 ⟨⟨⟨_, rfl, ⟨rfl, ⟨Wv.refl _, Wv.refl _, trivial⟩⟩⟩, (by simp [pureA, pureL, pureR, inA, inL, inR, inO, idsIn, encs_pure, enxs_pure, enys_pure, valC_pure, exC_pure, tyC_pure])⟩, (fun _ h => by cases h)⟩⟩⟩ ⟨hr, Nat.le_refl _⟩ (fun ⟨m, v1_1⟩ hx => ?_)
      obtain ⟨hr, hm⟩ := hx
      dsimp only at hr hm
      cases m with
      | zero => rw [s_f65_l1] at hr; cases hr
      | succ m =>
        rw [s_f65_l1] at hr
        show AW Try.prog _ _ _ (mkS 39 [(2, .ptr 0 0), (3, .ptr 1 0), (5, .int .i64 (v1_1 : Int))] [(0, .box 40 [.int .i64 a0.kind, .sl .ro 2 (enys a0.of)]), (1, .box 40 [.int .i64 a1.kind, .sl .ro 2 (enys a1.of)])])
        refine AW.seq ?_
        refine AW.seq ?_
        refine AW.region (M := fun _ => true) ?_
        refine AL.v good (d := 20) (v := .int .i64 (v1_1 : Int)) rfl rfl rfl rfl ?_
        refine AL.v good (d := 21) (v := .ptr 0 1) rfl rfl rfl rfl ?_
        refine AL.v good (d := 22) (v := .sl .ro 2 (enys a0.of)) rfl rfl rfl rfl ?_
        refine AL.ln good (d := 23) (m := a0.of.length) rfl rfl rfl rfl rfl rfl (enys_length _) ?_
        refine AL.v good (d := 24) (v := .bool (decide ((v1_1 : Int) < (a0.of.length : Int)))) rfl rfl rfl rfl ?_
        refine AW.if rfl (fun h15 => ?_) (fun h15 => ?_)
        · replace hr := cnd_t h15 hr
          refine AW.skip ?_
          refine AW.seq ?_
          refine AW.block ?_
          refine AW.seq ?_
          refine AW.draw (M := fun i => false) good.wide (by kernel_rfl) ?_
          refine AL.v good (d := 27) (v := .ptr 0 1) rfl rfl rfl rfl ?_
          refine AL.v good (d := 28) (v := .sl .ro 2 (enys a0.of)) rfl rfl rfl rfl ?_
          refine AL.v good (d := 29) (v := .int .i64 (v1_1 : Int)) rfl rfl rfl rfl ?_
          obtain ⟨x16, h17, hr⟩ := bnd1 hr
          refine AL.ix good (d := 30) (r := [.int .i64 x16.kind, .sl .ro 2 (enys x16.of)]) rfl rfl rfl rfl rfl rfl rfl (Int.natCast_nonneg _) (enys_get h17) ?_
          refine AL.v good (d := 31) (v := .agg [.int .i64 x16.kind, .sl .ro 2 (enys x16.of)]) rfl rfl rfl rfl ?_
          refine AL.v good (d := 32) (v := .ptr 1 1) rfl rfl rfl rfl ?_
          refine AL.v good (d := 33) (v := .sl .ro 2 (enys a1.of)) rfl rfl rfl rfl ?_
          refine AL.v good (d := 34) (v := .int .i64 (v1_1 : Int)) rfl rfl rfl rfl ?_
          obtain ⟨x18, h19, hr⟩ := bnd1 hr
          refine AL.ix good (d := 35) (r := [.int .i64 x18.kind, .sl .ro 2 (enys x18.of)]) rfl rfl rfl rfl rfl rfl rfl (Int.natCast_nonneg _) (enys_get h19) ?_
          refine AL.v good (d := 36) (v := .agg [.int .i64 x18.kind, .sl .ro 2 (enys x18.of)]) rfl rfl rfl rfl ?_
          obtain ⟨q20, h21, hr⟩ := bnd1 hr
          refine AL.cw good (d := 37) (xs := [.agg (tyC x16), .agg (tyC x18)]) (res := .bool q20) rfl rfl rfl rfl rfl rfl rfl (ih _ _ _ _ h21 (by omega)) ⟨(Wv.refl _), (Wv.refl _), trivial⟩ (by simp [pureA, pureL, pureR, inA, inL, inR, inO, idsIn, encs_pure, enxs_pure, enys_pure, valC_pure, exC_pure, tyC_pure]) ?_
          refine AL.v good (d := 38) (v := .bool (!q20)) rfl rfl rfl rfl ?_
          refine AW.if rfl (fun h22 => ?_) (fun h22 => ?_)
          · replace hr := cnd_t h22 hr
            refine AW.seq ?_
            refine AW.region (M := fun _ => true) ?_
            refine AL.v good (d := 4) (v := .bool false) rfl rfl rfl rfl ?_
            refine AW.ret ?_
            obtain rfl := Option.some.inj hr
            exact RetQ.w good (.inr rfl) rfl rfl (Wv.refl _) (by simp [pureA, pureL, pureR, inA, inL, inR, inO, idsIn, encs_pure, enxs_pure, enys_pure, valC_pure, exC_pure, tyC_pure])
          · replace hr := cnd_f h22 hr
            refine AW.skip ?_
            refine AW.region (M := fun _ => true) ?_
            refine AL.v good (d := 25) (v := .int .i64 (v1_1 : Int)) rfl rfl rfl rfl ?_
            refine AL.v good (d := 26) (v := .int .i64 (IntKind.i64.wrap ((v1_1 : Int) + 1))) rfl rfl rfl rfl ?_
            refine AL.v good (d := 5) (v := .int .i64 (IntKind.i64.wrap ((v1_1 : Int) + 1))) rfl rfl rfl rfl ?_
            exact ⟨(m, (v1_1 + 1)), _, _, rfl, ⟨(fun _ h => by cases h), List.forall_mem_cons.2 ⟨⟨⟨_, rfl, Wv.refl _⟩, (by simp [pureA, pureL, pureR, inA, inL, inR, inO, idsIn, encs_pure, enxs_pure, enys_pure, valC_pure, exC_pure, tyC_pure])⟩, List.forall_mem_cons.2 ⟨⟨⟨_, rfl, Wv.refl _⟩, (by simp [pureA, pureL, pureR, inA, inL, inR, inO, idsIn, encs_pure, enxs_pure, enys_pure, valC_pure, exC_pure, tyC_pure])⟩, List.forall_mem_cons.2 ⟨⟨⟨_, rfl, (wnx h15 hl14)⟩, (by simp [pureA, pureL, pureR, inA, inL, inR, inO, idsIn, encs_pure, enxs_pure, enys_pure, valC_pure, exC_pure, tyC_pure])⟩, (fun _ h => by cases h)⟩⟩⟩, List.forall_mem_cons.2 ⟨⟨⟨_, rfl, ⟨rfl, ⟨Wv.refl _, Wv.refl _, trivial⟩⟩⟩, (by simp [pureA, pureL, pureR, inA, inL, inR, inO, idsIn, encs_pure, enxs_pure, enys_pure, valC_pure, exC_pure, tyC_pure])⟩, List.forall_mem_cons.2 ⟨⟨⟨_, rfl, ⟨rfl, ⟨Wv.refl _, Wv.refl _, trivial⟩⟩⟩, (by simp [pureA, pureL, pureR, inA, inL, inR, inO, idsIn, encs_pure, enxs_pure, enys_pure, valC_pure, exC_pure, tyC_pure])⟩, (fun _ h => by cases h)⟩⟩⟩, ⟨hr, Nat.le_of_succ_le hm⟩, Nat.lt_succ_self _⟩
        · replace hr := cnd_f h15 hr
          refine AW.exit ?_
          refine AW.seq ?_
          refine AW.region (M := fun _ => true) ?_
          refine AL.v good (d := 4) (v := .bool true) rfl rfl rfl rfl ?_
          refine AW.ret ?_
          obtain rfl := Option.some.inj hr
          exact RetQ.w good (.inr rfl) rfl rfl (Wv.refl _) (by simp [pureA, pureL, pureR, inA, inL, inR, inO, idsIn, encs_pure, enxs_pure, enys_pure, valC_pure, exC_pure, tyC_pure])
theorem w_f65 (n : Nat) : ∀ (a0 : Ty) (a1 : Ty) (r : Bool) (hr : s_f65 n a0 a1 = some r), ACall Try.prog 65 [.agg (tyC a0), .agg (tyC a1)] (.bool r) := by
  induction n using Nat.strongRecOn with
  | _ n ih =>
    intro a0 a1 r hr
    exact w_f65_a n (fun m a0 a1 r h hm => ih m hm a0 a1 r h) a0 a1 r hr

mutual
def s_f94_l1 : Nat → (List Ty) → Nat → Option (Ty × Int)
  | 0, _, _ => none
  | n + 1, a2, v1_1 => (bif (decide ((v1_1 : Int) < (a2.length : Int))) then ((a2[v1_1]?).bind fun x55 => (bif (x55.kind != 1) then some ((Ty.mk 0 []), 5) else (s_f94_l1 n a2 (v1_1 + 1)))) else some ((Ty.mk 1 []), 0))
def s_f94_l7 : Nat → (List Ty) → Nat → Option (Ty × Int)
  | 0, _, _ => none
  | n + 1, a2, v7_1 => (bif (decide ((v7_1 : Int) < (a2.length : Int))) then ((a2[v7_1]?).bind fun x121 => (bif (x121.kind != 2) then some ((Ty.mk 0 []), 5) else (s_f94_l7 n a2 (v7_1 + 1)))) else some ((Ty.mk 2 []), 0))
def s_f94_l10 : Nat → (List Ty) → Nat → Option (Ty × Int)
  | 0, _, _ => none
  | n + 1, a2, v10_1 => (bif (decide ((v10_1 : Int) < (a2.length : Int))) then ((a2[v10_1]?).bind fun x154 => (bif (x154.kind != 3) then some ((Ty.mk 0 []), 5) else (s_f94_l10 n a2 (v10_1 + 1)))) else some ((Ty.mk 3 []), 0))
def s_f94_l11 : Nat → (List Ty) → Nat → Option (Ty × Int)
  | 0, _, _ => none
  | n + 1, a2, v11_1 => (bif (decide ((v11_1 : Int) < (a2.length : Int))) then ((a2[v11_1]?).bind fun x165 => (bif (x165.kind != 3) then some ((Ty.mk 0 []), 5) else (s_f94_l11 n a2 (v11_1 + 1)))) else some ((Ty.mk 1 []), 0))
def s_f94_l12 : Nat → (List Ty) → Nat → Option (Ty × Int)
  | 0, _, _ => none
  | n + 1, a2, v12_1 => (bif (decide ((v12_1 : Int) < (a2.length : Int))) then ((a2[v12_1]?).bind fun x175 => (bif (x175.kind != 0) then some ((Ty.mk 0 []), 5) else (s_f94_l12 n a2 (v12_1 + 1)))) else some ((Ty.mk 0 []), 0))
end
def s_f94 (n : Nat) (a0 : ByteArray) (a1 : Int) (a2 : List Ty) : Option (Ty × Int) :=
  (bif (a0.data.toList == [97, 116]) then ((a2[0]?).bind fun x2 => (bif (x2.kind != 4) then some ((Ty.mk 0 []), 5) else (bif (decide (a1 < 0)) then some ((Ty.mk 0 []), 1) else ((a2[0]?).bind fun x6 => (bif (decide (a1 ≥ (x6.of.length : Int))) then some ((Ty.mk 0 []), 1) else ((a2[0]?).bind fun x9 => (if 0 ≤ a1 then ((x9.of[a1.toNat]?).bind fun x11 => some (x11, 0)) else none))))))) else (bif (a0.data.toList == [116, 117, 112]) then ((s_f56 n (Ty.mk 4 a2)).bind fun q15 => (bif (q15 != 0) then some ((Ty.mk 0 []), 9) else some ((Ty.mk 4 a2), 0))) else (bif (a0.data.toList == [101, 113]) then ((a2[0]?).bind fun x19 => ((a2[1]?).bind fun x21 => ((s_f65 n x19 x21).bind fun q23 => (bif (!q23) then some ((Ty.mk 0 []), 5) else some ((Ty.mk 2 []), 0))))) else (bif (a0.data.toList == [108, 116]) then ((a2[0]?).bind fun x27 => ((a2[1]?).bind fun x29 => ((s_f65 n x27 x29).bind fun q31 => (bif (!q31) then some ((Ty.mk 0 []), 5) else some ((Ty.mk 2 []), 0))))) else (bif (a0.data.toList == [105, 102]) then ((a2[0]?).bind fun x35 => (bif (x35.kind != 2) then some ((Ty.mk 0 []), 5) else ((a2[1]?).bind fun x38 => ((a2[2]?).bind fun x40 => ((s_f65 n x38 x40).bind fun q42 => (bif (!q42) then some ((Ty.mk 0 []), 5) else ((a2[1]?).bind fun x45 => some (x45, 0)))))))) else (bif (a0.data.toList == [110, 101, 103]) then (s_f94_l1 n a2 0) else (bif (a0.data.toList == [97, 100, 100]) then (s_f94_l1 n a2 0) else (bif (a0.data.toList == [115, 117, 98]) then (s_f94_l1 n a2 0) else (bif (a0.data.toList == [109, 117, 108]) then (s_f94_l1 n a2 0) else (bif (a0.data.toList == [100, 105, 118]) then (s_f94_l1 n a2 0) else (bif (a0.data.toList == [114, 101, 109]) then (s_f94_l1 n a2 0) else (bif (a0.data.toList == [110, 111, 116]) then (s_f94_l7 n a2 0) else (bif (a0.data.toList == [97, 110, 100]) then (s_f94_l7 n a2 0) else (bif (a0.data.toList == [111, 114]) then (s_f94_l7 n a2 0) else (bif (a0.data.toList == [99, 97, 116]) then (s_f94_l10 n a2 0) else (bif (a0.data.toList == [108, 101, 110]) then (s_f94_l11 n a2 0) else (s_f94_l12 n a2 0)))))))))))))))))

theorem w_f94 (n : Nat) (a0 : ByteArray) (a1 : Int) (a2 : List Ty) (r : Ty × Int) (hr : s_f94 n a0 a1 a2 = some r) : ACall Try.prog 94 [.str a0, .int .i64 a1, .sl .ro 2 (enys a2)] (.tup [.agg (tyC r.1), .int .i64 r.2]) := by
  refine ACall.go [(0, .str a0), (1, .int .i64 a1), (2, .sl .ro 2 (enys a2))] Try.func94 rfl Try.ntmps94 rfl rfl (by simp [pureA, pureL, pureR, inA, inL, inR, inO, idsIn, encs_pure, enxs_pure, enys_pure, valC_pure, exC_pure, tyC_pure]) ?_
  rw [s_f94] at hr
  refine AW.seq ?_
  refine AW.region (M := fun _ => true) ?_
  refine AL.alc good (d := 6) rfl rfl rfl rfl rfl 0 rfl ?_
  refine AL.v good (d := 7) (v := .int .i64 0) rfl rfl rfl rfl ?_
  refine AW.seq ?_
  refine AW.region (M := fun _ => true) ?_
  refine AL.v good (d := 8) (v := .int .i64 0) rfl rfl rfl rfl ?_
  refine AW.seq ?_
  refine AW.region (M := fun _ => true) ?_
  refine AL.v good (d := 9) (v := .int .i64 0) rfl rfl rfl rfl ?_
  refine AW.seq ?_
  refine AW.seq ?_
  refine AW.region (M := fun _ => true) ?_
  refine AL.v good (d := 12) (v := .str a0) rfl rfl rfl rfl ?_
  refine AW.block ?_
  refine AW.seq ?_
  refine AW.region (M := fun _ => true) ?_
  refine AL.sb good (d := 14) (b := (a0.data.toList == [97, 116])) rfl rfl rfl rfl rfl rfl rfl ?_
  refine AL.v good (d := 13) (v := .bool (a0.data.toList == [97, 116])) rfl rfl rfl rfl ?_
  refine AW.if rfl (fun h1 => ?_) (fun h1 => ?_)
  · replace hr := cnd_t h1 hr
    refine AW.seq ?_
    refine AW.seq ?_
    refine AW.region (M := fun _ => true) ?_
    refine AL.v good (d := 15) (v := .sl .ro 2 (enys a2)) rfl rfl rfl rfl ?_
    obtain ⟨x2, h3, hr⟩ := bnd1 hr
    refine AL.ix good (d := 16) (r := [.int .i64 x2.kind, .sl .ro 2 (enys x2.of)]) rfl rfl rfl rfl rfl rfl rfl (by decide) (enys_get h3) ?_
    refine AL.v good (d := 17) (v := .ep [.int .i64 x2.kind, .sl .ro 2 (enys x2.of)]) rfl rfl rfl rfl ?_
    refine AL.v good (d := 18) (v := .int .i64 x2.kind) rfl rfl rfl rfl ?_
    refine AL.v good (d := 19) (v := .bool (x2.kind != 4)) rfl rfl rfl rfl ?_
    refine AW.if rfl (fun h4 => ?_) (fun h4 => ?_)
    · replace hr := cnd_t h4 hr
      refine AW.seq ?_
      refine AW.region (M := fun _ => true) ?_
      refine AL.bld good (d := 20) (l := [.int .i64 0, .sl .nil 0 []]) rfl rfl rfl rfl rfl rfl rfl ?_
      refine AL.st2 good (c2 := [.int .i64 0, .sl .nil 0 []]) rfl rfl rfl rfl rfl rfl rfl rfl rfl rfl rfl rfl ?_
      refine AL.v good (d := 7) (v := .int .i64 5) rfl rfl rfl rfl ?_
      refine AW.ret ?_
      obtain rfl := Option.some.inj hr
      exact RetQ.w good (.inr rfl) rfl rfl ⟨⟨Wv.refl _, ⟨.inr rfl, trivial, .inr rfl⟩, trivial⟩, Wv.refl _, trivial⟩ (by simp [pureA, pureL, pureR, inA, inL, inR, inO, idsIn, encs_pure, enxs_pure, enys_pure, valC_pure, exC_pure, tyC_pure])
    · replace hr := cnd_f h4 hr
      refine AW.skip ?_
      refine AW.seq ?_
      refine AW.seq ?_
      refine AW.region (M := fun _ => true) ?_
      refine AL.v good (d := 21) (v := .int .i64 a1) rfl rfl rfl rfl ?_
      refine AL.v good (d := 22) (v := .bool (decide (a1 < 0))) rfl rfl rfl rfl ?_
      refine AL.v good (d := 23) (v := .bool (decide (a1 < 0))) rfl rfl rfl rfl ?_
      refine AL.cs 23 rfl (fun h5 => ?_) (fun h5 => ?_)
      · replace hr := cnd_t h5 hr
        refine AL.sk good (d := 24) rfl rfl rfl ?_
        refine AL.sk good (d := 25) rfl rfl rfl ?_
        refine AL.sk good (d := 26) rfl rfl rfl ?_
        refine AL.sk good (d := 27) rfl rfl rfl ?_
        refine AL.sk good (d := 28) rfl rfl rfl ?_
        refine AL.sk good (d := 29) rfl rfl rfl ?_
        refine AL.sk good (d := 30) rfl rfl rfl ?_
        refine AL.v good (d := 31) (v := .bool true) rfl rfl rfl rfl ?_
        refine AW.if rfl (fun h => ?_) (fun h => by cases h)
        refine AW.seq ?_
        refine AW.region (M := fun _ => true) ?_
        refine AL.bld good (d := 32) (l := [.int .i64 0, .sl .nil 0 []]) rfl rfl rfl rfl rfl rfl rfl ?_
        refine AL.st2 good (c2 := [.int .i64 0, .sl .nil 0 []]) rfl rfl rfl rfl rfl rfl rfl rfl rfl rfl rfl rfl ?_
        refine AL.v good (d := 7) (v := .int .i64 1) rfl rfl rfl rfl ?_
        refine AW.ret ?_
        obtain rfl := Option.some.inj hr
        exact RetQ.w good (.inr rfl) rfl rfl ⟨⟨Wv.refl _, ⟨.inr rfl, trivial, .inr rfl⟩, trivial⟩, Wv.refl _, trivial⟩ (by simp [pureA, pureL, pureR, inA, inL, inR, inO, idsIn, encs_pure, enxs_pure, enys_pure, valC_pure, exC_pure, tyC_pure])
      · replace hr := cnd_f h5 hr
        refine AL.v good (d := 24) (v := .int .i64 a1) rfl rfl rfl rfl ?_
        refine AL.v good (d := 25) (v := .sl .ro 2 (enys a2)) rfl rfl rfl rfl ?_
        obtain ⟨x6, h7, hr⟩ := bnd1 hr
        refine AL.ix good (d := 26) (r := [.int .i64 x6.kind, .sl .ro 2 (enys x6.of)]) rfl rfl rfl rfl rfl rfl rfl (by decide) (enys_get h7) ?_
        refine AL.v good (d := 27) (v := .ep [.sl .ro 2 (enys x6.of)]) rfl rfl rfl rfl ?_
        refine AL.v good (d := 28) (v := .sl .ro 2 (enys x6.of)) rfl rfl rfl rfl ?_
        refine AL.ln good (d := 29) (m := x6.of.length) rfl rfl rfl rfl rfl rfl (enys_length _) ?_
        refine AL.v good (d := 30) (v := .bool (decide (a1 ≥ (x6.of.length : Int)))) rfl rfl rfl rfl ?_
        refine AL.v good (d := 31) (v := .bool (decide (a1 ≥ (x6.of.length : Int)))) rfl rfl rfl rfl ?_
        refine AW.if rfl (fun h8 => ?_) (fun h8 => ?_)
        · replace hr := cnd_t h8 hr
          refine AW.seq ?_
          refine AW.region (M := fun _ => true) ?_
          refine AL.bld good (d := 32) (l := [.int .i64 0, .sl .nil 0 []]) rfl rfl rfl rfl rfl rfl rfl ?_
          refine AL.st2 good (c2 := [.int .i64 0, .sl .nil 0 []]) rfl rfl rfl rfl rfl rfl rfl rfl rfl rfl rfl rfl ?_
          refine AL.v good (d := 7) (v := .int .i64 1) rfl rfl rfl rfl ?_
          refine AW.ret ?_
          obtain rfl := Option.some.inj hr
          exact RetQ.w good (.inr rfl) rfl rfl ⟨⟨Wv.refl _, ⟨.inr rfl, trivial, .inr rfl⟩, trivial⟩, Wv.refl _, trivial⟩ (by simp [pureA, pureL, pureR, inA, inL, inR, inO, idsIn, encs_pure, enxs_pure, enys_pure, valC_pure, exC_pure, tyC_pure])
        · replace hr := cnd_f h8 hr
          refine AW.skip ?_
          refine AW.seq ?_
          refine AW.region (M := fun _ => true) ?_
          refine AL.v good (d := 33) (v := .sl .ro 2 (enys a2)) rfl rfl rfl rfl ?_
          obtain ⟨x9, h10, hr⟩ := bnd1 hr
          refine AL.ix good (d := 34) (r := [.int .i64 x9.kind, .sl .ro 2 (enys x9.of)]) rfl rfl rfl rfl rfl rfl rfl (by decide) (enys_get h10) ?_
          refine AL.v good (d := 35) (v := .ep [.sl .ro 2 (enys x9.of)]) rfl rfl rfl rfl ?_
          refine AL.v good (d := 36) (v := .sl .ro 2 (enys x9.of)) rfl rfl rfl rfl ?_
          refine AL.v good (d := 37) (v := .int .i64 a1) rfl rfl rfl rfl ?_
          obtain ⟨h13, hr⟩ := grd hr
          obtain ⟨x11, h12, hr⟩ := bnd1 hr
          refine AL.ix good (d := 38) (r := [.int .i64 x11.kind, .sl .ro 2 (enys x11.of)]) rfl rfl rfl rfl rfl rfl rfl h13 (enys_get h12) ?_
          refine AL.v good (d := 39) (v := .agg [.int .i64 x11.kind, .sl .ro 2 (enys x11.of)]) rfl rfl rfl rfl ?_
          refine AL.st2 good (c2 := [.int .i64 x11.kind, .sl .ro 2 (enys x11.of)]) rfl rfl rfl rfl rfl rfl rfl rfl rfl rfl rfl rfl ?_
          refine AL.v good (d := 7) (v := .int .i64 0) rfl rfl rfl rfl ?_
          refine AW.ret ?_
          obtain rfl := Option.some.inj hr
          exact RetQ.w good (.inr rfl) rfl rfl (Wv.refl _) (by simp [pureA, pureL, pureR, inA, inL, inR, inO, idsIn, encs_pure, enxs_pure, enys_pure, valC_pure, exC_pure, tyC_pure])
  · replace hr := cnd_f h1 hr
    refine AW.seq ?_
    refine AW.region (M := fun _ => true) ?_
    refine AL.sb good (d := 41) (b := (a0.data.toList == [116, 117, 112])) rfl rfl rfl rfl rfl rfl rfl ?_
    refine AL.v good (d := 40) (v := .bool (a0.data.toList == [116, 117, 112])) rfl rfl rfl rfl ?_
    refine AW.if rfl (fun h14 => ?_) (fun h14 => ?_)
    · replace hr := cnd_t h14 hr
      refine AW.seq ?_
      refine AW.region (M := fun _ => true) ?_
      refine AL.v good (d := 42) (v := .sl .ro 2 (enys a2)) rfl rfl rfl rfl ?_
      refine AL.bld good (d := 43) (l := [.int .i64 4, .sl .ro 2 (enys a2)]) rfl rfl rfl rfl rfl rfl rfl ?_
      refine AL.alc good (d := 10) rfl rfl rfl rfl rfl 1 rfl ?_
      refine AL.st2 good (c2 := [.int .i64 4, .sl .ro 2 (enys a2)]) rfl rfl rfl rfl rfl rfl rfl rfl rfl rfl rfl rfl ?_
      refine AW.seq ?_
      refine AW.seq ?_
      refine AW.region (M := fun _ => true) ?_
      refine AL.v good (d := 44) (v := .agg [.int .i64 4, .sl .ro 2 (enys a2)]) rfl rfl rfl rfl ?_
      obtain ⟨q15, h16, hr⟩ := bnd1 hr
      refine AL.cw good (d := 45) (xs := [.agg (tyC (Ty.mk 4 a2))]) (res := .int .i64 q15) rfl rfl rfl rfl rfl rfl rfl (w_f56 _ _ _ h16) ⟨(Wv.refl _), trivial⟩ (by simp [pureA, pureL, pureR, inA, inL, inR, inO, idsIn, encs_pure, enxs_pure, enys_pure, valC_pure, exC_pure, tyC_pure]) ?_
      refine AL.v good (d := 46) (v := .bool (q15 != 0)) rfl rfl rfl rfl ?_
      refine AW.if rfl (fun h17 => ?_) (fun h17 => ?_)
      · replace hr := cnd_t h17 hr
        refine AW.seq ?_
        refine AW.region (M := fun _ => true) ?_
        refine AL.bld good (d := 47) (l := [.int .i64 0, .sl .nil 0 []]) rfl rfl rfl rfl rfl rfl rfl ?_
        refine AL.st2 good (c2 := [.int .i64 0, .sl .nil 0 []]) rfl rfl rfl rfl rfl rfl rfl rfl rfl rfl rfl rfl ?_
        refine AL.v good (d := 7) (v := .int .i64 9) rfl rfl rfl rfl ?_
        refine AW.ret ?_
        obtain rfl := Option.some.inj hr
        exact RetQ.w good (.inr rfl) rfl rfl ⟨⟨Wv.refl _, ⟨.inr rfl, trivial, .inr rfl⟩, trivial⟩, Wv.refl _, trivial⟩ (by simp [pureA, pureL, pureR, inA, inL, inR, inO, idsIn, encs_pure, enxs_pure, enys_pure, valC_pure, exC_pure, tyC_pure])
      · replace hr := cnd_f h17 hr
        refine AW.skip ?_
        refine AW.seq ?_
        refine AW.region (M := fun _ => true) ?_
        refine AL.v good (d := 48) (v := .agg [.int .i64 4, .sl .ro 2 (enys a2)]) rfl rfl rfl rfl ?_
        refine AL.st2 good (c2 := [.int .i64 4, .sl .ro 2 (enys a2)]) rfl rfl rfl rfl rfl rfl rfl rfl rfl rfl rfl rfl ?_
        refine AL.v good (d := 7) (v := .int .i64 0) rfl rfl rfl rfl ?_
        refine AW.ret ?_
        obtain rfl := Option.some.inj hr
        exact RetQ.w good (.inr rfl) rfl rfl (Wv.refl _) (by simp [pureA, pureL, pureR, inA, inL, inR, inO, idsIn, encs_pure, enxs_pure, enys_pure, valC_pure, exC_pure, tyC_pure])
    · replace hr := cnd_f h14 hr
      refine AW.seq ?_
      refine AW.seq ?_
      refine AW.region (M := fun _ => true) ?_
      refine AL.sb good (d := 50) (b := (a0.data.toList == [101, 113])) rfl rfl rfl rfl rfl rfl rfl ?_
      refine AL.v good (d := 49) (v := .bool (a0.data.toList == [101, 113])) rfl rfl rfl rfl ?_
      refine AW.if rfl (fun h18 => ?_) (fun h18 => ?_)
      · replace hr := cnd_t h18 hr
        refine AW.skip ?_
        refine AW.if rfl (fun h => ?_) (fun h => by cases h18.symm.trans h)
        refine AW.seq ?_
        refine AW.seq ?_
        refine AW.draw (M := fun i => false) good.wide (by kernel_rfl) ?_
        refine AL.v good (d := 52) (v := .sl .ro 2 (enys a2)) rfl rfl rfl rfl ?_
        obtain ⟨x19, h20, hr⟩ := bnd1 hr
        refine AL.ix good (d := 53) (r := [.int .i64 x19.kind, .sl .ro 2 (enys x19.of)]) rfl rfl rfl rfl rfl rfl rfl (by decide) (enys_get h20) ?_
        refine AL.v good (d := 54) (v := .agg [.int .i64 x19.kind, .sl .ro 2 (enys x19.of)]) rfl rfl rfl rfl ?_
        refine AL.v good (d := 55) (v := .sl .ro 2 (enys a2)) rfl rfl rfl rfl ?_
        obtain ⟨x21, h22, hr⟩ := bnd1 hr
        refine AL.ix good (d := 56) (r := [.int .i64 x21.kind, .sl .ro 2 (enys x21.of)]) rfl rfl rfl rfl rfl rfl rfl (by decide) (enys_get h22) ?_
        refine AL.v good (d := 57) (v := .agg [.int .i64 x21.kind, .sl .ro 2 (enys x21.of)]) rfl rfl rfl rfl ?_
        obtain ⟨q23, h24, hr⟩ := bnd1 hr
        refine AL.cw good (d := 58) (xs := [.agg (tyC x19), .agg (tyC x21)]) (res := .bool q23) rfl rfl rfl rfl rfl rfl rfl (w_f65 _ _ _ _ h24) ⟨(Wv.refl _), (Wv.refl _), trivial⟩ (by simp [pureA, pureL, pureR, inA, inL, inR, inO, idsIn, encs_pure, enxs_pure, enys_pure, valC_pure, exC_pure, tyC_pure]) ?_
        refine AL.v good (d := 59) (v := .bool (!q23)) rfl rfl rfl rfl ?_
        refine AW.if rfl (fun h25 => ?_) (fun h25 => ?_)
        · replace hr := cnd_t h25 hr
          refine AW.seq ?_
          refine AW.region (M := fun _ => true) ?_
          refine AL.bld good (d := 60) (l := [.int .i64 0, .sl .nil 0 []]) rfl rfl rfl rfl rfl rfl rfl ?_
          refine AL.st2 good (c2 := [.int .i64 0, .sl .nil 0 []]) rfl rfl rfl rfl rfl rfl rfl rfl rfl rfl rfl rfl ?_
          refine AL.v good (d := 7) (v := .int .i64 5) rfl rfl rfl rfl ?_
          refine AW.ret ?_
          obtain rfl := Option.some.inj hr
          exact RetQ.w good (.inr rfl) rfl rfl ⟨⟨Wv.refl _, ⟨.inr rfl, trivial, .inr rfl⟩, trivial⟩, Wv.refl _, trivial⟩ (by simp [pureA, pureL, pureR, inA, inL, inR, inO, idsIn, encs_pure, enxs_pure, enys_pure, valC_pure, exC_pure, tyC_pure])
        · replace hr := cnd_f h25 hr
          refine AW.skip ?_
          refine AW.seq ?_
          refine AW.region (M := fun _ => true) ?_
          refine AL.cw good (d := 61) (xs := [.int .i64 2]) (res := .agg [.int .i64 2, .sl .ro 2 (enys [])]) rfl rfl rfl rfl rfl rfl rfl (w_f121 2) ⟨(Wv.refl _), trivial⟩ (by simp [pureA, pureL, pureR, inA, inL, inR, inO, idsIn, encs_pure, enxs_pure, enys_pure, valC_pure, exC_pure, tyC_pure]) ?_
          refine AL.st2 good (c2 := [.int .i64 2, .sl .ro 2 (enys [])]) rfl rfl rfl rfl rfl rfl rfl rfl rfl rfl rfl rfl ?_
          refine AL.v good (d := 7) (v := .int .i64 0) rfl rfl rfl rfl ?_
          refine AW.ret ?_
          obtain rfl := Option.some.inj hr
          exact RetQ.w good (.inr rfl) rfl rfl (Wv.refl _) (by simp [pureA, pureL, pureR, inA, inL, inR, inO, idsIn, encs_pure, enxs_pure, enys_pure, valC_pure, exC_pure, tyC_pure])
      · replace hr := cnd_f h18 hr
        refine AW.region (M := fun _ => true) ?_
        refine AL.sb good (d := 51) (b := (a0.data.toList == [108, 116])) rfl rfl rfl rfl rfl rfl rfl ?_
        refine AL.v good (d := 49) (v := .bool (a0.data.toList == [108, 116])) rfl rfl rfl rfl ?_
        refine AW.if rfl (fun h26 => ?_) (fun h26 => ?_)
        · replace hr := cnd_t h26 hr
          refine AW.seq ?_
          refine AW.seq ?_
          refine AW.draw (M := fun i => false) good.wide (by kernel_rfl) ?_
          refine AL.v good (d := 52) (v := .sl .ro 2 (enys a2)) rfl rfl rfl rfl ?_
          obtain ⟨x27, h28, hr⟩ := bnd1 hr
          refine AL.ix good (d := 53) (r := [.int .i64 x27.kind, .sl .ro 2 (enys x27.of)]) rfl rfl rfl rfl rfl rfl rfl (by decide) (enys_get h28) ?_
          refine AL.v good (d := 54) (v := .agg [.int .i64 x27.kind, .sl .ro 2 (enys x27.of)]) rfl rfl rfl rfl ?_
          refine AL.v good (d := 55) (v := .sl .ro 2 (enys a2)) rfl rfl rfl rfl ?_
          obtain ⟨x29, h30, hr⟩ := bnd1 hr
          refine AL.ix good (d := 56) (r := [.int .i64 x29.kind, .sl .ro 2 (enys x29.of)]) rfl rfl rfl rfl rfl rfl rfl (by decide) (enys_get h30) ?_
          refine AL.v good (d := 57) (v := .agg [.int .i64 x29.kind, .sl .ro 2 (enys x29.of)]) rfl rfl rfl rfl ?_
          obtain ⟨q31, h32, hr⟩ := bnd1 hr
          refine AL.cw good (d := 58) (xs := [.agg (tyC x27), .agg (tyC x29)]) (res := .bool q31) rfl rfl rfl rfl rfl rfl rfl (w_f65 _ _ _ _ h32) ⟨(Wv.refl _), (Wv.refl _), trivial⟩ (by simp [pureA, pureL, pureR, inA, inL, inR, inO, idsIn, encs_pure, enxs_pure, enys_pure, valC_pure, exC_pure, tyC_pure]) ?_
          refine AL.v good (d := 59) (v := .bool (!q31)) rfl rfl rfl rfl ?_
          refine AW.if rfl (fun h33 => ?_) (fun h33 => ?_)
          · replace hr := cnd_t h33 hr
            refine AW.seq ?_
            refine AW.region (M := fun _ => true) ?_
            refine AL.bld good (d := 60) (l := [.int .i64 0, .sl .nil 0 []]) rfl rfl rfl rfl rfl rfl rfl ?_
            refine AL.st2 good (c2 := [.int .i64 0, .sl .nil 0 []]) rfl rfl rfl rfl rfl rfl rfl rfl rfl rfl rfl rfl ?_
            refine AL.v good (d := 7) (v := .int .i64 5) rfl rfl rfl rfl ?_
            refine AW.ret ?_
            obtain rfl := Option.some.inj hr
            exact RetQ.w good (.inr rfl) rfl rfl ⟨⟨Wv.refl _, ⟨.inr rfl, trivial, .inr rfl⟩, trivial⟩, Wv.refl _, trivial⟩ (by simp [pureA, pureL, pureR, inA, inL, inR, inO, idsIn, encs_pure, enxs_pure, enys_pure, valC_pure, exC_pure, tyC_pure])
          · replace hr := cnd_f h33 hr
            refine AW.skip ?_
            refine AW.seq ?_
            refine AW.region (M := fun _ => true) ?_
            refine AL.cw good (d := 61) (xs := [.int .i64 2]) (res := .agg [.int .i64 2, .sl .ro 2 (enys [])]) rfl rfl rfl rfl rfl rfl rfl (w_f121 2) ⟨(Wv.refl _), trivial⟩ (by simp [pureA, pureL, pureR, inA, inL, inR, inO, idsIn, encs_pure, enxs_pure, enys_pure, valC_pure, exC_pure, tyC_pure]) ?_
            refine AL.st2 good (c2 := [.int .i64 2, .sl .ro 2 (enys [])]) rfl rfl rfl rfl rfl rfl rfl rfl rfl rfl rfl rfl ?_
            refine AL.v good (d := 7) (v := .int .i64 0) rfl rfl rfl rfl ?_
            refine AW.ret ?_
            obtain rfl := Option.some.inj hr
            exact RetQ.w good (.inr rfl) rfl rfl (Wv.refl _) (by simp [pureA, pureL, pureR, inA, inL, inR, inO, idsIn, encs_pure, enxs_pure, enys_pure, valC_pure, exC_pure, tyC_pure])
        · replace hr := cnd_f h26 hr
          refine AW.seq ?_
          refine AW.region (M := fun _ => true) ?_
          refine AL.sb good (d := 63) (b := (a0.data.toList == [105, 102])) rfl rfl rfl rfl rfl rfl rfl ?_
          refine AL.v good (d := 62) (v := .bool (a0.data.toList == [105, 102])) rfl rfl rfl rfl ?_
          refine AW.if rfl (fun h34 => ?_) (fun h34 => ?_)
          · replace hr := cnd_t h34 hr
            refine AW.seq ?_
            refine AW.seq ?_
            refine AW.draw (M := fun i => false) good.wide (by kernel_rfl) ?_
            refine AL.v good (d := 64) (v := .sl .ro 2 (enys a2)) rfl rfl rfl rfl ?_
            obtain ⟨x35, h36, hr⟩ := bnd1 hr
            refine AL.ix good (d := 65) (r := [.int .i64 x35.kind, .sl .ro 2 (enys x35.of)]) rfl rfl rfl rfl rfl rfl rfl (by decide) (enys_get h36) ?_
            refine AL.v good (d := 66) (v := .ep [.int .i64 x35.kind, .sl .ro 2 (enys x35.of)]) rfl rfl rfl rfl ?_
            refine AL.v good (d := 67) (v := .int .i64 x35.kind) rfl rfl rfl rfl ?_
            refine AL.v good (d := 68) (v := .bool (x35.kind != 2)) rfl rfl rfl rfl ?_
            refine AL.v good (d := 69) (v := .bool (x35.kind != 2)) rfl rfl rfl rfl ?_
            refine AL.cs 69 rfl (fun h37 => ?_) (fun h37 => ?_)
            · replace hr := cnd_t h37 hr
              refine AL.sk good (d := 70) rfl rfl rfl ?_
              refine AL.sk good (d := 71) rfl rfl rfl ?_
              refine AL.sk good (d := 72) rfl rfl rfl ?_
              refine AL.sk good (d := 73) rfl rfl rfl ?_
              refine AL.sk good (d := 74) rfl rfl rfl ?_
              refine AL.sk good (d := 75) rfl rfl rfl ?_
              refine AL.sk good (d := 76) rfl rfl rfl ?_
              refine AL.sk good (d := 77) rfl rfl rfl ?_
              refine AL.v good (d := 78) (v := .bool true) rfl rfl rfl rfl ?_
              refine AW.if rfl (fun h => ?_) (fun h => by cases h)
              refine AW.seq ?_
              refine AW.region (M := fun _ => true) ?_
              refine AL.bld good (d := 79) (l := [.int .i64 0, .sl .nil 0 []]) rfl rfl rfl rfl rfl rfl rfl ?_
              refine AL.st2 good (c2 := [.int .i64 0, .sl .nil 0 []]) rfl rfl rfl rfl rfl rfl rfl rfl rfl rfl rfl rfl ?_
              refine AL.v good (d := 7) (v := .int .i64 5) rfl rfl rfl rfl ?_
              refine AW.ret ?_
              obtain rfl := Option.some.inj hr
              exact RetQ.w good (.inr rfl) rfl rfl ⟨⟨Wv.refl _, ⟨.inr rfl, trivial, .inr rfl⟩, trivial⟩, Wv.refl _, trivial⟩ (by simp [pureA, pureL, pureR, inA, inL, inR, inO, idsIn, encs_pure, enxs_pure, enys_pure, valC_pure, exC_pure, tyC_pure])
            · replace hr := cnd_f h37 hr
              refine AL.v good (d := 70) (v := .sl .ro 2 (enys a2)) rfl rfl rfl rfl ?_
              obtain ⟨x38, h39, hr⟩ := bnd1 hr
              refine AL.ix good (d := 71) (r := [.int .i64 x38.kind, .sl .ro 2 (enys x38.of)]) rfl rfl rfl rfl rfl rfl rfl (by decide) (enys_get h39) ?_
              refine AL.v good (d := 72) (v := .agg [.int .i64 x38.kind, .sl .ro 2 (enys x38.of)]) rfl rfl rfl rfl ?_
              refine AL.v good (d := 73) (v := .sl .ro 2 (enys a2)) rfl rfl rfl rfl ?_
              obtain ⟨x40, h41, hr⟩ := bnd1 hr
              refine AL.ix good (d := 74) (r := [.int .i64 x40.kind, .sl .ro 2 (enys x40.of)]) rfl rfl rfl rfl rfl rfl rfl (by decide) (enys_get h41) ?_
              refine AL.v good (d := 75) (v := .agg [.int .i64 x40.kind, .sl .ro 2 (enys x40.of)]) rfl rfl rfl rfl ?_
              obtain ⟨q42, h43, hr⟩ := bnd1 hr
              refine AL.cw good (d := 76) (xs := [.agg (tyC x38), .agg (tyC x40)]) (res := .bool q42) rfl rfl rfl rfl rfl rfl rfl (w_f65 _ _ _ _ h43) ⟨(Wv.refl _), (Wv.refl _), trivial⟩ (by simp [pureA, pureL, pureR, inA, inL, inR, inO, idsIn, encs_pure, enxs_pure, enys_pure, valC_pure, exC_pure, tyC_pure]) ?_
              refine AL.v good (d := 77) (v := .bool (!q42)) rfl rfl rfl rfl ?_
              refine AL.v good (d := 78) (v := .bool (!q42)) rfl rfl rfl rfl ?_
              refine AW.if rfl (fun h44 => ?_) (fun h44 => ?_)
              · replace hr := cnd_t h44 hr
                refine AW.seq ?_
                refine AW.region (M := fun _ => true) ?_
                refine AL.bld good (d := 79) (l := [.int .i64 0, .sl .nil 0 []]) rfl rfl rfl rfl rfl rfl rfl ?_
                refine AL.st2 good (c2 := [.int .i64 0, .sl .nil 0 []]) rfl rfl rfl rfl rfl rfl rfl rfl rfl rfl rfl rfl ?_
                refine AL.v good (d := 7) (v := .int .i64 5) rfl rfl rfl rfl ?_
                refine AW.ret ?_
                obtain rfl := Option.some.inj hr
                exact RetQ.w good (.inr rfl) rfl rfl ⟨⟨Wv.refl _, ⟨.inr rfl, trivial, .inr rfl⟩, trivial⟩, Wv.refl _, trivial⟩ (by simp [pureA, pureL, pureR, inA, inL, inR, inO, idsIn, encs_pure, enxs_pure, enys_pure, valC_pure, exC_pure, tyC_pure])
              · replace hr := cnd_f h44 hr
                refine AW.skip ?_
                refine AW.seq ?_
                refine AW.region (M := fun _ => true) ?_
                refine AL.v good (d := 80) (v := .sl .ro 2 (enys a2)) rfl rfl rfl rfl ?_
                obtain ⟨x45, h46, hr⟩ := bnd1 hr
                refine AL.ix good (d := 81) (r := [.int .i64 x45.kind, .sl .ro 2 (enys x45.of)]) rfl rfl rfl rfl rfl rfl rfl (by decide) (enys_get h46) ?_
                refine AL.v good (d := 82) (v := .agg [.int .i64 x45.kind, .sl .ro 2 (enys x45.of)]) rfl rfl rfl rfl ?_
                refine AL.st2 good (c2 := [.int .i64 x45.kind, .sl .ro 2 (enys x45.of)]) rfl rfl rfl rfl rfl rfl rfl rfl rfl rfl rfl rfl ?_
                refine AL.v good (d := 7) (v := .int .i64 0) rfl rfl rfl rfl ?_
                refine AW.ret ?_
                obtain rfl := Option.some.inj hr
                exact RetQ.w good (.inr rfl) rfl rfl (Wv.refl _) (by simp [pureA, pureL, pureR, inA, inL, inR, inO, idsIn, encs_pure, enxs_pure, enys_pure, valC_pure, exC_pure, tyC_pure])
          · replace hr := cnd_f h34 hr
            refine AW.seq ?_
            refine AW.seq ?_
            refine AW.region (M := fun _ => true) ?_
            refine AL.sb good (d := 84) (b := (a0.data.toList == [110, 101, 103])) rfl rfl rfl rfl rfl rfl rfl ?_
            refine AL.v good (d := 83) (v := .bool (a0.data.toList == [110, 101, 103])) rfl rfl rfl rfl ?_
            refine AW.if rfl (fun h47 => ?_) (fun h47 => ?_)
            · replace hr := cnd_t h47 hr
              refine AW.skip ?_
              refine AW.if rfl (fun h => ?_) (fun h => by cases h47.symm.trans h)
              refine AW.seq ?_
              refine AW.region (M := fun _ => true) ?_
              refine AL.v good (d := 8) (v := .int .i64 1) rfl rfl rfl rfl ?_
              refine AW.region (M := fun _ => true) ?_
              refine AL.v good (d := 9) (v := .int .i64 1) rfl rfl rfl rfl ?_
              refine AW.seq ?_
              refine AW.seq ?_
              refine AW.region (M := fun _ => true) ?_
              refine AL.v good (d := 11) (v := .int .i64 0) rfl rfl rfl rfl ?_
              refine AW.block ?_
              refine AW.lens 2 rfl (fun hl53 => ?_)
              replace hl53 : a2.length ≤ 9223372036854775807 := by rw [← enys_length a2]; exact hl53
              refine AW.lpw (fun x : Nat × Nat => [(2, .sl .ro 2 (enys a2)), (6, .ptr 0 0), (8, .int .i64 1), (9, .int .i64 1), (11, .int .i64 (x.2 : Int))]) (fun x => [(0, .box 40 [.int .i64 0, .sl .nil 0 []])]) (fun x => s_f94_l1 x.1 a2 x.2 = some r ∧ x.1 ≤ n) (fun x => x.1) (n, 0) ⟨(fun _ h => by cases h), List.forall_mem_cons.2 ⟨⟨⟨_, rfl, Wv.refl _⟩, (by simp [pureA, pureL, pureR, inA, inL, inR, inO, idsIn, encs_pure, enxs_pure, enys_pure, valC_pure, exC_pure, tyC_pure])⟩, List.forall_mem_cons.2 ⟨⟨⟨_, rfl, Wv.refl _⟩, (by simp [pureA, pureL, pureR, inA, inL, inR, inO, idsIn, encs_pure, enxs_pure, enys_pure, valC_pure, exC_pure, tyC_pure])⟩, List.forall_mem_cons.2 ⟨⟨⟨_, rfl, Wv.refl _⟩, (by simp [pureA, pureL, pureR, inA, inL, inR, inO, idsIn, encs_pure, enxs_pure, enys_pure, valC_pure, exC_pure, tyC_pure])⟩, List.forall_mem_cons.2 ⟨⟨⟨_, rfl, Wv.refl _⟩, (by simp [pureA, pureL, pureR, inA, inL, inR, inO, idsIn, encs_pure, enxs_pure, enys_pure, valC_pure, exC_pure, tyC_pure])⟩, List.forall_mem_cons.2 ⟨⟨⟨_, rfl, Wv.refl _⟩, (by simp [pureA, pureL, pureR, inA, inL, inR, inO, idsIn, encs_pure, enxs_pure, enys_pure, valC_pure, exC_pure, tyC_pure])⟩, (fun _ h => by cases h)⟩⟩⟩⟩⟩, List.forall_mem_cons.2 ⟨⟨⟨_, rfl, ⟨rfl, ⟨Wv.refl _, Wv.refl _, trivial⟩⟩⟩, (by simp [pureA, pureL, pureR, inA, inL, inR, inO, idsIn, encs_pure, enxs_pure, enys_pure, valC_pure, exC_pure, tyC_pure])⟩, (fun _ h => by cases h)⟩⟩ ⟨hr, Nat.le_refl _⟩ (fun ⟨m, v1_1⟩ hx => ?_)
              obtain ⟨hr, hm⟩ := hx
              dsimp only at hr hm
              cases m with
              | zero => rw [s_f94_l1] at hr; cases hr
              | succ m =>
                rw [s_f94_l1] at hr
                show AW Try.prog _ _ _ (mkS 114 [(2, .sl .ro 2 (enys a2)), (6, .ptr 0 0), (8, .int .i64 1), (9, .int .i64 1), (11, .int .i64 (v1_1 : Int))] [(0, .box 40 [.int .i64 0, .sl .nil 0 []])])
                refine AW.seq ?_
                refine AW.seq ?_
                refine AW.region (M := fun _ => true) ?_
                refine AL.v good (d := 98) (v := .int .i64 (v1_1 : Int)) rfl rfl rfl rfl ?_
                refine AL.v good (d := 99) (v := .sl .ro 2 (enys a2)) rfl rfl rfl rfl ?_
                refine AL.ln good (d := 100) (m := a2.length) rfl rfl rfl rfl rfl rfl (enys_length _) ?_
                refine AL.v good (d := 101) (v := .bool (decide ((v1_1 : Int) < (a2.length : Int)))) rfl rfl rfl rfl ?_
                refine AW.if rfl (fun h54 => ?_) (fun h54 => ?_)
                · replace hr := cnd_t h54 hr
                  refine AW.skip ?_
                  refine AW.seq ?_
                  refine AW.block ?_
                  refine AW.seq ?_
                  refine AW.region (M := fun _ => true) ?_
                  refine AL.v good (d := 104) (v := .sl .ro 2 (enys a2)) rfl rfl rfl rfl ?_
                  refine AL.v good (d := 105) (v := .int .i64 (v1_1 : Int)) rfl rfl rfl rfl ?_
                  obtain ⟨x55, h56, hr⟩ := bnd1 hr
                  refine AL.ix good (d := 106) (r := [.int .i64 x55.kind, .sl .ro 2 (enys x55.of)]) rfl rfl rfl rfl rfl rfl rfl (Int.natCast_nonneg _) (enys_get h56) ?_
                  refine AL.v good (d := 107) (v := .ep [.int .i64 x55.kind, .sl .ro 2 (enys x55.of)]) rfl rfl rfl rfl ?_
                  refine AL.v good (d := 108) (v := .int .i64 x55.kind) rfl rfl rfl rfl ?_
                  refine AL.v good (d := 109) (v := .int .i64 1) rfl rfl rfl rfl ?_
                  refine AL.v good (d := 110) (v := .bool (x55.kind != 1)) rfl rfl rfl rfl ?_
                  refine AW.if rfl (fun h57 => ?_) (fun h57 => ?_)
                  · replace hr := cnd_t h57 hr
                    refine AW.seq ?_
                    refine AW.region (M := fun _ => true) ?_
                    refine AL.bld good (d := 111) (l := [.int .i64 0, .sl .nil 0 []]) rfl rfl rfl rfl rfl rfl rfl ?_
                    refine AL.st2 good (c2 := [.int .i64 0, .sl .nil 0 []]) rfl rfl rfl rfl rfl rfl rfl rfl rfl rfl rfl rfl ?_
                    refine AL.v good (d := 7) (v := .int .i64 5) rfl rfl rfl rfl ?_
                    refine AW.ret ?_
                    obtain rfl := Option.some.inj hr
                    exact RetQ.w good (.inr rfl) rfl rfl ⟨⟨Wv.refl _, ⟨.inr rfl, trivial, .inr rfl⟩, trivial⟩, Wv.refl _, trivial⟩ (by simp [pureA, pureL, pureR, inA, inL, inR, inO, idsIn, encs_pure, enxs_pure, enys_pure, valC_pure, exC_pure, tyC_pure])
                  · replace hr := cnd_f h57 hr
                    refine AW.skip ?_
                    refine AW.region (M := fun _ => true) ?_
                    refine AL.v good (d := 102) (v := .int .i64 (v1_1 : Int)) rfl rfl rfl rfl ?_
                    refine AL.v good (d := 103) (v := .int .i64 (IntKind.i64.wrap ((v1_1 : Int) + 1))) rfl rfl rfl rfl ?_
                    refine AL.v good (d := 11) (v := .int .i64 (IntKind.i64.wrap ((v1_1 : Int) + 1))) rfl rfl rfl rfl ?_
                    exact ⟨(m, (v1_1 + 1)), _, _, rfl, ⟨(fun _ h => by cases h), List.forall_mem_cons.2 ⟨⟨⟨_, rfl, Wv.refl _⟩, (by simp [pureA, pureL, pureR, inA, inL, inR, inO, idsIn, encs_pure, enxs_pure, enys_pure, valC_pure, exC_pure, tyC_pure])⟩, List.forall_mem_cons.2 ⟨⟨⟨_, rfl, Wv.refl _⟩, (by simp [pureA, pureL, pureR, inA, inL, inR, inO, idsIn, encs_pure, enxs_pure, enys_pure, valC_pure, exC_pure, tyC_pure])⟩, List.forall_mem_cons.2 ⟨⟨⟨_, rfl, Wv.refl _⟩, (by simp [pureA, pureL, pureR, inA, inL, inR, inO, idsIn, encs_pure, enxs_pure, enys_pure, valC_pure, exC_pure, tyC_pure])⟩, List.forall_mem_cons.2 ⟨⟨⟨_, rfl, Wv.refl _⟩, (by simp [pureA, pureL, pureR, inA, inL, inR, inO, idsIn, encs_pure, enxs_pure, enys_pure, valC_pure, exC_pure, tyC_pure])⟩, List.forall_mem_cons.2 ⟨⟨⟨_, rfl, (wnx h54 hl53)⟩, (by simp [pureA, pureL, pureR, inA, inL, inR, inO, idsIn, encs_pure, enxs_pure, enys_pure, valC_pure, exC_pure, tyC_pure])⟩, (fun _ h => by cases h)⟩⟩⟩⟩⟩, List.forall_mem_cons.2 ⟨⟨⟨_, rfl, ⟨rfl, ⟨Wv.refl _, Wv.refl _, trivial⟩⟩⟩, (by simp [pureA, pureL, pureR, inA, inL, inR, inO, idsIn, encs_pure, enxs_pure, enys_pure, valC_pure, exC_pure, tyC_pure])⟩, (fun _ h => by cases h)⟩⟩, ⟨hr, Nat.le_of_succ_le hm⟩, Nat.lt_succ_self _⟩
                · replace hr := cnd_f h54 hr
                  refine AW.exit ?_
                  refine AW.seq ?_
                  refine AW.region (M := fun _ => true) ?_
                  refine AL.v good (d := 112) (v := .int .i64 1) rfl rfl rfl rfl ?_
                  refine AL.cw good (d := 113) (xs := [.int .i64 1]) (res := .agg [.int .i64 1, .sl .ro 2 (enys [])]) rfl rfl rfl rfl rfl rfl rfl (w_f121 1) ⟨(Wv.refl _), trivial⟩ (by simp [pureA, pureL, pureR, inA, inL, inR, inO, idsIn, encs_pure, enxs_pure, enys_pure, valC_pure, exC_pure, tyC_pure]) ?_
                  refine AL.st2 good (c2 := [.int .i64 1, .sl .ro 2 (enys [])]) rfl rfl rfl rfl rfl rfl rfl rfl rfl rfl rfl rfl ?_
                  refine AL.v good (d := 7) (v := .int .i64 0) rfl rfl rfl rfl ?_
                  refine AW.ret ?_
                  obtain rfl := Option.some.inj hr
                  exact RetQ.w good (.inr rfl) rfl rfl (Wv.refl _) (by simp [pureA, pureL, pureR, inA, inL, inR, inO, idsIn, encs_pure, enxs_pure, enys_pure, valC_pure, exC_pure, tyC_pure])
            · replace hr := cnd_f h47 hr
              refine AW.seq ?_
              refine AW.region (M := fun _ => true) ?_
              refine AL.sb good (d := 85) (b := (a0.data.toList == [97, 100, 100])) rfl rfl rfl rfl rfl rfl rfl ?_
              refine AL.v good (d := 83) (v := .bool (a0.data.toList == [97, 100, 100])) rfl rfl rfl rfl ?_
              refine AW.if rfl (fun h58 => ?_) (fun h58 => ?_)
              · replace hr := cnd_t h58 hr
                refine AW.skip ?_
                refine AW.if rfl (fun h => ?_) (fun h => by cases h58.symm.trans h)
                refine AW.seq ?_
                refine AW.region (M := fun _ => true) ?_
                refine AL.v good (d := 8) (v := .int .i64 1) rfl rfl rfl rfl ?_
                refine AW.region (M := fun _ => true) ?_
                refine AL.v good (d := 9) (v := .int .i64 1) rfl rfl rfl rfl ?_
                refine AW.seq ?_
                refine AW.seq ?_
                refine AW.region (M := fun _ => true) ?_
                refine AL.v good (d := 11) (v := .int .i64 0) rfl rfl rfl rfl ?_
                refine AW.block ?_
                refine AW.lens 2 rfl (fun hl64 => ?_)
                replace hl64 : a2.length ≤ 9223372036854775807 := by rw [← enys_length a2]; exact hl64
                refine AW.lpw (fun x : Nat × Nat => [(2, .sl .ro 2 (enys a2)), (6, .ptr 0 0), (8, .int .i64 1), (9, .int .i64 1), (11, .int .i64 (x.2 : Int))]) (fun x => [(0, .box 40 [.int .i64 0, .sl .nil 0 []])]) (fun x => s_f94_l1 x.1 a2 x.2 = some r ∧ x.1 ≤ n) (fun x => x.1) (n, 0) ⟨(fun _ h => by cases h), List.forall_mem_cons.2 ⟨⟨⟨_, rfl, Wv.refl _⟩, (by simp [pureA, pureL, pureR, inA, inL, inR, inO, idsIn, encs_pure, enxs_pure, enys_pure, valC_pure, exC_pure, tyC_pure])⟩, List.forall_mem_cons.2 ⟨⟨⟨_, rfl, Wv.refl _⟩, (by simp [pureA, pureL, pureR, inA, inL, inR, inO, idsIn, encs_pure, enxs_pure, enys_pure, valC_pure, exC_pure, tyC_pure])⟩, List.forall_mem_cons.2 ⟨⟨⟨_, rfl, Wv.refl _⟩, (by simp [pureA, pureL, pureR, inA, inL, inR, inO, idsIn, encs_pure, enxs_pure, enys_pure, valC_pure, exC_pure, tyC_pure])⟩, List.forall_mem_cons.2 ⟨⟨⟨_, rfl, Wv.refl _⟩, (by simp [pureA, pureL, pureR, inA, inL, inR, inO, idsIn, encs_pure, enxs_pure, enys_pure, valC_pure, exC_pure, tyC_pure])⟩, List.forall_mem_cons.2 ⟨⟨⟨_, rfl, Wv.refl _⟩, (by simp [pureA, pureL, pureR, inA, inL, inR, inO, idsIn, encs_pure, enxs_pure, enys_pure, valC_pure, exC_pure, tyC_pure])⟩, (fun _ h => by cases h)⟩⟩⟩⟩⟩, List.forall_mem_cons.2 ⟨⟨⟨_, rfl, ⟨rfl, ⟨Wv.refl _, Wv.refl _, trivial⟩⟩⟩, (by simp [pureA, pureL, pureR, inA, inL, inR, inO, idsIn, encs_pure, enxs_pure, enys_pure, valC_pure, exC_pure, tyC_pure])⟩, (fun _ h => by cases h)⟩⟩ ⟨hr, Nat.le_refl _⟩ (fun ⟨m, v2_1⟩ hx => ?_)
                obtain ⟨hr, hm⟩ := hx
                dsimp only at hr hm
                cases m with
                | zero => rw [s_f94_l1] at hr; cases hr
                | succ m =>
                  rw [s_f94_l1] at hr
                  show AW Try.prog _ _ _ (mkS 114 [(2, .sl .ro 2 (enys a2)), (6, .ptr 0 0), (8, .int .i64 1), (9, .int .i64 1), (11, .int .i64 (v2_1 : Int))] [(0, .box 40 [.int .i64 0, .sl .nil 0 []])])
                  refine AW.seq ?_
                  refine AW.seq ?_
                  refine AW.region (M := fun _ => true) ?_
                  refine AL.v good (d := 98) (v := .int .i64 (v2_1 : Int)) rfl rfl rfl rfl ?_
                  refine AL.v good (d := 99) (v := .sl .ro 2 (enys a2)) rfl rfl rfl rfl ?_
                  refine AL.ln good (d := 100) (m := a2.length) rfl rfl rfl rfl rfl rfl (enys_length _) ?_
                  refine AL.v good (d := 101) (v := .bool (decide ((v2_1 : Int) < (a2.length : Int)))) rfl rfl rfl rfl ?_
                  refine AW.if rfl (fun h65 => ?_) (fun h65 => ?_)
                  · replace hr := cnd_t h65 hr
                    refine AW.skip ?_
                    refine AW.seq ?_
                    refine AW.block ?_
                    refine AW.seq ?_
                    refine AW.region (M := fun _ => true) ?_
                    refine AL.v good (d := 104) (v := .sl .ro 2 (enys a2)) rfl rfl rfl rfl ?_
                    refine AL.v good (d := 105) (v := .int .i64 (v2_1 : Int)) rfl rfl rfl rfl ?_
                    obtain ⟨x66, h67, hr⟩ := bnd1 hr
                    refine AL.ix good (d := 106) (r := [.int .i64 x66.kind, .sl .ro 2 (enys x66.of)]) rfl rfl rfl rfl rfl rfl rfl (Int.natCast_nonneg _) (enys_get h67) ?_
                    refine AL.v good (d := 107) (v := .ep [.int .i64 x66.kind, .sl .ro 2 (enys x66.of)]) rfl rfl rfl rfl ?_
                    refine AL.v good (d := 108) (v := .int .i64 x66.kind) rfl rfl rfl rfl ?_
                    refine AL.v good (d := 109) (v := .int .i64 1) rfl rfl rfl rfl ?_
                    refine AL.v good (d := 110) (v := .bool (x66.kind != 1)) rfl rfl rfl rfl ?_
                    refine AW.if rfl (fun h68 => ?_) (fun h68 => ?_)
                    · replace hr := cnd_t h68 hr
                      refine AW.seq ?_
                      refine AW.region (M := fun _ => true) ?_
                      refine AL.bld good (d := 111) (l := [.int .i64 0, .sl .nil 0 []]) rfl rfl rfl rfl rfl rfl rfl ?_
                      refine AL.st2 good (c2 := [.int .i64 0, .sl .nil 0 []]) rfl rfl rfl rfl rfl rfl rfl rfl rfl rfl rfl rfl ?_
                      refine AL.v good (d := 7) (v := .int .i64 5) rfl rfl rfl rfl ?_
                      refine AW.ret ?_
                      obtain rfl := Option.some.inj hr
                      exact RetQ.w good (.inr rfl) rfl rfl ⟨⟨Wv.refl _, ⟨.inr rfl, trivial, .inr rfl⟩, trivial⟩, Wv.refl _, trivial⟩ (by simp [pureA, pureL, pureR, inA, inL, inR, inO, idsIn, encs_pure, enxs_pure, enys_pure, valC_pure, exC_pure, tyC_pure])
                    · replace hr := cnd_f h68 hr
                      refine AW.skip ?_
                      refine AW.region (M := fun _ => true) ?_
                      refine AL.v good (d := 102) (v := .int .i64 (v2_1 : Int)) rfl rfl rfl rfl ?_
                      refine AL.v good (d := 103) (v := .int .i64 (IntKind.i64.wrap ((v2_1 : Int) + 1))) rfl rfl rfl rfl ?_
                      refine AL.v good (d := 11) (v := .int .i64 (IntKind.i64.wrap ((v2_1 : Int) + 1))) rfl rfl rfl rfl ?_
                      exact ⟨(m, (v2_1 + 1)), _, _, rfl, ⟨(fun _ h => by cases h), List.forall_mem_cons.2 ⟨⟨⟨_, rfl, Wv.refl _⟩, (by simp [pureA, pureL, pureR, inA, inL, inR, inO, idsIn, encs_pure, enxs_pure, enys_pure, valC_pure, exC_pure, tyC_pure])⟩, List.forall_mem_cons.2 ⟨⟨⟨_, rfl, Wv.refl _⟩, (by simp [pureA, pureL, pureR, inA, inL, inR, inO, idsIn, encs_pure, enxs_pure, enys_pure, valC_pure, exC_pure, tyC_pure])⟩, List.forall_mem_cons.2 ⟨⟨⟨_, rfl, Wv.refl _⟩, (by simp [pureA, pureL, pureR, inA, inL, inR, inO, idsIn, encs_pure, enxs_pure, enys_pure, valC_pure, exC_pure, tyC_pure])⟩, List.forall_mem_cons.2 ⟨⟨⟨_, rfl, Wv.refl _⟩, (by simp [pureA, pureL, pureR, inA, inL, inR, inO, idsIn, encs_pure, enxs_pure, enys_pure, valC_pure, exC_pure, tyC_pure])⟩, List.forall_mem_cons.2 ⟨⟨⟨_, rfl, (wnx h65 hl64)⟩, (by simp [pureA, pureL, pureR, inA, inL, inR, inO, idsIn, encs_pure, enxs_pure, enys_pure, valC_pure, exC_pure, tyC_pure])⟩, (fun _ h => by cases h)⟩⟩⟩⟩⟩, List.forall_mem_cons.2 ⟨⟨⟨_, rfl, ⟨rfl, ⟨Wv.refl _, Wv.refl _, trivial⟩⟩⟩, (by simp [pureA, pureL, pureR, inA, inL, inR, inO, idsIn, encs_pure, enxs_pure, enys_pure, valC_pure, exC_pure, tyC_pure])⟩, (fun _ h => by cases h)⟩⟩, ⟨hr, Nat.le_of_succ_le hm⟩, Nat.lt_succ_self _⟩
                  · replace hr := cnd_f h65 hr
                    refine AW.exit ?_
                    refine AW.seq ?_
                    refine AW.region (M := fun _ => true) ?_
                    refine AL.v good (d := 112) (v := .int .i64 1) rfl rfl rfl rfl ?_
                    refine AL.cw good (d := 113) (xs := [.int .i64 1]) (res := .agg [.int .i64 1, .sl .ro 2 (enys [])]) rfl rfl rfl rfl rfl rfl rfl (w_f121 1) ⟨(Wv.refl _), trivial⟩ (by simp [pureA, pureL, pureR, inA, inL, inR, inO, idsIn, encs_pure, enxs_pure, enys_pure, valC_pure, exC_pure, tyC_pure]) ?_
                    refine AL.st2 good (c2 := [.int .i64 1, .sl .ro 2 (enys [])]) rfl rfl rfl rfl rfl rfl rfl rfl rfl rfl rfl rfl ?_
                    refine AL.v good (d := 7) (v := .int .i64 0) rfl rfl rfl rfl ?_
                    refine AW.ret ?_
                    obtain rfl := Option.some.inj hr
                    exact RetQ.w good (.inr rfl) rfl rfl (Wv.refl _) (by simp [pureA, pureL, pureR, inA, inL, inR, inO, idsIn, encs_pure, enxs_pure, enys_pure, valC_pure, exC_pure, tyC_pure])
              · replace hr := cnd_f h58 hr
                refine AW.seq ?_
                refine AW.region (M := fun _ => true) ?_
                refine AL.sb good (d := 86) (b := (a0.data.toList == [115, 117, 98])) rfl rfl rfl rfl rfl rfl rfl ?_
                refine AL.v good (d := 83) (v := .bool (a0.data.toList == [115, 117, 98])) rfl rfl rfl rfl ?_
                refine AW.if rfl (fun h69 => ?_) (fun h69 => ?_)
                · replace hr := cnd_t h69 hr
                  refine AW.skip ?_
                  refine AW.if rfl (fun h => ?_) (fun h => by cases h69.symm.trans h)
                  refine AW.seq ?_
                  refine AW.region (M := fun _ => true) ?_
                  refine AL.v good (d := 8) (v := .int .i64 1) rfl rfl rfl rfl ?_
                  refine AW.region (M := fun _ => true) ?_
                  refine AL.v good (d := 9) (v := .int .i64 1) rfl rfl rfl rfl ?_
                  refine AW.seq ?_
                  refine AW.seq ?_
                  refine AW.region (M := fun _ => true) ?_
                  refine AL.v good (d := 11) (v := .int .i64 0) rfl rfl rfl rfl ?_
                  refine AW.block ?_
                  refine AW.lens 2 rfl (fun hl75 => ?_)
                  replace hl75 : a2.length ≤ 9223372036854775807 := by rw [← enys_length a2]; exact hl75
                  refine AW.lpw (fun x : Nat × Nat => [(2, .sl .ro 2 (enys a2)), (6, .ptr 0 0), (8, .int .i64 1), (9, .int .i64 1), (11, .int .i64 (x.2 : Int))]) (fun x => [(0, .box 40 [.int .i64 0, .sl .nil 0 []])]) (fun x => s_f94_l1 x.1 a2 x.2 = some r ∧ x.1 ≤ n) (fun x => x.1) (n, 0) ⟨(fun _ h => by cases h), List.forall_mem_cons.2 ⟨⟨⟨_, rfl, Wv.refl _⟩, (by simp [pureA, pureL, pureR, inA, inL, inR, inO, idsIn, encs_pure, enxs_pure, enys_pure, valC_pure, exC_pure, tyC_pure])⟩, List.forall_mem_cons.2 ⟨⟨⟨_, rfl, Wv.refl _⟩, (by simp [pureA, pureL, pureR, inA, inL, inR, inO, idsIn, encs_pure, enxs_pure, enys_pure, valC_pure, exC_pure, tyC_pure])⟩, List.forall_mem_cons.2 ⟨⟨⟨_, rfl, Wv.refl _⟩, (by simp [pureA, pureL, pureR, inA, inL, inR, inO, idsIn, encs_pure, enxs_pure, enys_pure, valC_pure, exC_pure, tyC_pure])⟩, List.forall_mem_cons.2 ⟨⟨⟨_, rfl, Wv.refl _⟩, (by simp [pureA, pureL, pureR, inA, inL, inR, inO, idsIn, encs_pure, enxs_pure, enys_pure, valC_pure, exC_pure, tyC_pure])⟩, List.forall_mem_cons.2 ⟨⟨⟨_, rfl, Wv.refl _⟩, (by simp [pureA, pureL, pureR, inA, inL, inR, inO, idsIn, encs_pure, enxs_pure, enys_pure, valC_pure, exC_pure, tyC_pure])⟩, (fun _ h => by cases h)⟩⟩⟩⟩⟩, List.forall_mem_cons.2 ⟨⟨⟨_, rfl, ⟨rfl, ⟨Wv.refl _, Wv.refl _, trivial⟩⟩⟩, (by simp [pureA, pureL, pureR, inA, inL, inR, inO, idsIn, encs_pure, enxs_pure, enys_pure, valC_pure, exC_pure, tyC_pure])⟩, (fun _ h => by cases h)⟩⟩ ⟨hr, Nat.le_refl _⟩ (fun ⟨m, v3_1⟩ hx => ?_)
                  obtain ⟨hr, hm⟩ := hx
                  dsimp only at hr hm
                  cases m with
                  | zero => rw [s_f94_l1] at hr; cases hr
                  | succ m =>
                    rw [s_f94_l1] at hr
                    show AW Try.prog _ _ _ (mkS 114 [(2, .sl .ro 2 (enys a2)), (6, .ptr 0 0), (8, .int .i64 1), (9, .int .i64 1), (11, .int .i64 (v3_1 : Int))] [(0, .box 40 [.int .i64 0, .sl .nil 0 []])])
                    refine AW.seq ?_
                    refine AW.seq ?_
                    refine AW.region (M := fun _ => true) ?_
                    refine AL.v good (d := 98) (v := .int .i64 (v3_1 : Int)) rfl rfl rfl rfl ?_
                    refine AL.v good (d := 99) (v := .sl .ro 2 (enys a2)) rfl rfl rfl rfl ?_
                    refine AL.ln good (d := 100) (m := a2.length) rfl rfl rfl rfl rfl rfl (enys_length _) ?_
                    refine AL.v good (d := 101) (v := .bool (decide ((v3_1 : Int) < (a2.length : Int)))) rfl rfl rfl rfl ?_
                    refine AW.if rfl (fun h76 => ?_) (fun h76 => ?_)
                    · replace hr := cnd_t h76 hr
                      refine AW.skip ?_
                      refine AW.seq ?_
                      refine AW.block ?_
                      refine AW.seq ?_
                      refine AW.region (M := fun _ => true) ?_
                      refine AL.v good (d := 104) (v := .sl .ro 2 (enys a2)) rfl rfl rfl rfl ?_
                      refine AL.v good (d := 105) (v := .int .i64 (v3_1 : Int)) rfl rfl rfl rfl ?_
                      obtain ⟨x77, h78, hr⟩ := bnd1 hr
                      refine AL.ix good (d := 106) (r := [.int .i64 x77.kind, .sl .ro 2 (enys x77.of)]) rfl rfl rfl rfl rfl rfl rfl (Int.natCast_nonneg _) (enys_get h78) ?_
                      refine AL.v good (d := 107) (v := .ep [.int .i64 x77.kind, .sl .ro 2 (enys x77.of)]) rfl rfl rfl rfl ?_
                      refine AL.v good (d := 108) (v := .int .i64 x77.kind) rfl rfl rfl rfl ?_
                      refine AL.v good (d := 109) (v := .int .i64 1) rfl rfl rfl rfl ?_
                      refine AL.v good (d := 110) (v := .bool (x77.kind != 1)) rfl rfl rfl rfl ?_
                      refine AW.if rfl (fun h79 => ?_) (fun h79 => ?_)
                      · replace hr := cnd_t h79 hr
                        refine AW.seq ?_
                        refine AW.region (M := fun _ => true) ?_
                        refine AL.bld good (d := 111) (l := [.int .i64 0, .sl .nil 0 []]) rfl rfl rfl rfl rfl rfl rfl ?_
                        refine AL.st2 good (c2 := [.int .i64 0, .sl .nil 0 []]) rfl rfl rfl rfl rfl rfl rfl rfl rfl rfl rfl rfl ?_
                        refine AL.v good (d := 7) (v := .int .i64 5) rfl rfl rfl rfl ?_
                        refine AW.ret ?_
                        obtain rfl := Option.some.inj hr
                        exact RetQ.w good (.inr rfl) rfl rfl ⟨⟨Wv.refl _, ⟨.inr rfl, trivial, .inr rfl⟩, trivial⟩, Wv.refl _, trivial⟩ (by simp [pureA, pureL, pureR, inA, inL, inR, inO, idsIn, encs_pure, enxs_pure, enys_pure, valC_pure, exC_pure, tyC_pure])
                      · replace hr := cnd_f h79 hr
                        refine AW.skip ?_
                        refine AW.region (M := fun _ => true) ?_
                        refine AL.v good (d := 102) (v := .int .i64 (v3_1 : Int)) rfl rfl rfl rfl ?_
                        refine AL.v good (d := 103) (v := .int .i64 (IntKind.i64.wrap ((v3_1 : Int) + 1))) rfl rfl rfl rfl ?_
                        refine AL.v good (d := 11) (v := .int .i64 (IntKind.i64.wrap ((v3_1 : Int) + 1))) rfl rfl rfl rfl ?_
                        exact ⟨(m, (v3_1 + 1)), _, _, rfl, ⟨(fun _ h => by cases h), List.forall_mem_cons.2 ⟨⟨⟨_, rfl, Wv.refl _⟩, (by simp [pureA, pureL, pureR, inA, inL, inR, inO, idsIn, encs_pure, enxs_pure, enys_pure, valC_pure, exC_pure, tyC_pure])⟩, List.forall_mem_cons.2 ⟨⟨⟨_, rfl, Wv.refl _⟩, (by simp [pureA, pureL, pureR, inA, inL, inR, inO, idsIn, encs_pure, enxs_pure, enys_pure, valC_pure, exC_pure, tyC_pure])⟩, List.forall_mem_cons.2 ⟨⟨⟨_, rfl, Wv.refl _⟩, (by simp [pureA, pureL, pureR, inA, inL, inR, inO, idsIn, encs_pure, enxs_pure, enys_pure, valC_pure, exC_pure, tyC_pure])⟩, List.forall_mem_cons.2 ⟨⟨⟨_, rfl, Wv.refl _⟩, (by simp [pureA, pureL, pureR, inA, inL, inR, inO, idsIn, encs_pure, enxs_pure, enys_pure, valC_pure, exC_pure, tyC_pure])⟩, List.forall_mem_cons.2 ⟨⟨⟨_, rfl, (wnx h76 hl75)⟩, (by simp [pureA, pureL, pureR, inA, inL, inR, inO, idsIn, encs_pure, enxs_pure, enys_pure, valC_pure, exC_pure, tyC_pure])⟩, (fun _ h => by cases h)⟩⟩⟩⟩⟩, List.forall_mem_cons.2 ⟨⟨⟨_, rfl, ⟨rfl, ⟨Wv.refl _, Wv.refl _, trivial⟩⟩⟩, (by simp [pureA, pureL, pureR, inA, inL, inR, inO, idsIn, encs_pure, enxs_pure, enys_pure, valC_pure, exC_pure, tyC_pure])⟩, (fun _ h => by cases h)⟩⟩, ⟨hr, Nat.le_of_succ_le hm⟩, Nat.lt_succ_self _⟩
                    · replace hr := cnd_f h76 hr
                      refine AW.exit ?_
                      refine AW.seq ?_
                      refine AW.region (M := fun _ => true) ?_
                      refine AL.v good (d := 112) (v := .int .i64 1) rfl rfl rfl rfl ?_
                      refine AL.cw good (d := 113) (xs := [.int .i64 1]) (res := .agg [.int .i64 1, .sl .ro 2 (enys [])]) rfl rfl rfl rfl rfl rfl rfl (w_f121 1) ⟨(Wv.refl _), trivial⟩ (by simp [pureA, pureL, pureR, inA, inL, inR, inO, idsIn, encs_pure, enxs_pure, enys_pure, valC_pure, exC_pure, tyC_pure]) ?_
                      refine AL.st2 good (c2 := [.int .i64 1, .sl .ro 2 (enys [])]) rfl rfl rfl rfl rfl rfl rfl rfl rfl rfl rfl rfl ?_
                      refine AL.v good (d := 7) (v := .int .i64 0) rfl rfl rfl rfl ?_
                      refine AW.ret ?_
                      obtain rfl := Option.some.inj hr
                      exact RetQ.w good (.inr rfl) rfl rfl (Wv.refl _) (by simp [pureA, pureL, pureR, inA, inL, inR, inO, idsIn, encs_pure, enxs_pure, enys_pure, valC_pure, exC_pure, tyC_pure])
                · replace hr := cnd_f h69 hr
                  refine AW.seq ?_
                  refine AW.region (M := fun _ => true) ?_
                  refine AL.sb good (d := 87) (b := (a0.data.toList == [109, 117, 108])) rfl rfl rfl rfl rfl rfl rfl ?_
                  refine AL.v good (d := 83) (v := .bool (a0.data.toList == [109, 117, 108])) rfl rfl rfl rfl ?_
                  refine AW.if rfl (fun h80 => ?_) (fun h80 => ?_)
                  · replace hr := cnd_t h80 hr
                    refine AW.skip ?_
                    refine AW.if rfl (fun h => ?_) (fun h => by cases h80.symm.trans h)
                    refine AW.seq ?_
                    refine AW.region (M := fun _ => true) ?_
                    refine AL.v good (d := 8) (v := .int .i64 1) rfl rfl rfl rfl ?_
                    refine AW.region (M := fun _ => true) ?_
                    refine AL.v good (d := 9) (v := .int .i64 1) rfl rfl rfl rfl ?_
                    refine AW.seq ?_
                    refine AW.seq ?_
                    refine AW.region (M := fun _ => true) ?_
                    refine AL.v good (d := 11) (v := .int .i64 0) rfl rfl rfl rfl ?_
                    refine AW.block ?_
                    refine AW.lens 2 rfl (fun hl86 => ?_)
                    replace hl86 : a2.length ≤ 9223372036854775807 := by rw [← enys_length a2]; exact hl86
                    refine AW.lpw (fun x : Nat × Nat => [(2, .sl .ro 2 (enys a2)), (6, .ptr 0 0), (8, .int .i64 1), (9, .int .i64 1), (11, .int .i64 (x.2 : Int))]) (fun x => [(0, .box 40 [.int .i64 0, .sl .nil 0 []])]) (fun x => s_f94_l1 x.1 a2 x.2 = some r ∧ x.1 ≤ n) (fun x => x.1) (n, 0) ⟨(fun _ h => by cases h), List.forall_mem_cons.2 ⟨⟨⟨_, rfl, Wv.refl _⟩, (by simp [pureA, pureL, pureR, inA, inL, inR, inO, idsIn, encs_pure, enxs_pure, enys_pure, valC_pure, exC_pure, tyC_pure])⟩, List.forall_mem_cons.2 ⟨⟨⟨_, rfl, Wv.refl _⟩, (by simp [pureA, pureL, pureR, inA, inL, inR, inO, idsIn, encs_pure, enxs_pure, enys_pure, valC_pure, exC_pure, tyC_pure])⟩, List.forall_mem_cons.2 ⟨⟨⟨_, rfl, Wv.refl _⟩, (by simp [pureA, pureL, pureR, inA, inL, inR, inO, idsIn, encs_pure, enxs_pure, enys_pure, valC_pure, exC_pure, tyC_pure])⟩, List.forall_mem_cons.2 ⟨⟨⟨_, rfl, Wv.refl _⟩, (by simp [pureA, pureL, pureR, inA, inL, inR, inO, idsIn, encs_pure, enxs_pure, enys_pure, valC_pure, exC_pure, tyC_pure])⟩, List.forall_mem_cons.2 ⟨⟨⟨_, rfl, Wv.refl _⟩, (by simp [pureA, pureL, pureR, inA, inL, inR, inO, idsIn, encs_pure, enxs_pure, enys_pure, valC_pure, exC_pure, tyC_pure])⟩, (fun _ h => by cases h)⟩⟩⟩⟩⟩, List.forall_mem_cons.2 ⟨⟨⟨_, rfl, ⟨rfl, ⟨Wv.refl _, Wv.refl _, trivial⟩⟩⟩, (by simp [pureA, pureL, pureR, inA, inL, inR, inO, idsIn, encs_pure, enxs_pure, enys_pure, valC_pure, exC_pure, tyC_pure])⟩, (fun _ h => by cases h)⟩⟩ ⟨hr, Nat.le_refl _⟩ (fun ⟨m, v4_1⟩ hx => ?_)
                    obtain ⟨hr, hm⟩ := hx
                    dsimp only at hr hm
                    cases m with
                    | zero => rw [s_f94_l1] at hr; cases hr
                    | succ m =>
                      rw [s_f94_l1] at hr
                      show AW Try.prog _ _ _ (mkS 114 [(2, .sl .ro 2 (enys a2)), (6, .ptr 0 0), (8, .int .i64 1), (9, .int .i64 1), (11, .int .i64 (v4_1 : Int))] [(0, .box 40 [.int .i64 0, .sl .nil 0 []])])
                      refine AW.seq ?_
                      refine AW.seq ?_
                      refine AW.region (M := fun _ => true) ?_
                      refine AL.v good (d := 98) (v := .int .i64 (v4_1 : Int)) rfl rfl rfl rfl ?_
                      refine AL.v good (d := 99) (v := .sl .ro 2 (enys a2)) rfl rfl rfl rfl ?_
                      refine AL.ln good (d := 100) (m := a2.length) rfl rfl rfl rfl rfl rfl (enys_length _) ?_
                      refine AL.v good (d := 101) (v := .bool (decide ((v4_1 : Int) < (a2.length : Int)))) rfl rfl rfl rfl ?_
                      refine AW.if rfl (fun h87 => ?_) (fun h87 => ?_)
                      · replace hr := cnd_t h87 hr
                        refine AW.skip ?_
                        refine AW.seq ?_
                        refine AW.block ?_
                        refine AW.seq ?_
                        refine AW.region (M := fun _ => true) ?_
                        refine AL.v good (d := 104) (v := .sl .ro 2 (enys a2)) rfl rfl rfl rfl ?_
                        refine AL.v good (d := 105) (v := .int .i64 (v4_1 : Int)) rfl rfl rfl rfl ?_
                        obtain ⟨x88, h89, hr⟩ := bnd1 hr
                        refine AL.ix good (d := 106) (r := [.int .i64 x88.kind, .sl .ro 2 (enys x88.of)]) rfl rfl rfl rfl rfl rfl rfl (Int.natCast_nonneg _) (enys_get h89) ?_
                        refine AL.v good (d := 107) (v := .ep [.int .i64 x88.kind, .sl .ro 2 (enys x88.of)]) rfl rfl rfl rfl ?_
                        refine AL.v good (d := 108) (v := .int .i64 x88.kind) rfl rfl rfl rfl ?_
                        refine AL.v good (d := 109) (v := .int .i64 1) rfl rfl rfl rfl ?_
                        refine AL.v good (d := 110) (v := .bool (x88.kind != 1)) rfl rfl rfl rfl ?_
                        refine AW.if rfl (fun h90 => ?_) (fun h90 => ?_)
                        · replace hr := cnd_t h90 hr
                          refine AW.seq ?_
                          refine AW.region (M := fun _ => true) ?_
                          refine AL.bld good (d := 111) (l := [.int .i64 0, .sl .nil 0 []]) rfl rfl rfl rfl rfl rfl rfl ?_
                          refine AL.st2 good (c2 := [.int .i64 0, .sl .nil 0 []]) rfl rfl rfl rfl rfl rfl rfl rfl rfl rfl rfl rfl ?_
                          refine AL.v good (d := 7) (v := .int .i64 5) rfl rfl rfl rfl ?_
                          refine AW.ret ?_
                          obtain rfl := Option.some.inj hr
                          exact RetQ.w good (.inr rfl) rfl rfl ⟨⟨Wv.refl _, ⟨.inr rfl, trivial, .inr rfl⟩, trivial⟩, Wv.refl _, trivial⟩ (by simp [pureA, pureL, pureR, inA, inL, inR, inO, idsIn, encs_pure, enxs_pure, enys_pure, valC_pure, exC_pure, tyC_pure])
                        · replace hr := cnd_f h90 hr
                          refine AW.skip ?_
                          refine AW.region (M := fun _ => true) ?_
                          refine AL.v good (d := 102) (v := .int .i64 (v4_1 : Int)) rfl rfl rfl rfl ?_
                          refine AL.v good (d := 103) (v := .int .i64 (IntKind.i64.wrap ((v4_1 : Int) + 1))) rfl rfl rfl rfl ?_
                          refine AL.v good (d := 11) (v := .int .i64 (IntKind.i64.wrap ((v4_1 : Int) + 1))) rfl rfl rfl rfl ?_
                          exact ⟨(m, (v4_1 + 1)), _, _, rfl, ⟨(fun _ h => by cases h), List.forall_mem_cons.2 ⟨⟨⟨_, rfl, Wv.refl _⟩, (by simp [pureA, pureL, pureR, inA, inL, inR, inO, idsIn, encs_pure, enxs_pure, enys_pure, valC_pure, exC_pure, tyC_pure])⟩, List.forall_mem_cons.2 ⟨⟨⟨_, rfl, Wv.refl _⟩, (by simp [pureA, pureL, pureR, inA, inL, inR, inO, idsIn, encs_pure, enxs_pure, enys_pure, valC_pure, exC_pure, tyC_pure])⟩, List.forall_mem_cons.2 ⟨⟨⟨_, rfl, Wv.refl _⟩, (by simp [pureA, pureL, pureR, inA, inL, inR, inO, idsIn, encs_pure, enxs_pure, enys_pure, valC_pure, exC_pure, tyC_pure])⟩, List.forall_mem_cons.2 ⟨⟨⟨_, rfl, Wv.refl _⟩, (by simp [pureA, pureL, pureR, inA, inL, inR, inO, idsIn, encs_pure, enxs_pure, enys_pure, valC_pure, exC_pure, tyC_pure])⟩, List.forall_mem_cons.2 ⟨⟨⟨_, rfl, (wnx h87 hl86)⟩, (by simp [pureA, pureL, pureR, inA, inL, inR, inO, idsIn, encs_pure, enxs_pure, enys_pure, valC_pure, exC_pure, tyC_pure])⟩, (fun _ h => by cases h)⟩⟩⟩⟩⟩, List.forall_mem_cons.2 ⟨⟨⟨_, rfl, ⟨rfl, ⟨Wv.refl _, Wv.refl _, trivial⟩⟩⟩, (by simp [pureA, pureL, pureR, inA, inL, inR, inO, idsIn, encs_pure, enxs_pure, enys_pure, valC_pure, exC_pure, tyC_pure])⟩, (fun _ h => by cases h)⟩⟩, ⟨hr, Nat.le_of_succ_le hm⟩, Nat.lt_succ_self _⟩
                      · replace hr := cnd_f h87 hr
                        refine AW.exit ?_
                        refine AW.seq ?_
                        refine AW.region (M := fun _ => true) ?_
                        refine AL.v good (d := 112) (v := .int .i64 1) rfl rfl rfl rfl ?_
                        refine AL.cw good (d := 113) (xs := [.int .i64 1]) (res := .agg [.int .i64 1, .sl .ro 2 (enys [])]) rfl rfl rfl rfl rfl rfl rfl (w_f121 1) ⟨(Wv.refl _), trivial⟩ (by simp [pureA, pureL, pureR, inA, inL, inR, inO, idsIn, encs_pure, enxs_pure, enys_pure, valC_pure, exC_pure, tyC_pure]) ?_
                        refine AL.st2 good (c2 := [.int .i64 1, .sl .ro 2 (enys [])]) rfl rfl rfl rfl rfl rfl rfl rfl rfl rfl rfl rfl ?_
                        refine AL.v good (d := 7) (v := .int .i64 0) rfl rfl rfl rfl ?_
                        refine AW.ret ?_
                        obtain rfl := Option.some.inj hr
                        exact RetQ.w good (.inr rfl) rfl rfl (Wv.refl _) (by simp [pureA, pureL, pureR, inA, inL, inR, inO, idsIn, encs_pure, enxs_pure, enys_pure, valC_pure, exC_pure, tyC_pure])
                  · replace hr := cnd_f h80 hr
                    refine AW.seq ?_
                    refine AW.region (M := fun _ => true) ?_
                    refine AL.sb good (d := 88) (b := (a0.data.toList == [100, 105, 118])) rfl rfl rfl rfl rfl rfl rfl ?_
                    refine AL.v good (d := 83) (v := .bool (a0.data.toList == [100, 105, 118])) rfl rfl rfl rfl ?_
                    refine AW.if rfl (fun h91 => ?_) (fun h91 => ?_)
                    · replace hr := cnd_t h91 hr
                      refine AW.skip ?_
                      refine AW.if rfl (fun h => ?_) (fun h => by cases h91.symm.trans h)
                      refine AW.seq ?_
                      refine AW.region (M := fun _ => true) ?_
                      refine AL.v good (d := 8) (v := .int .i64 1) rfl rfl rfl rfl ?_
                      refine AW.region (M := fun _ => true) ?_
                      refine AL.v good (d := 9) (v := .int .i64 1) rfl rfl rfl rfl ?_
                      refine AW.seq ?_
                      refine AW.seq ?_
                      refine AW.region (M := fun _ => true) ?_
                      refine AL.v good (d := 11) (v := .int .i64 0) rfl rfl rfl rfl ?_
                      refine AW.block ?_
                      refine AW.lens 2 rfl (fun hl97 => ?_)
                      replace hl97 : a2.length ≤ 9223372036854775807 := by rw [← enys_length a2]; exact hl97
                      refine AW.lpw (fun x : Nat × Nat => [(2, .sl .ro 2 (enys a2)), (6, .ptr 0 0), (8, .int .i64 1), (9, .int .i64 1), (11, .int .i64 (x.2 : Int))]) (fun x => [(0, .box 40 [.int .i64 0, .sl .nil 0 []])]) (fun x => s_f94_l1 x.1 a2 x.2 = some r ∧ x.1 ≤ n) (fun x => x.1) (n, 0) ⟨(fun _ h => by cases h), List.forall_mem_cons.2 ⟨⟨⟨_, rfl, Wv.refl _⟩, (by simp [pureA, pureL, pureR, inA, inL, inR, inO, idsIn, encs_pure, enxs_pure, enys_pure, valC_pure, exC_pure, tyC_pure])⟩, List.forall_mem_cons.2 ⟨⟨⟨_, rfl, Wv.refl _⟩, (by simp [pureA, pureL, pureR, inA, inL, inR, inO, idsIn, encs_pure, enxs_pure, enys_pure, valC_pure, exC_pure, tyC_pure])⟩, List.forall_mem_cons.2 ⟨⟨⟨_, rfl, Wv.refl _⟩, (by simp [pureA, pureL, pureR, inA, inL, inR, inO, idsIn, encs_pure, enxs_pure, enys_pure, valC_pure, exC_pure, tyC_pure])⟩, List.forall_mem_cons.2 ⟨⟨⟨_, rfl, Wv.refl _⟩, (by simp [pureA, pureL, pureR, inA, inL, inR, inO, idsIn, encs_pure, enxs_pure, enys_pure, valC_pure, exC_pure, tyC_pure])⟩, List.forall_mem_cons.2 ⟨⟨⟨_, rfl, Wv.refl _⟩, (by simp [pureA, pureL, pureR, inA, inL, inR, inO, idsIn, encs_pure, enxs_pure, enys_pure, valC_pure, exC_pure, tyC_pure])⟩, (fun _ h => by cases h)⟩⟩⟩⟩⟩, List.forall_mem_cons.2 ⟨⟨⟨_, rfl, ⟨rfl, ⟨Wv.refl _, Wv.refl _, trivial⟩⟩⟩, (by simp [pureA, pureL, pureR, inA, inL, inR, inO, idsIn, encs_pure, enxs_pure, enys_pure, valC_pure, exC_pure, tyC_pure])⟩, (fun _ h => by cases h)⟩⟩ ⟨hr, Nat.le_refl _⟩ (fun ⟨m, v5_1⟩ hx => ?_)
                      obtain ⟨hr, hm⟩ := hx
                      dsimp only at hr hm
                      cases m with
                      | zero => rw [s_f94_l1] at hr; cases hr
                      | succ m =>
                        rw [s_f94_l1] at hr
                        show AW Try.prog _ _ _ (mkS 114 [(2, .sl .ro 2 (enys a2)), (6, .ptr 0 0), (8, .int .i64 1), (9, .int .i64 1), (11, .int .i64 (v5_1 : Int))] [(0, .box 40 [.int .i64 0, .sl .nil 0 []])])
                        refine AW.seq ?_
                        refine AW.seq ?_
                        refine AW.region (M := fun _ => true) ?_
                        refine AL.v good (d := 98) (v := .int .i64 (v5_1 : Int)) rfl rfl rfl rfl ?_
                        refine AL.v good (d := 99) (v := .sl .ro 2 (enys a2)) rfl rfl rfl rfl ?_
                        refine AL.ln good (d := 100) (m := a2.length) rfl rfl rfl rfl rfl rfl (enys_length _) ?_
                        refine AL.v good (d := 101) (v := .bool (decide ((v5_1 : Int) < (a2.length : Int)))) rfl rfl rfl rfl ?_
                        refine AW.if rfl (fun h98 => ?_) (fun h98 => ?_)
                        · replace hr := cnd_t h98 hr
                          refine AW.skip ?_
                          refine AW.seq ?_
                          refine AW.block ?_
                          refine AW.seq ?_
                          refine AW.region (M := fun _ => true) ?_
                          refine AL.v good (d := 104) (v := .sl .ro 2 (enys a2)) rfl rfl rfl rfl ?_
                          refine AL.v good (d := 105) (v := .int .i64 (v5_1 : Int)) rfl rfl rfl rfl ?_
                          obtain ⟨x99, h100, hr⟩ := bnd1 hr
                          refine AL.ix good (d := 106) (r := [.int .i64 x99.kind, .sl .ro 2 (enys x99.of)]) rfl rfl rfl rfl rfl rfl rfl (Int.natCast_nonneg _) (enys_get h100) ?_
                          refine AL.v good (d := 107) (v := .ep [.int .i64 x99.kind, .sl .ro 2 (enys x99.of)]) rfl rfl rfl rfl ?_
                          refine AL.v good (d := 108) (v := .int .i64 x99.kind) rfl rfl rfl rfl ?_
                          refine AL.v good (d := 109) (v := .int .i64 1) rfl rfl rfl rfl ?_
                          refine AL.v good (d := 110) (v := .bool (x99.kind != 1)) rfl rfl rfl rfl ?_
                          refine AW.if rfl (fun h101 => ?_) (fun h101 => ?_)
                          · replace hr := cnd_t h101 hr
                            refine AW.seq ?_
                            refine AW.region (M := fun _ => true) ?_
                            refine AL.bld good (d := 111) (l := [.int .i64 0, .sl .nil 0 []]) rfl rfl rfl rfl rfl rfl rfl ?_
                            refine AL.st2 good (c2 := [.int .i64 0, .sl .nil 0 []]) rfl rfl rfl rfl rfl rfl rfl rfl rfl rfl rfl rfl ?_
                            refine AL.v good (d := 7) (v := .int .i64 5) rfl rfl rfl rfl ?_
                            refine AW.ret ?_
                            obtain rfl := Option.some.inj hr
                            exact RetQ.w good (.inr rfl) rfl rfl ⟨⟨Wv.refl _, ⟨.inr rfl, trivial, .inr rfl⟩, trivial⟩, Wv.refl _, trivial⟩ (by simp [pureA, pureL, pureR, inA, inL, inR, inO, idsIn, encs_pure, enxs_pure, enys_pure, valC_pure, exC_pure, tyC_pure])
                          · replace hr := cnd_f h101 hr
                            refine AW.skip ?_
                            refine AW.region (M := fun _ => true) ?_
                            refine AL.v good (d := 102) (v := .int .i64 (v5_1 : Int)) rfl rfl rfl rfl ?_
                            refine AL.v good (d := 103) (v := .int .i64 (IntKind.i64.wrap ((v5_1 : Int) + 1))) rfl rfl rfl rfl ?_
                            refine AL.v good (d := 11) (v := .int .i64 (IntKind.i64.wrap ((v5_1 : Int) + 1))) rfl rfl rfl rfl ?_
                            exact ⟨(m, (v5_1 + 1)), _, _, rfl, ⟨(fun _ h => by cases h), List.forall_mem_cons.2 ⟨⟨⟨_, rfl, Wv.refl _⟩, (by simp [pureA, pureL, pureR, inA, inL, inR, inO, idsIn, encs_pure, enxs_pure, enys_pure, valC_pure, exC_pure, tyC_pure])⟩, List.forall_mem_cons.2 ⟨⟨⟨_, rfl, Wv.refl _⟩, (by simp [pureA, pureL, pureR, inA, inL, inR, inO, idsIn, encs_pure, enxs_pure, enys_pure, valC_pure, exC_pure, tyC_pure])⟩, List.forall_mem_cons.2 ⟨⟨⟨_, rfl, Wv.refl _⟩, (by simp [pureA, pureL, pureR, inA, inL, inR, inO, idsIn, encs_pure, enxs_pure, enys_pure, valC_pure, exC_pure, tyC_pure])⟩, List.forall_mem_cons.2 ⟨⟨⟨_, rfl, Wv.refl _⟩, (by simp [pureA, pureL, pureR, inA, inL, inR, inO, idsIn, encs_pure, enxs_pure, enys_pure, valC_pure, exC_pure, tyC_pure])⟩, List.forall_mem_cons.2 ⟨⟨⟨_, rfl, (wnx h98 hl97)⟩, (by simp [pureA, pureL, pureR, inA, inL, inR, inO, idsIn, encs_pure, enxs_pure, enys_pure, valC_pure, exC_pure, tyC_pure])⟩, (fun _ h => by cases h)⟩⟩⟩⟩⟩, List.forall_mem_cons.2 ⟨⟨⟨_, rfl, ⟨rfl, ⟨Wv.refl _, Wv.refl _, trivial⟩⟩⟩, (by simp [pureA, pureL, pureR, inA, inL, inR, inO, idsIn, encs_pure, enxs_pure, enys_pure, valC_pure, exC_pure, tyC_pure])⟩, (fun _ h => by cases h)⟩⟩, ⟨hr, Nat.le_of_succ_le hm⟩, Nat.lt_succ_self _⟩
                        · replace hr := cnd_f h98 hr
                          refine AW.exit ?_
                          refine AW.seq ?_
                          refine AW.region (M := fun _ => true) ?_
                          refine AL.v good (d := 112) (v := .int .i64 1) rfl rfl rfl rfl ?_
                          refine AL.cw good (d := 113) (xs := [.int .i64 1]) (res := .agg [.int .i64 1, .sl .ro 2 (enys [])]) rfl rfl rfl rfl rfl rfl rfl (w_f121 1) ⟨(Wv.refl _), trivial⟩ (by simp [pureA, pureL, pureR, inA, inL, inR, inO, idsIn, encs_pure, enxs_pure, enys_pure, valC_pure, exC_pure, tyC_pure]) ?_
                          refine AL.st2 good (c2 := [.int .i64 1, .sl .ro 2 (enys [])]) rfl rfl rfl rfl rfl rfl rfl rfl rfl rfl rfl rfl ?_
                          refine AL.v good (d := 7) (v := .int .i64 0) rfl rfl rfl rfl ?_
                          refine AW.ret ?_
                          obtain rfl := Option.some.inj hr
                          exact RetQ.w good (.inr rfl) rfl rfl (Wv.refl _) (by simp [pureA, pureL, pureR, inA, inL, inR, inO, idsIn, encs_pure, enxs_pure, enys_pure, valC_pure, exC_pure, tyC_pure])
                    · replace hr := cnd_f h91 hr
                      refine AW.region (M := fun _ => true) ?_
                      refine AL.sb good (d := 89) (b := (a0.data.toList == [114, 101, 109])) rfl rfl rfl rfl rfl rfl rfl ?_
                      refine AL.v good (d := 83) (v := .bool (a0.data.toList == [114, 101, 109])) rfl rfl rfl rfl ?_
                      refine AW.if rfl (fun h102 => ?_) (fun h102 => ?_)
                      · replace hr := cnd_t h102 hr
                        refine AW.seq ?_
                        refine AW.region (M := fun _ => true) ?_
                        refine AL.v good (d := 8) (v := .int .i64 1) rfl rfl rfl rfl ?_
                        refine AW.region (M := fun _ => true) ?_
                        refine AL.v good (d := 9) (v := .int .i64 1) rfl rfl rfl rfl ?_
                        refine AW.seq ?_
                        refine AW.seq ?_
                        refine AW.region (M := fun _ => true) ?_
                        refine AL.v good (d := 11) (v := .int .i64 0) rfl rfl rfl rfl ?_
                        refine AW.block ?_
                        refine AW.lens 2 rfl (fun hl108 => ?_)
                        replace hl108 : a2.length ≤ 9223372036854775807 := by rw [← enys_length a2]; exact hl108
                        refine AW.lpw (fun x : Nat × Nat => [(2, .sl .ro 2 (enys a2)), (6, .ptr 0 0), (8, .int .i64 1), (9, .int .i64 1), (11, .int .i64 (x.2 : Int))]) (fun x => [(0, .box 40 [.int .i64 0, .sl .nil 0 []])]) (fun x => s_f94_l1 x.1 a2 x.2 = some r ∧ x.1 ≤ n) (fun x => x.1) (n, 0) ⟨(fun _ h => by cases h), List.forall_mem_cons.2 ⟨⟨⟨_, rfl, Wv.refl _⟩, (by simp [pureA, pureL, pureR, inA, inL, inR, inO, idsIn, encs_pure, enxs_pure, enys_pure, valC_pure, exC_pure, tyC_pure])⟩, List.forall_mem_cons.2 ⟨⟨⟨_, rfl, Wv.refl _⟩, (by simp [pureA, pureL, pureR, inA, inL, inR, inO, idsIn, encs_pure, enxs_pure, enys_pure, valC_pure, exC_pure, tyC_pure])⟩, List.forall_mem_cons.2 ⟨⟨⟨_, rfl, Wv.refl _⟩, (by simp [pureA, pureL, pureR, inA, inL, inR, inO, idsIn, encs_pure, enxs_pure, enys_pure, valC_pure, exC_pure, tyC_pure])⟩, List.forall_mem_cons.2 ⟨⟨⟨_, rfl, Wv.refl _⟩, (by simp [pureA, pureL, pureR, inA, inL, inR, inO, idsIn, encs_pure, enxs_pure, enys_pure, valC_pure, exC_pure, tyC_pure])⟩, List.forall_mem_cons.2 ⟨⟨⟨_, rfl, Wv.refl _⟩, (by simp [pureA, pureL, pureR, inA, inL, inR, inO, idsIn, encs_pure, enxs_pure, enys_pure, valC_pure, exC_pure, tyC_pure])⟩, (fun _ h => by cases h)⟩⟩⟩⟩⟩, List.forall_mem_cons.2 ⟨⟨⟨_, rfl, ⟨rfl, ⟨Wv.refl _, Wv.refl _, trivial⟩⟩⟩, (by simp [pureA, pureL, pureR, inA, inL, inR, inO, idsIn, encs_pure, enxs_pure, enys_pure, valC_pure, exC_pure, tyC_pure])⟩, (fun _ h => by cases h)⟩⟩ ⟨hr, Nat.le_refl _⟩ (fun ⟨m, v6_1⟩ hx => ?_)
                        obtain ⟨hr, hm⟩ := hx
                        dsimp only at hr hm
                        cases m with
                        | zero => rw [s_f94_l1] at hr; cases hr
                        | succ m =>
                          rw [s_f94_l1] at hr
                          show AW Try.prog _ _ _ (mkS 114 [(2, .sl .ro 2 (enys a2)), (6, .ptr 0 0), (8, .int .i64 1), (9, .int .i64 1), (11, .int .i64 (v6_1 : Int))] [(0, .box 40 [.int .i64 0, .sl .nil 0 []])])
                          refine AW.seq ?_
                          refine AW.seq ?_
                          refine AW.region (M := fun _ => true) ?_
                          refine AL.v good (d := 98) (v := .int .i64 (v6_1 : Int)) rfl rfl rfl rfl ?_
                          refine AL.v good (d := 99) (v := .sl .ro 2 (enys a2)) rfl rfl rfl rfl ?_
                          refine AL.ln good (d := 100) (m := a2.length) rfl rfl rfl rfl rfl rfl (enys_length _) ?_
                          refine AL.v good (d := 101) (v := .bool (decide ((v6_1 : Int) < (a2.length : Int)))) rfl rfl rfl rfl ?_
                          refine AW.if rfl (fun h109 => ?_) (fun h109 => ?_)
                          · replace hr := cnd_t h109 hr
                            refine AW.skip ?_
                            refine AW.seq ?_
                            refine AW.block ?_
                            refine AW.seq ?_
                            refine AW.region (M := fun _ => true) ?_
                            refine AL.v good (d := 104) (v := .sl .ro 2 (enys a2)) rfl rfl rfl rfl ?_
                            refine AL.v good (d := 105) (v := .int .i64 (v6_1 : Int)) rfl rfl rfl rfl ?_
                            obtain ⟨x110, h111, hr⟩ := bnd1 hr
                            refine AL.ix good (d := 106) (r := [.int .i64 x110.kind, .sl .ro 2 (enys x110.of)]) rfl rfl rfl rfl rfl rfl rfl (Int.natCast_nonneg _) (enys_get h111) ?_
                            refine AL.v good (d := 107) (v := .ep [.int .i64 x110.kind, .sl .ro 2 (enys x110.of)]) rfl rfl rfl rfl ?_
                            refine AL.v good (d := 108) (v := .int .i64 x110.kind) rfl rfl rfl rfl ?_
                            refine AL.v good (d := 109) (v := .int .i64 1) rfl rfl rfl rfl ?_
                            refine AL.v good (d := 110) (v := .bool (x110.kind != 1)) rfl rfl rfl rfl ?_
                            refine AW.if rfl (fun h112 => ?_) (fun h112 => ?_)
                            · replace hr := cnd_t h112 hr
                              refine AW.seq ?_
                              refine AW.region (M := fun _ => true) ?_
                              refine AL.bld good (d := 111) (l := [.int .i64 0, .sl .nil 0 []]) rfl rfl rfl rfl rfl rfl rfl ?_
                              refine AL.st2 good (c2 := [.int .i64 0, .sl .nil 0 []]) rfl rfl rfl rfl rfl rfl rfl rfl rfl rfl rfl rfl ?_
                              refine AL.v good (d := 7) (v := .int .i64 5) rfl rfl rfl rfl ?_
                              refine AW.ret ?_
                              obtain rfl := Option.some.inj hr
                              exact RetQ.w good (.inr rfl) rfl rfl ⟨⟨Wv.refl _, ⟨.inr rfl, trivial, .inr rfl⟩, trivial⟩, Wv.refl _, trivial⟩ (by simp [pureA, pureL, pureR, inA, inL, inR, inO, idsIn, encs_pure, enxs_pure, enys_pure, valC_pure, exC_pure, tyC_pure])
                            · replace hr := cnd_f h112 hr
                              refine AW.skip ?_
                              refine AW.region (M := fun _ => true) ?_
                              refine AL.v good (d := 102) (v := .int .i64 (v6_1 : Int)) rfl rfl rfl rfl ?_
                              refine AL.v good (d := 103) (v := .int .i64 (IntKind.i64.wrap ((v6_1 : Int) + 1))) rfl rfl rfl rfl ?_
                              refine AL.v good (d := 11) (v := .int .i64 (IntKind.i64.wrap ((v6_1 : Int) + 1))) rfl rfl rfl rfl ?_
                              exact ⟨(m, (v6_1 + 1)), _, _, rfl, ⟨(fun _ h => by cases h), List.forall_mem_cons.2 ⟨⟨⟨_, rfl, Wv.refl _⟩, (by simp [pureA, pureL, pureR, inA, inL, inR, inO, idsIn, encs_pure, enxs_pure, enys_pure, valC_pure, exC_pure, tyC_pure])⟩, List.forall_mem_cons.2 ⟨⟨⟨_, rfl, Wv.refl _⟩, (by simp [pureA, pureL, pureR, inA, inL, inR, inO, idsIn, encs_pure, enxs_pure, enys_pure, valC_pure, exC_pure, tyC_pure])⟩, List.forall_mem_cons.2 ⟨⟨⟨_, rfl, Wv.refl _⟩, (by simp [pureA, pureL, pureR, inA, inL, inR, inO, idsIn, encs_pure, enxs_pure, enys_pure, valC_pure, exC_pure, tyC_pure])⟩, List.forall_mem_cons.2 ⟨⟨⟨_, rfl, Wv.refl _⟩, (by simp [pureA, pureL, pureR, inA, inL, inR, inO, idsIn, encs_pure, enxs_pure, enys_pure, valC_pure, exC_pure, tyC_pure])⟩, List.forall_mem_cons.2 ⟨⟨⟨_, rfl, (wnx h109 hl108)⟩, (by simp [pureA, pureL, pureR, inA, inL, inR, inO, idsIn, encs_pure, enxs_pure, enys_pure, valC_pure, exC_pure, tyC_pure])⟩, (fun _ h => by cases h)⟩⟩⟩⟩⟩, List.forall_mem_cons.2 ⟨⟨⟨_, rfl, ⟨rfl, ⟨Wv.refl _, Wv.refl _, trivial⟩⟩⟩, (by simp [pureA, pureL, pureR, inA, inL, inR, inO, idsIn, encs_pure, enxs_pure, enys_pure, valC_pure, exC_pure, tyC_pure])⟩, (fun _ h => by cases h)⟩⟩, ⟨hr, Nat.le_of_succ_le hm⟩, Nat.lt_succ_self _⟩
                          · replace hr := cnd_f h109 hr
                            refine AW.exit ?_
                            refine AW.seq ?_
                            refine AW.region (M := fun _ => true) ?_
                            refine AL.v good (d := 112) (v := .int .i64 1) rfl rfl rfl rfl ?_
                            refine AL.cw good (d := 113) (xs := [.int .i64 1]) (res := .agg [.int .i64 1, .sl .ro 2 (enys [])]) rfl rfl rfl rfl rfl rfl rfl (w_f121 1) ⟨(Wv.refl _), trivial⟩ (by simp [pureA, pureL, pureR, inA, inL, inR, inO, idsIn, encs_pure, enxs_pure, enys_pure, valC_pure, exC_pure, tyC_pure]) ?_
                            refine AL.st2 good (c2 := [.int .i64 1, .sl .ro 2 (enys [])]) rfl rfl rfl rfl rfl rfl rfl rfl rfl rfl rfl rfl ?_
                            refine AL.v good (d := 7) (v := .int .i64 0) rfl rfl rfl rfl ?_
                            refine AW.ret ?_
                            obtain rfl := Option.some.inj hr
                            exact RetQ.w good (.inr rfl) rfl rfl (Wv.refl _) (by simp [pureA, pureL, pureR, inA, inL, inR, inO, idsIn, encs_pure, enxs_pure, enys_pure, valC_pure, exC_pure, tyC_pure])
                      · replace hr := cnd_f h102 hr
                        refine AW.seq ?_
                        refine AW.seq ?_
                        refine AW.region (M := fun _ => true) ?_
                        refine AL.sb good (d := 91) (b := (a0.data.toList == [110, 111, 116])) rfl rfl rfl rfl rfl rfl rfl ?_
                        refine AL.v good (d := 90) (v := .bool (a0.data.toList == [110, 111, 116])) rfl rfl rfl rfl ?_
                        refine AW.if rfl (fun h113 => ?_) (fun h113 => ?_)
                        · replace hr := cnd_t h113 hr
                          refine AW.skip ?_
                          refine AW.if rfl (fun h => ?_) (fun h => by cases h113.symm.trans h)
                          refine AW.seq ?_
                          refine AW.region (M := fun _ => true) ?_
                          refine AL.v good (d := 8) (v := .int .i64 2) rfl rfl rfl rfl ?_
                          refine AW.region (M := fun _ => true) ?_
                          refine AL.v good (d := 9) (v := .int .i64 2) rfl rfl rfl rfl ?_
                          refine AW.seq ?_
                          refine AW.seq ?_
                          refine AW.region (M := fun _ => true) ?_
                          refine AL.v good (d := 11) (v := .int .i64 0) rfl rfl rfl rfl ?_
                          refine AW.block ?_
                          refine AW.lens 2 rfl (fun hl119 => ?_)
                          replace hl119 : a2.length ≤ 9223372036854775807 := by rw [← enys_length a2]; exact hl119
                          refine AW.lpw (fun x : Nat × Nat => [(2, .sl .ro 2 (enys a2)), (6, .ptr 0 0), (8, .int .i64 2), (9, .int .i64 2), (11, .int .i64 (x.2 : Int))]) (fun x => [(0, .box 40 [.int .i64 0, .sl .nil 0 []])]) (fun x => s_f94_l7 x.1 a2 x.2 = some r ∧ x.1 ≤ n) (fun x => x.1) (n, 0) ⟨(fun _ h => by cases h), List.forall_mem_cons.2 ⟨⟨⟨_, rfl, Wv.refl _⟩, (by simp [pureA, pureL, pureR, inA, inL, inR, inO, idsIn, encs_pure, enxs_pure, enys_pure, valC_pure, exC_pure, tyC_pure])⟩, List.forall_mem_cons.2 ⟨⟨⟨_, rfl, Wv.refl _⟩, (by simp [pureA, pureL, pureR, inA, inL, inR, inO, idsIn, encs_pure, enxs_pure, enys_pure, valC_pure, exC_pure, tyC_pure])⟩, List.forall_mem_cons.2 ⟨⟨⟨_, rfl, Wv.refl _⟩, (by simp [pureA, pureL, pureR, inA, inL, inR, inO, idsIn, encs_pure, enxs_pure, enys_pure, valC_pure, exC_pure, tyC_pure])⟩, List.forall_mem_cons.2 ⟨⟨⟨_, rfl, Wv.refl _⟩, (by simp [pureA, pureL, pureR, inA, inL, inR, inO, idsIn, encs_pure, enxs_pure, enys_pure, valC_pure, exC_pure, tyC_pure])⟩, List.forall_mem_cons.2 ⟨⟨⟨_, rfl, Wv.refl _⟩, (by simp [pureA, pureL, pureR, inA, inL, inR, inO, idsIn, encs_pure, enxs_pure, enys_pure, valC_pure, exC_pure, tyC_pure])⟩, (fun _ h => by cases h)⟩⟩⟩⟩⟩, List.forall_mem_cons.2 ⟨⟨⟨_, rfl, ⟨rfl, ⟨Wv.refl _, Wv.refl _, trivial⟩⟩⟩, (by simp [pureA, pureL, pureR, inA, inL, inR, inO, idsIn, encs_pure, enxs_pure, enys_pure, valC_pure, exC_pure, tyC_pure])⟩, (fun _ h => by cases h)⟩⟩ ⟨hr, Nat.le_refl _⟩ (fun ⟨m, v7_1⟩ hx => ?_)
                          obtain ⟨hr, hm⟩ := hx
                          dsimp only at hr hm
                          cases m with
                          | zero => rw [s_f94_l7] at hr; cases hr
                          | succ m =>
                            rw [s_f94_l7] at hr
                            show AW Try.prog _ _ _ (mkS 114 [(2, .sl .ro 2 (enys a2)), (6, .ptr 0 0), (8, .int .i64 2), (9, .int .i64 2), (11, .int .i64 (v7_1 : Int))] [(0, .box 40 [.int .i64 0, .sl .nil 0 []])])
                            refine AW.seq ?_
                            refine AW.seq ?_
                            refine AW.region (M := fun _ => true) ?_
                            refine AL.v good (d := 98) (v := .int .i64 (v7_1 : Int)) rfl rfl rfl rfl ?_
                            refine AL.v good (d := 99) (v := .sl .ro 2 (enys a2)) rfl rfl rfl rfl ?_
                            refine AL.ln good (d := 100) (m := a2.length) rfl rfl rfl rfl rfl rfl (enys_length _) ?_
                            refine AL.v good (d := 101) (v := .bool (decide ((v7_1 : Int) < (a2.length : Int)))) rfl rfl rfl rfl ?_
                            refine AW.if rfl (fun h120 => ?_) (fun h120 => ?_)
                            · replace hr := cnd_t h120 hr
                              refine AW.skip ?_
                              refine AW.seq ?_
                              refine AW.block ?_
                              refine AW.seq ?_
                              refine AW.region (M := fun _ => true) ?_
                              refine AL.v good (d := 104) (v := .sl .ro 2 (enys a2)) rfl rfl rfl rfl ?_
                              refine AL.v good (d := 105) (v := .int .i64 (v7_1 : Int)) rfl rfl rfl rfl ?_
                              obtain ⟨x121, h122, hr⟩ := bnd1 hr
                              refine AL.ix good (d := 106) (r := [.int .i64 x121.kind, .sl .ro 2 (enys x121.of)]) rfl rfl rfl rfl rfl rfl rfl (Int.natCast_nonneg _) (enys_get h122) ?_
                              refine AL.v good (d := 107) (v := .ep [.int .i64 x121.kind, .sl .ro 2 (enys x121.of)]) rfl rfl rfl rfl ?_
                              refine AL.v good (d := 108) (v := .int .i64 x121.kind) rfl rfl rfl rfl ?_
                              refine AL.v good (d := 109) (v := .int .i64 2) rfl rfl rfl rfl ?_
                              refine AL.v good (d := 110) (v := .bool (x121.kind != 2)) rfl rfl rfl rfl ?_
                              refine AW.if rfl (fun h123 => ?_) (fun h123 => ?_)
                              · replace hr := cnd_t h123 hr
                                refine AW.seq ?_
                                refine AW.region (M := fun _ => true) ?_
                                refine AL.bld good (d := 111) (l := [.int .i64 0, .sl .nil 0 []]) rfl rfl rfl rfl rfl rfl rfl ?_
                                refine AL.st2 good (c2 := [.int .i64 0, .sl .nil 0 []]) rfl rfl rfl rfl rfl rfl rfl rfl rfl rfl rfl rfl ?_
                                refine AL.v good (d := 7) (v := .int .i64 5) rfl rfl rfl rfl ?_
                                refine AW.ret ?_
                                obtain rfl := Option.some.inj hr
                                exact RetQ.w good (.inr rfl) rfl rfl ⟨⟨Wv.refl _, ⟨.inr rfl, trivial, .inr rfl⟩, trivial⟩, Wv.refl _, trivial⟩ (by simp [pureA, pureL, pureR, inA, inL, inR, inO, idsIn, encs_pure, enxs_pure, enys_pure, valC_pure, exC_pure, tyC_pure])
                              · replace hr := cnd_f h123 hr
                                refine AW.skip ?_
                                refine AW.region (M := fun _ => true) ?_
                                refine AL.v good (d := 102) (v := .int .i64 (v7_1 : Int)) rfl rfl rfl rfl ?_
                                refine AL.v good (d := 103) (v := .int .i64 (IntKind.i64.wrap ((v7_1 : Int) + 1))) rfl rfl rfl rfl ?_
                                refine AL.v good (d := 11) (v := .int .i64 (IntKind.i64.wrap ((v7_1 : Int) + 1))) rfl rfl rfl rfl ?_
                                exact ⟨(m, (v7_1 + 1)), _, _, rfl, ⟨(fun _ h => by cases h), List.forall_mem_cons.2 ⟨⟨⟨_, rfl, Wv.refl _⟩, (by simp [pureA, pureL, pureR, inA, inL, inR, inO, idsIn, encs_pure, enxs_pure, enys_pure, valC_pure, exC_pure, tyC_pure])⟩, List.forall_mem_cons.2 ⟨⟨⟨_, rfl, Wv.refl _⟩, (by simp [pureA, pureL, pureR, inA, inL, inR, inO, idsIn, encs_pure, enxs_pure, enys_pure, valC_pure, exC_pure, tyC_pure])⟩, List.forall_mem_cons.2 ⟨⟨⟨_, rfl, Wv.refl _⟩, (by simp [pureA, pureL, pureR, inA, inL, inR, inO, idsIn, encs_pure, enxs_pure, enys_pure, valC_pure, exC_pure, tyC_pure])⟩, List.forall_mem_cons.2 ⟨⟨⟨_, rfl, Wv.refl _⟩, (by simp [pureA, pureL, pureR, inA, inL, inR, inO, idsIn, encs_pure, enxs_pure, enys_pure, valC_pure, exC_pure, tyC_pure])⟩, List.forall_mem_cons.2 ⟨⟨⟨_, rfl, (wnx h120 hl119)⟩, (by simp [pureA, pureL, pureR, inA, inL, inR, inO, idsIn, encs_pure, enxs_pure, enys_pure, valC_pure, exC_pure, tyC_pure])⟩, (fun _ h => by cases h)⟩⟩⟩⟩⟩, List.forall_mem_cons.2 ⟨⟨⟨_, rfl, ⟨rfl, ⟨Wv.refl _, Wv.refl _, trivial⟩⟩⟩, (by simp [pureA, pureL, pureR, inA, inL, inR, inO, idsIn, encs_pure, enxs_pure, enys_pure, valC_pure, exC_pure, tyC_pure])⟩, (fun _ h => by cases h)⟩⟩, ⟨hr, Nat.le_of_succ_le hm⟩, Nat.lt_succ_self _⟩
                            · replace hr := cnd_f h120 hr
                              refine AW.exit ?_
                              refine AW.seq ?_
                              refine AW.region (M := fun _ => true) ?_
                              refine AL.v good (d := 112) (v := .int .i64 2) rfl rfl rfl rfl ?_
                              refine AL.cw good (d := 113) (xs := [.int .i64 2]) (res := .agg [.int .i64 2, .sl .ro 2 (enys [])]) rfl rfl rfl rfl rfl rfl rfl (w_f121 2) ⟨(Wv.refl _), trivial⟩ (by simp [pureA, pureL, pureR, inA, inL, inR, inO, idsIn, encs_pure, enxs_pure, enys_pure, valC_pure, exC_pure, tyC_pure]) ?_
                              refine AL.st2 good (c2 := [.int .i64 2, .sl .ro 2 (enys [])]) rfl rfl rfl rfl rfl rfl rfl rfl rfl rfl rfl rfl ?_
                              refine AL.v good (d := 7) (v := .int .i64 0) rfl rfl rfl rfl ?_
                              refine AW.ret ?_
                              obtain rfl := Option.some.inj hr
                              exact RetQ.w good (.inr rfl) rfl rfl (Wv.refl _) (by simp [pureA, pureL, pureR, inA, inL, inR, inO, idsIn, encs_pure, enxs_pure, enys_pure, valC_pure, exC_pure, tyC_pure])
                        · replace hr := cnd_f h113 hr
                          refine AW.seq ?_
                          refine AW.region (M := fun _ => true) ?_
                          refine AL.sb good (d := 92) (b := (a0.data.toList == [97, 110, 100])) rfl rfl rfl rfl rfl rfl rfl ?_
                          refine AL.v good (d := 90) (v := .bool (a0.data.toList == [97, 110, 100])) rfl rfl rfl rfl ?_
                          refine AW.if rfl (fun h124 => ?_) (fun h124 => ?_)
                          · replace hr := cnd_t h124 hr
                            refine AW.skip ?_
                            refine AW.if rfl (fun h => ?_) (fun h => by cases h124.symm.trans h)
                            refine AW.seq ?_
                            refine AW.region (M := fun _ => true) ?_
                            refine AL.v good (d := 8) (v := .int .i64 2) rfl rfl rfl rfl ?_
                            refine AW.region (M := fun _ => true) ?_
                            refine AL.v good (d := 9) (v := .int .i64 2) rfl rfl rfl rfl ?_
                            refine AW.seq ?_
                            refine AW.seq ?_
                            refine AW.region (M := fun _ => true) ?_
                            refine AL.v good (d := 11) (v := .int .i64 0) rfl rfl rfl rfl ?_
                            refine AW.block ?_
                            refine AW.lens 2 rfl (fun hl130 => ?_)
                            replace hl130 : a2.length ≤ 9223372036854775807 := by rw [← enys_length a2]; exact hl130
                            refine AW.lpw (fun x : Nat × Nat => [(2, .sl .ro 2 (enys a2)), (6, .ptr 0 0), (8, .int .i64 2), (9, .int .i64 2), (11, .int .i64 (x.2 : Int))]) (fun x => [(0, .box 40 [.int .i64 0, .sl .nil 0 []])]) (fun x => s_f94_l7 x.1 a2 x.2 = some r ∧ x.1 ≤ n) (fun x => x.1) (n, 0) ⟨(fun _ h => by cases h), List.forall_mem_cons.2 ⟨⟨⟨_, rfl, Wv.refl _⟩, (by simp [pureA, pureL, pureR, inA, inL, inR, inO, idsIn, encs_pure, enxs_pure, enys_pure, valC_pure, exC_pure, tyC_pure])⟩, List.forall_mem_cons.2 ⟨⟨⟨_, rfl, Wv.refl _⟩, (by simp [pureA, pureL, pureR, inA, inL, inR, inO, idsIn, encs_pure, enxs_pure, enys_pure, valC_pure, exC_pure, tyC_pure])⟩, List.forall_mem_cons.2 ⟨⟨⟨_, rfl, Wv.refl _⟩, (by simp [pureA, pureL, pureR, inA, inL, inR, inO, idsIn, encs_pure, enxs_pure, enys_pure, valC_pure, exC_pure, tyC_pure])⟩, List.forall_mem_cons.2 ⟨⟨⟨_, rfl, Wv.refl _⟩, (by simp [pureA, pureL, pureR, inA, inL, inR, inO, idsIn, encs_pure, enxs_pure, enys_pure, valC_pure, exC_pure, tyC_pure])⟩, List.forall_mem_cons.2 ⟨⟨⟨_, rfl, Wv.refl _⟩, (by simp [pureA, pureL, pureR, inA, inL, inR, inO, idsIn, encs_pure, enxs_pure, enys_pure, valC_pure, exC_pure, tyC_pure])⟩, (fun _ h => by cases h)⟩⟩⟩⟩⟩, List.forall_mem_cons.2 ⟨⟨⟨_, rfl, ⟨rfl, ⟨Wv.refl _, Wv.refl _, trivial⟩⟩⟩, (by simp [pureA, pureL, pureR, inA, inL, inR, inO, idsIn, encs_pure, enxs_pure, enys_pure, valC_pure, exC_pure, tyC_pure])⟩, (fun _ h => by cases h)⟩⟩ ⟨hr, Nat.le_refl _⟩ (fun ⟨m, v8_1⟩ hx => ?_)
                            obtain ⟨hr, hm⟩ := hx
                            dsimp only at hr hm
                            cases m with
                            | zero => rw [s_f94_l7] at hr; cases hr
                            | succ m =>
                              rw [s_f94_l7] at hr
                              show AW Try.prog _ _ _ (mkS 114 [(2, .sl .ro 2 (enys a2)), (6, .ptr 0 0), (8, .int .i64 2), (9, .int .i64 2), (11, .int .i64 (v8_1 : Int))] [(0, .box 40 [.int .i64 0, .sl .nil 0 []])])
                              refine AW.seq ?_
                              refine AW.seq ?_
                              refine AW.region (M := fun _ => true) ?_
                              refine AL.v good (d := 98) (v := .int .i64 (v8_1 : Int)) rfl rfl rfl rfl ?_
                              refine AL.v good (d := 99) (v := .sl .ro 2 (enys a2)) rfl rfl rfl rfl ?_
                              refine AL.ln good (d := 100) (m := a2.length) rfl rfl rfl rfl rfl rfl (enys_length _) ?_
                              refine AL.v good (d := 101) (v := .bool (decide ((v8_1 : Int) < (a2.length : Int)))) rfl rfl rfl rfl ?_
                              refine AW.if rfl (fun h131 => ?_) (fun h131 => ?_)
                              · replace hr := cnd_t h131 hr
                                refine AW.skip ?_
                                refine AW.seq ?_
                                refine AW.block ?_
                                refine AW.seq ?_
                                refine AW.region (M := fun _ => true) ?_
                                refine AL.v good (d := 104) (v := .sl .ro 2 (enys a2)) rfl rfl rfl rfl ?_
                                refine AL.v good (d := 105) (v := .int .i64 (v8_1 : Int)) rfl rfl rfl rfl ?_
                                obtain ⟨x132, h133, hr⟩ := bnd1 hr
                                refine AL.ix good (d := 106) (r := [.int .i64 x132.kind, .sl .ro 2 (enys x132.of)]) rfl rfl rfl rfl rfl rfl rfl (Int.natCast_nonneg _) (enys_get h133) ?_
                                refine AL.v good (d := 107) (v := .ep [.int .i64 x132.kind, .sl .ro 2 (enys x132.of)]) rfl rfl rfl rfl ?_
                                refine AL.v good (d := 108) (v := .int .i64 x132.kind) rfl rfl rfl rfl ?_
                                refine AL.v good (d := 109) (v := .int .i64 2) rfl rfl rfl rfl ?_
                                refine AL.v good (d := 110) (v := .bool (x132.kind != 2)) rfl rfl rfl rfl ?_
                                refine AW.if rfl (fun h134 => ?_) (fun h134 => ?_)
                                · replace hr := cnd_t h134 hr
                                  refine AW.seq ?_
                                  refine AW.region (M := fun _ => true) ?_
                                  refine AL.bld good (d := 111) (l := [.int .i64 0, .sl .nil 0 []]) rfl rfl rfl rfl rfl rfl rfl ?_
                                  refine AL.st2 good (c2 := [.int .i64 0, .sl .nil 0 []]) rfl rfl rfl rfl rfl rfl rfl rfl rfl rfl rfl rfl ?_
                                  refine AL.v good (d := 7) (v := .int .i64 5) rfl rfl rfl rfl ?_
                                  refine AW.ret ?_
                                  obtain rfl := Option.some.inj hr
                                  exact RetQ.w good (.inr rfl) rfl rfl ⟨⟨Wv.refl _, ⟨.inr rfl, trivial, .inr rfl⟩, trivial⟩, Wv.refl _, trivial⟩ (by simp [pureA, pureL, pureR, inA, inL, inR, inO, idsIn, encs_pure, enxs_pure, enys_pure, valC_pure, exC_pure, tyC_pure])
                                · replace hr := cnd_f h134 hr
                                  refine AW.skip ?_
                                  refine AW.region (M := fun _ => true) ?_
                                  refine AL.v good (d := 102) (v := .int .i64 (v8_1 : Int)) rfl rfl rfl rfl ?_
                                  refine AL.v good (d := 103) (v := .int .i64 (IntKind.i64.wrap ((v8_1 : Int) + 1))) rfl rfl rfl rfl ?_
                                  refine AL.v good (d := 11) (v := .int .i64 (IntKind.i64.wrap ((v8_1 : Int) + 1))) rfl rfl rfl rfl ?_
                                  exact ⟨(m, (v8_1 + 1)), _, _, rfl, ⟨(fun _ h => by cases h), List.forall_mem_cons.2 ⟨⟨⟨_, rfl, Wv.refl _⟩, (by simp [pureA, pureL, pureR, inA, inL, inR, inO, idsIn, encs_pure, enxs_pure, enys_pure, valC_pure, exC_pure, tyC_pure])⟩, List.forall_mem_cons.2 ⟨⟨⟨_, rfl, Wv.refl _⟩, (by simp [pureA, pureL, pureR, inA, inL, inR, inO, idsIn, encs_pure, enxs_pure, enys_pure, valC_pure, exC_pure, tyC_pure])⟩, List.forall_mem_cons.2 ⟨⟨⟨_, rfl, Wv.refl _⟩, (by simp [pureA, pureL, pureR, inA, inL, inR, inO, idsIn, encs_pure, enxs_pure, enys_pure, valC_pure, exC_pure, tyC_pure])⟩, List.forall_mem_cons.2 ⟨⟨⟨_, rfl, Wv.refl _⟩, (by simp [pureA, pureL, pureR, inA, inL, inR, inO, idsIn, encs_pure, enxs_pure, enys_pure, valC_pure, exC_pure, tyC_pure])⟩, List.forall_mem_cons.2 ⟨⟨⟨_, rfl, (wnx h131 hl130)⟩, (by simp [pureA, pureL, pureR, inA, inL, inR, inO, idsIn, encs_pure, enxs_pure, enys_pure, valC_pure, exC_pure, tyC_pure])⟩, (fun _ h => by cases h)⟩⟩⟩⟩⟩, List.forall_mem_cons.2 ⟨⟨⟨_, rfl, ⟨rfl, ⟨Wv.refl _, Wv.refl _, trivial⟩⟩⟩, (by simp [pureA, pureL, pureR, inA, inL, inR, inO, idsIn, encs_pure, enxs_pure, enys_pure, valC_pure, exC_pure, tyC_pure])⟩, (fun _ h => by cases h)⟩⟩, ⟨hr, Nat.le_of_succ_le hm⟩, Nat.lt_succ_self _⟩
                              · replace hr := cnd_f h131 hr
                                refine AW.exit ?_
                                refine AW.seq ?_
                                refine AW.region (M := fun _ => true) ?_
                                refine AL.v good (d := 112) (v := .int .i64 2) rfl rfl rfl rfl ?_
                                refine AL.cw good (d := 113) (xs := [.int .i64 2]) (res := .agg [.int .i64 2, .sl .ro 2 (enys [])]) rfl rfl rfl rfl rfl rfl rfl (w_f121 2) ⟨(Wv.refl _), trivial⟩ (by simp [pureA, pureL, pureR, inA, inL, inR, inO, idsIn, encs_pure, enxs_pure, enys_pure, valC_pure, exC_pure, tyC_pure]) ?_
                                refine AL.st2 good (c2 := [.int .i64 2, .sl .ro 2 (enys [])]) rfl rfl rfl rfl rfl rfl rfl rfl rfl rfl rfl rfl ?_
                                refine AL.v good (d := 7) (v := .int .i64 0) rfl rfl rfl rfl ?_
                                refine AW.ret ?_
                                obtain rfl := Option.some.inj hr
                                exact RetQ.w good (.inr rfl) rfl rfl (Wv.refl _) (by simp [pureA, pureL, pureR, inA, inL, inR, inO, idsIn, encs_pure, enxs_pure, enys_pure, valC_pure, exC_pure, tyC_pure])
                          · replace hr := cnd_f h124 hr
                            refine AW.region (M := fun _ => true) ?_
                            refine AL.sb good (d := 93) (b := (a0.data.toList == [111, 114])) rfl rfl rfl rfl rfl rfl rfl ?_
                            refine AL.v good (d := 90) (v := .bool (a0.data.toList == [111, 114])) rfl rfl rfl rfl ?_
                            refine AW.if rfl (fun h135 => ?_) (fun h135 => ?_)
                            · replace hr := cnd_t h135 hr
                              refine AW.seq ?_
                              refine AW.region (M := fun _ => true) ?_
                              refine AL.v good (d := 8) (v := .int .i64 2) rfl rfl rfl rfl ?_
                              refine AW.region (M := fun _ => true) ?_
                              refine AL.v good (d := 9) (v := .int .i64 2) rfl rfl rfl rfl ?_
                              refine AW.seq ?_
                              refine AW.seq ?_
                              refine AW.region (M := fun _ => true) ?_
                              refine AL.v good (d := 11) (v := .int .i64 0) rfl rfl rfl rfl ?_
                              refine AW.block ?_
                              refine AW.lens 2 rfl (fun hl141 => ?_)
                              replace hl141 : a2.length ≤ 9223372036854775807 := by rw [← enys_length a2]; exact hl141
                              refine AW.lpw (fun x : Nat × Nat => [(2, .sl .ro 2 (enys a2)), (6, .ptr 0 0), (8, .int .i64 2), (9, .int .i64 2), (11, .int .i64 (x.2 : Int))]) (fun x => [(0, .box 40 [.int .i64 0, .sl .nil 0 []])]) (fun x => s_f94_l7 x.1 a2 x.2 = some r ∧ x.1 ≤ n) (fun x => x.1) (n, 0) ⟨(fun _ h => by cases h), List.forall_mem_cons.2 ⟨⟨⟨_, rfl, Wv.refl _⟩, (by simp [pureA, pureL, pureR, inA, inL, inR, inO, idsIn, encs_pure, enxs_pure, enys_pure, valC_pure, exC_pure, tyC_pure])⟩, List.forall_mem_cons.2 ⟨⟨⟨_, rfl, Wv.refl _⟩, (by simp [pureA, pureL, pureR, inA, inL, inR, inO, idsIn, encs_pure, enxs_pure, enys_pure, valC_pure, exC_pure, tyC_pure])⟩, List.forall_mem_cons.2 ⟨⟨⟨_, rfl, Wv.refl _⟩, (by simp [pureA, pureL, pureR, inA, inL, inR, inO, idsIn, encs_pure, enxs_pure, enys_pure, valC_pure, exC_pure, tyC_pure])⟩, List.forall_mem_cons.2 ⟨⟨⟨_, rfl, Wv.refl _⟩, (by simp [pureA, pureL, pureR, inA, inL, inR, inO, idsIn, encs_pure, enxs_pure, enys_pure, valC_pure, exC_pure, tyC_pure])⟩, List.forall_mem_cons.2 ⟨⟨⟨_, rfl, Wv.refl _⟩, (by simp [pureA, pureL, pureR, inA, inL, inR, inO, idsIn, encs_pure, enxs_pure, enys_pure, valC_pure, exC_pure, tyC_pure])⟩, (fun _ h => by cases h)⟩⟩⟩⟩⟩, List.forall_mem_cons.2 ⟨⟨⟨_, rfl, ⟨rfl, ⟨Wv.refl _, Wv.refl _, trivial⟩⟩⟩, (by simp [pureA, pureL, pureR, inA, inL, inR, inO, idsIn, encs_pure, enxs_pure, enys_pure, valC_pure, exC_pure, tyC_pure])⟩, (fun _ h => by cases h)⟩⟩ ⟨hr, Nat.le_refl _⟩ (fun ⟨m, v9_1⟩ hx => ?_)
                              obtain ⟨hr, hm⟩ := hx
                              dsimp only at hr hm
                              cases m with
                              | zero => rw [s_f94_l7] at hr; cases hr
                              | succ m =>
                                rw [s_f94_l7] at hr
                                show AW Try.prog _ _ _ (mkS 114 [(2, .sl .ro 2 (enys a2)), (6, .ptr 0 0), (8, .int .i64 2), (9, .int .i64 2), (11, .int .i64 (v9_1 : Int))] [(0, .box 40 [.int .i64 0, .sl .nil 0 []])])
                                refine AW.seq ?_
                                refine AW.seq ?_
                                refine AW.region (M := fun _ => true) ?_
                                refine AL.v good (d := 98) (v := .int .i64 (v9_1 : Int)) rfl rfl rfl rfl ?_
                                refine AL.v good (d := 99) (v := .sl .ro 2 (enys a2)) rfl rfl rfl rfl ?_
                                refine AL.ln good (d := 100) (m := a2.length) rfl rfl rfl rfl rfl rfl (enys_length _) ?_
                                refine AL.v good (d := 101) (v := .bool (decide ((v9_1 : Int) < (a2.length : Int)))) rfl rfl rfl rfl ?_
                                refine AW.if rfl (fun h142 => ?_) (fun h142 => ?_)
                                · replace hr := cnd_t h142 hr
                                  refine AW.skip ?_
                                  refine AW.seq ?_
                                  refine AW.block ?_
                                  refine AW.seq ?_
                                  refine AW.region (M := fun _ => true) ?_
                                  refine AL.v good (d := 104) (v := .sl .ro 2 (enys a2)) rfl rfl rfl rfl ?_
                                  refine AL.v good (d := 105) (v := .int .i64 (v9_1 : Int)) rfl rfl rfl rfl ?_
                                  obtain ⟨x143, h144, hr⟩ := bnd1 hr
                                  refine AL.ix good (d := 106) (r := [.int .i64 x143.kind, .sl .ro 2 (enys x143.of)]) rfl rfl rfl rfl rfl rfl rfl (Int.natCast_nonneg _) (enys_get h144) ?_
                                  refine AL.v good (d := 107) (v := .ep [.int .i64 x143.kind, .sl .ro 2 (enys x143.of)]) rfl rfl rfl rfl ?_
                                  refine AL.v good (d := 108) (v := .int .i64 x143.kind) rfl rfl rfl rfl ?_
                                  refine AL.v good (d := 109) (v := .int .i64 2) rfl rfl rfl rfl ?_
                                  refine AL.v good (d := 110) (v := .bool (x143.kind != 2)) rfl rfl rfl rfl ?_
                                  refine AW.if rfl (fun h145 => ?_) (fun h145 => ?_)
                                  · replace hr := cnd_t h145 hr
                                    refine AW.seq ?_
                                    refine AW.region (M := fun _ => true) ?_
                                    refine AL.bld good (d := 111) (l := [.int .i64 0, .sl .nil 0 []]) rfl rfl rfl rfl rfl rfl rfl ?_
                                    refine AL.st2 good (c2 := [.int .i64 0, .sl .nil 0 []]) rfl rfl rfl rfl rfl rfl rfl rfl rfl rfl rfl rfl ?_
                                    refine AL.v good (d := 7) (v := .int .i64 5) rfl rfl rfl rfl ?_
                                    refine AW.ret ?_
                                    obtain rfl := Option.some.inj hr
                                    exact RetQ.w good (.inr rfl) rfl rfl ⟨⟨Wv.refl _, ⟨.inr rfl, trivial, .inr rfl⟩, trivial⟩, Wv.refl _, trivial⟩ (by simp [pureA, pureL, pureR, inA, inL, inR, inO, idsIn, encs_pure, enxs_pure, enys_pure, valC_pure, exC_pure, tyC_pure])
                                  · replace hr := cnd_f h145 hr
                                    refine AW.skip ?_
                                    refine AW.region (M := fun _ => true) ?_
                                    refine AL.v good (d := 102) (v := .int .i64 (v9_1 : Int)) rfl rfl rfl rfl ?_
                                    refine AL.v good (d := 103) (v := .int .i64 (IntKind.i64.wrap ((v9_1 : Int) + 1))) rfl rfl rfl rfl ?_
                                    refine AL.v good (d := 11) (v := .int .i64 (IntKind.i64.wrap ((v9_1 : Int) + 1))) rfl rfl rfl rfl ?_
                                    exact ⟨(m, (v9_1 + 1)), _, _, rfl, ⟨(fun _ h => by cases h), List.forall_mem_cons.2 ⟨⟨⟨_, rfl, Wv.refl _⟩, (by simp [pureA, pureL, pureR, inA, inL, inR, inO, idsIn, encs_pure, enxs_pure, enys_pure, valC_pure, exC_pure, tyC_pure])⟩, List.forall_mem_cons.2 ⟨⟨⟨_, rfl, Wv.refl _⟩, (by simp [pureA, pureL, pureR, inA, inL, inR, inO, idsIn, encs_pure, enxs_pure, enys_pure, valC_pure, exC_pure, tyC_pure])⟩, List.forall_mem_cons.2 ⟨⟨⟨_, rfl, Wv.refl _⟩, (by simp [pureA, pureL, pureR, inA, inL, inR, inO, idsIn, encs_pure, enxs_pure, enys_pure, valC_pure, exC_pure, tyC_pure])⟩, List.forall_mem_cons.2 ⟨⟨⟨_, rfl, Wv.refl _⟩, (by simp [pureA, pureL, pureR, inA, inL, inR, inO, idsIn, encs_pure, enxs_pure, enys_pure, valC_pure, exC_pure, tyC_pure])⟩, List.forall_mem_cons.2 ⟨⟨⟨_, rfl, (wnx h142 hl141)⟩, (by simp [pureA, pureL, pureR, inA, inL, inR, inO, idsIn, encs_pure, enxs_pure, enys_pure, valC_pure, exC_pure, tyC_pure])⟩, (fun _ h => by cases h)⟩⟩⟩⟩⟩, List.forall_mem_cons.2 ⟨⟨⟨_, rfl, ⟨rfl, ⟨Wv.refl _, Wv.refl _, trivial⟩⟩⟩, (by simp [pureA, pureL, pureR, inA, inL, inR, inO, idsIn, encs_pure, enxs_pure, enys_pure, valC_pure, exC_pure, tyC_pure])⟩, (fun _ h => by cases h)⟩⟩, ⟨hr, Nat.le_of_succ_le hm⟩, Nat.lt_succ_self _⟩
                                · replace hr := cnd_f h142 hr
                                  refine AW.exit ?_
                                  refine AW.seq ?_
                                  refine AW.region (M := fun _ => true) ?_
                                  refine AL.v good (d := 112) (v := .int .i64 2) rfl rfl rfl rfl ?_
                                  refine AL.cw good (d := 113) (xs := [.int .i64 2]) (res := .agg [.int .i64 2, .sl .ro 2 (enys [])]) rfl rfl rfl rfl rfl rfl rfl (w_f121 2) ⟨(Wv.refl _), trivial⟩ (by simp [pureA, pureL, pureR, inA, inL, inR, inO, idsIn, encs_pure, enxs_pure, enys_pure, valC_pure, exC_pure, tyC_pure]) ?_
                                  refine AL.st2 good (c2 := [.int .i64 2, .sl .ro 2 (enys [])]) rfl rfl rfl rfl rfl rfl rfl rfl rfl rfl rfl rfl ?_
                                  refine AL.v good (d := 7) (v := .int .i64 0) rfl rfl rfl rfl ?_
                                  refine AW.ret ?_
                                  obtain rfl := Option.some.inj hr
                                  exact RetQ.w good (.inr rfl) rfl rfl (Wv.refl _) (by simp [pureA, pureL, pureR, inA, inL, inR, inO, idsIn, encs_pure, enxs_pure, enys_pure, valC_pure, exC_pure, tyC_pure])
                            · replace hr := cnd_f h135 hr
                              refine AW.seq ?_
                              refine AW.region (M := fun _ => true) ?_
                              refine AL.sb good (d := 95) (b := (a0.data.toList == [99, 97, 116])) rfl rfl rfl rfl rfl rfl rfl ?_
                              refine AL.v good (d := 94) (v := .bool (a0.data.toList == [99, 97, 116])) rfl rfl rfl rfl ?_
                              refine AW.if rfl (fun h146 => ?_) (fun h146 => ?_)
                              · replace hr := cnd_t h146 hr
                                refine AW.seq ?_
                                refine AW.region (M := fun _ => true) ?_
                                refine AL.v good (d := 8) (v := .int .i64 3) rfl rfl rfl rfl ?_
                                refine AW.region (M := fun _ => true) ?_
                                refine AL.v good (d := 9) (v := .int .i64 3) rfl rfl rfl rfl ?_
                                refine AW.seq ?_
                                refine AW.seq ?_
                                refine AW.region (M := fun _ => true) ?_
                                refine AL.v good (d := 11) (v := .int .i64 0) rfl rfl rfl rfl ?_
                                refine AW.block ?_
                                refine AW.lens 2 rfl (fun hl152 => ?_)
                                replace hl152 : a2.length ≤ 9223372036854775807 := by rw [← enys_length a2]; exact hl152
                                refine AW.lpw (fun x : Nat × Nat => [(2, .sl .ro 2 (enys a2)), (6, .ptr 0 0), (8, .int .i64 3), (9, .int .i64 3), (11, .int .i64 (x.2 : Int))]) (fun x => [(0, .box 40 [.int .i64 0, .sl .nil 0 []])]) (fun x => s_f94_l10 x.1 a2 x.2 = some r ∧ x.1 ≤ n) (fun x => x.1) (n, 0) ⟨(fun _ h => by cases h), List.forall_mem_cons.2 ⟨⟨⟨_, rfl, Wv.refl _⟩, (by simp [pureA, pureL, pureR, inA, inL, inR, inO, idsIn, encs_pure, enxs_pure, enys_pure, valC_pure, exC_pure, tyC_pure])⟩, List.forall_mem_cons.2 ⟨⟨⟨_, rfl, Wv.refl _⟩, (by simp [pureA, pureL, pureR, inA, inL, inR, inO, idsIn, encs_pure, enxs_pure, enys_pure, valC_pure, exC_pure, tyC_pure])⟩, List.forall_mem_cons.2 ⟨⟨⟨_, rfl, Wv.refl _⟩, (by simp [pureA, pureL, pureR, inA, inL, inR, inO, idsIn, encs_pure, enxs_pure, enys_pure, valC_pure, exC_pure, tyC_pure])⟩, List.forall_mem_cons.2 ⟨⟨⟨_, rfl, Wv.refl _⟩, (by simp [pureA, pureL, pureR, inA, inL, inR, inO, idsIn, encs_pure, enxs_pure, enys_pure, valC_pure, exC_pure, tyC_pure])⟩, List.forall_mem_cons.2 ⟨⟨⟨_, rfl, Wv.refl _⟩, (by simp [pureA, pureL, pureR, inA, inL, inR, inO, idsIn, encs_pure, enxs_pure, enys_pure, valC_pure, exC_pure, tyC_pure])⟩, (fun _ h => by cases h)⟩⟩⟩⟩⟩, List.forall_mem_cons.2 ⟨⟨⟨_, rfl, ⟨rfl, ⟨Wv.refl _, Wv.refl _, trivial⟩⟩⟩, (by simp [pureA, pureL, pureR, inA, inL, inR, inO, idsIn, encs_pure, enxs_pure, enys_pure, valC_pure, exC_pure, tyC_pure])⟩, (fun _ h => by cases h)⟩⟩ ⟨hr, Nat.le_refl _⟩ (fun ⟨m, v10_1⟩ hx => ?_)
                                obtain ⟨hr, hm⟩ := hx
                                dsimp only at hr hm
                                cases m with
                                | zero => rw [s_f94_l10] at hr; cases hr
                                | succ m =>
                                  rw [s_f94_l10] at hr
                                  show AW Try.prog _ _ _ (mkS 114 [(2, .sl .ro 2 (enys a2)), (6, .ptr 0 0), (8, .int .i64 3), (9, .int .i64 3), (11, .int .i64 (v10_1 : Int))] [(0, .box 40 [.int .i64 0, .sl .nil 0 []])])
                                  refine AW.seq ?_
                                  refine AW.seq ?_
                                  refine AW.region (M := fun _ => true) ?_
                                  refine AL.v good (d := 98) (v := .int .i64 (v10_1 : Int)) rfl rfl rfl rfl ?_
                                  refine AL.v good (d := 99) (v := .sl .ro 2 (enys a2)) rfl rfl rfl rfl ?_
                                  refine AL.ln good (d := 100) (m := a2.length) rfl rfl rfl rfl rfl rfl (enys_length _) ?_
                                  refine AL.v good (d := 101) (v := .bool (decide ((v10_1 : Int) < (a2.length : Int)))) rfl rfl rfl rfl ?_
                                  refine AW.if rfl (fun h153 => ?_) (fun h153 => ?_)
                                  · replace hr := cnd_t h153 hr
                                    refine AW.skip ?_
                                    refine AW.seq ?_
                                    refine AW.block ?_
                                    refine AW.seq ?_
                                    refine AW.region (M := fun _ => true) ?_
                                    refine AL.v good (d := 104) (v := .sl .ro 2 (enys a2)) rfl rfl rfl rfl ?_
                                    refine AL.v good (d := 105) (v := .int .i64 (v10_1 : Int)) rfl rfl rfl rfl ?_
                                    obtain ⟨x154, h155, hr⟩ := bnd1 hr
                                    refine AL.ix good (d := 106) (r := [.int .i64 x154.kind, .sl .ro 2 (enys x154.of)]) rfl rfl rfl rfl rfl rfl rfl (Int.natCast_nonneg _) (enys_get h155) ?_
                                    refine AL.v good (d := 107) (v := .ep [.int .i64 x154.kind, .sl .ro 2 (enys x154.of)]) rfl rfl rfl rfl ?_
                                    refine AL.v good (d := 108) (v := .int .i64 x154.kind) rfl rfl rfl rfl ?_
                                    refine AL.v good (d := 109) (v := .int .i64 3) rfl rfl rfl rfl ?_
                                    refine AL.v good (d := 110) (v := .bool (x154.kind != 3)) rfl rfl rfl rfl ?_
                                    refine AW.if rfl (fun h156 => ?_) (fun h156 => ?_)
                                    · replace hr := cnd_t h156 hr
                                      refine AW.seq ?_
                                      refine AW.region (M := fun _ => true) ?_
                                      refine AL.bld good (d := 111) (l := [.int .i64 0, .sl .nil 0 []]) rfl rfl rfl rfl rfl rfl rfl ?_
                                      refine AL.st2 good (c2 := [.int .i64 0, .sl .nil 0 []]) rfl rfl rfl rfl rfl rfl rfl rfl rfl rfl rfl rfl ?_
                                      refine AL.v good (d := 7) (v := .int .i64 5) rfl rfl rfl rfl ?_
                                      refine AW.ret ?_
                                      obtain rfl := Option.some.inj hr
                                      exact RetQ.w good (.inr rfl) rfl rfl ⟨⟨Wv.refl _, ⟨.inr rfl, trivial, .inr rfl⟩, trivial⟩, Wv.refl _, trivial⟩ (by simp [pureA, pureL, pureR, inA, inL, inR, inO, idsIn, encs_pure, enxs_pure, enys_pure, valC_pure, exC_pure, tyC_pure])
                                    · replace hr := cnd_f h156 hr
                                      refine AW.skip ?_
                                      refine AW.region (M := fun _ => true) ?_
                                      refine AL.v good (d := 102) (v := .int .i64 (v10_1 : Int)) rfl rfl rfl rfl ?_
                                      refine AL.v good (d := 103) (v := .int .i64 (IntKind.i64.wrap ((v10_1 : Int) + 1))) rfl rfl rfl rfl ?_
                                      refine AL.v good (d := 11) (v := .int .i64 (IntKind.i64.wrap ((v10_1 : Int) + 1))) rfl rfl rfl rfl ?_
                                      exact ⟨(m, (v10_1 + 1)), _, _, rfl, ⟨(fun _ h => by cases h), List.forall_mem_cons.2 ⟨⟨⟨_, rfl, Wv.refl _⟩, (by simp [pureA, pureL, pureR, inA, inL, inR, inO, idsIn, encs_pure, enxs_pure, enys_pure, valC_pure, exC_pure, tyC_pure])⟩, List.forall_mem_cons.2 ⟨⟨⟨_, rfl, Wv.refl _⟩, (by simp [pureA, pureL, pureR, inA, inL, inR, inO, idsIn, encs_pure, enxs_pure, enys_pure, valC_pure, exC_pure, tyC_pure])⟩, List.forall_mem_cons.2 ⟨⟨⟨_, rfl, Wv.refl _⟩, (by simp [pureA, pureL, pureR, inA, inL, inR, inO, idsIn, encs_pure, enxs_pure, enys_pure, valC_pure, exC_pure, tyC_pure])⟩, List.forall_mem_cons.2 ⟨⟨⟨_, rfl, Wv.refl _⟩, (by simp [pureA, pureL, pureR, inA, inL, inR, inO, idsIn, encs_pure, enxs_pure, enys_pure, valC_pure, exC_pure, tyC_pure])⟩, List.forall_mem_cons.2 ⟨⟨⟨_, rfl, (wnx h153 hl152)⟩, (by simp [pureA, pureL, pureR, inA, inL, inR, inO, idsIn, encs_pure, enxs_pure, enys_pure, valC_pure, exC_pure, tyC_pure])⟩, (fun _ h => by cases h)⟩⟩⟩⟩⟩, List.forall_mem_cons.2 ⟨⟨⟨_, rfl, ⟨rfl, ⟨Wv.refl _, Wv.refl _, trivial⟩⟩⟩, (by simp [pureA, pureL, pureR, inA, inL, inR, inO, idsIn, encs_pure, enxs_pure, enys_pure, valC_pure, exC_pure, tyC_pure])⟩, (fun _ h => by cases h)⟩⟩, ⟨hr, Nat.le_of_succ_le hm⟩, Nat.lt_succ_self _⟩
                                  · replace hr := cnd_f h153 hr
                                    refine AW.exit ?_
                                    refine AW.seq ?_
                                    refine AW.region (M := fun _ => true) ?_
                                    refine AL.v good (d := 112) (v := .int .i64 3) rfl rfl rfl rfl ?_
                                    refine AL.cw good (d := 113) (xs := [.int .i64 3]) (res := .agg [.int .i64 3, .sl .ro 2 (enys [])]) rfl rfl rfl rfl rfl rfl rfl (w_f121 3) ⟨(Wv.refl _), trivial⟩ (by simp [pureA, pureL, pureR, inA, inL, inR, inO, idsIn, encs_pure, enxs_pure, enys_pure, valC_pure, exC_pure, tyC_pure]) ?_
                                    refine AL.st2 good (c2 := [.int .i64 3, .sl .ro 2 (enys [])]) rfl rfl rfl rfl rfl rfl rfl rfl rfl rfl rfl rfl ?_
                                    refine AL.v good (d := 7) (v := .int .i64 0) rfl rfl rfl rfl ?_
                                    refine AW.ret ?_
                                    obtain rfl := Option.some.inj hr
                                    exact RetQ.w good (.inr rfl) rfl rfl (Wv.refl _) (by simp [pureA, pureL, pureR, inA, inL, inR, inO, idsIn, encs_pure, enxs_pure, enys_pure, valC_pure, exC_pure, tyC_pure])
                              · replace hr := cnd_f h146 hr
                                refine AW.seq ?_
                                refine AW.region (M := fun _ => true) ?_
                                refine AL.sb good (d := 97) (b := (a0.data.toList == [108, 101, 110])) rfl rfl rfl rfl rfl rfl rfl ?_
                                refine AL.v good (d := 96) (v := .bool (a0.data.toList == [108, 101, 110])) rfl rfl rfl rfl ?_
                                refine AW.if rfl (fun h157 => ?_) (fun h157 => ?_)
                                · replace hr := cnd_t h157 hr
                                  refine AW.seq ?_
                                  refine AW.region (M := fun _ => true) ?_
                                  refine AL.v good (d := 8) (v := .int .i64 3) rfl rfl rfl rfl ?_
                                  refine AW.region (M := fun _ => true) ?_
                                  refine AL.v good (d := 9) (v := .int .i64 1) rfl rfl rfl rfl ?_
                                  refine AW.seq ?_
                                  refine AW.seq ?_
                                  refine AW.region (M := fun _ => true) ?_
                                  refine AL.v good (d := 11) (v := .int .i64 0) rfl rfl rfl rfl ?_
                                  refine AW.block ?_
                                  refine AW.lens 2 rfl (fun hl163 => ?_)
                                  replace hl163 : a2.length ≤ 9223372036854775807 := by rw [← enys_length a2]; exact hl163
                                  refine AW.lpw (fun x : Nat × Nat => [(2, .sl .ro 2 (enys a2)), (6, .ptr 0 0), (8, .int .i64 3), (9, .int .i64 1), (11, .int .i64 (x.2 : Int))]) (fun x => [(0, .box 40 [.int .i64 0, .sl .nil 0 []])]) (fun x => s_f94_l11 x.1 a2 x.2 = some r ∧ x.1 ≤ n) (fun x => x.1) (n, 0) ⟨(fun _ h => by cases h), List.forall_mem_cons.2 ⟨⟨⟨_, rfl, Wv.refl _⟩, (by simp [pureA, pureL, pureR, inA, inL, inR, inO, idsIn, encs_pure, enxs_pure, enys_pure, valC_pure, exC_pure, tyC_pure])⟩, List.forall_mem_cons.2 ⟨⟨⟨_, rfl, Wv.refl _⟩, (by simp [pureA, pureL, pureR, inA, inL, inR, inO, idsIn, encs_pure, enxs_pure, enys_pure, valC_pure, exC_pure, tyC_pure])⟩, List.forall_mem_cons.2 ⟨⟨⟨_, rfl, Wv.refl _⟩, (by simp [pureA, pureL, pureR, inA, inL, inR, inO, idsIn, encs_pure, enxs_pure, enys_pure, valC_pure, exC_pure, tyC_pure])⟩, List.forall_mem_cons.2 ⟨⟨⟨_, rfl, Wv.refl _⟩, (by simp [pureA, pureL, pureR, inA, inL, inR, inO, idsIn, encs_pure, enxs_pure, enys_pure, valC_pure, exC_pure, tyC_pure])⟩, List.forall_mem_cons.2 ⟨⟨⟨_, rfl, Wv.refl _⟩, (by simp [pureA, pureL, pureR, inA, inL, inR, inO, idsIn, encs_pure, enxs_pure, enys_pure, valC_pure, exC_pure, tyC_pure])⟩, (fun _ h => by cases h)⟩⟩⟩⟩⟩, List.forall_mem_cons.2 ⟨⟨⟨_, rfl, ⟨rfl, ⟨Wv.refl _, Wv.refl _, trivial⟩⟩⟩, (by simp [pureA, pureL, pureR, inA, inL, inR, inO, idsIn, encs_pure, enxs_pure, enys_pure, valC_pure, exC_pure, tyC_pure])⟩, (fun _ h => by cases h)⟩⟩ ⟨hr, Nat.le_refl _⟩ (fun ⟨m, v11_1⟩ hx => ?_)
                                  obtain ⟨hr, hm⟩ := hx
                                  dsimp only at hr hm
                                  cases m with
                                  | zero => rw [s_f94_l11] at hr; cases hr
                                  | succ m =>
                                    rw [s_f94_l11] at hr
                                    show AW Try.prog _ _ _ (mkS 114 [(2, .sl .ro 2 (enys a2)), (6, .ptr 0 0), (8, .int .i64 3), (9, .int .i64 1), (11, .int .i64 (v11_1 : Int))] [(0, .box 40 [.int .i64 0, .sl .nil 0 []])])
                                    refine AW.seq ?_
                                    refine AW.seq ?_
                                    refine AW.region (M := fun _ => true) ?_
                                    refine AL.v good (d := 98) (v := .int .i64 (v11_1 : Int)) rfl rfl rfl rfl ?_
                                    refine AL.v good (d := 99) (v := .sl .ro 2 (enys a2)) rfl rfl rfl rfl ?_
                                    refine AL.ln good (d := 100) (m := a2.length) rfl rfl rfl rfl rfl rfl (enys_length _) ?_
                                    refine AL.v good (d := 101) (v := .bool (decide ((v11_1 : Int) < (a2.length : Int)))) rfl rfl rfl rfl ?_
                                    refine AW.if rfl (fun h164 => ?_) (fun h164 => ?_)
                                    · replace hr := cnd_t h164 hr
                                      refine AW.skip ?_
                                      refine AW.seq ?_
                                      refine AW.block ?_
                                      refine AW.seq ?_
                                      refine AW.region (M := fun _ => true) ?_
                                      refine AL.v good (d := 104) (v := .sl .ro 2 (enys a2)) rfl rfl rfl rfl ?_
                                      refine AL.v good (d := 105) (v := .int .i64 (v11_1 : Int)) rfl rfl rfl rfl ?_
                                      obtain ⟨x165, h166, hr⟩ := bnd1 hr
                                      refine AL.ix good (d := 106) (r := [.int .i64 x165.kind, .sl .ro 2 (enys x165.of)]) rfl rfl rfl rfl rfl rfl rfl (Int.natCast_nonneg _) (enys_get h166) ?_
                                      refine AL.v good (d := 107) (v := .ep [.int .i64 x165.kind, .sl .ro 2 (enys x165.of)]) rfl rfl rfl rfl ?_
                                      refine AL.v good (d := 108) (v := .int .i64 x165.kind) rfl rfl rfl rfl ?_
                                      refine AL.v good (d := 109) (v := .int .i64 3) rfl rfl rfl rfl ?_
                                      refine AL.v good (d := 110) (v := .bool (x165.kind != 3)) rfl rfl rfl rfl ?_
                                      refine AW.if rfl (fun h167 => ?_) (fun h167 => ?_)
                                      · replace hr := cnd_t h167 hr
                                        refine AW.seq ?_
                                        refine AW.region (M := fun _ => true) ?_
                                        refine AL.bld good (d := 111) (l := [.int .i64 0, .sl .nil 0 []]) rfl rfl rfl rfl rfl rfl rfl ?_
                                        refine AL.st2 good (c2 := [.int .i64 0, .sl .nil 0 []]) rfl rfl rfl rfl rfl rfl rfl rfl rfl rfl rfl rfl ?_
                                        refine AL.v good (d := 7) (v := .int .i64 5) rfl rfl rfl rfl ?_
                                        refine AW.ret ?_
                                        obtain rfl := Option.some.inj hr
                                        exact RetQ.w good (.inr rfl) rfl rfl ⟨⟨Wv.refl _, ⟨.inr rfl, trivial, .inr rfl⟩, trivial⟩, Wv.refl _, trivial⟩ (by simp [pureA, pureL, pureR, inA, inL, inR, inO, idsIn, encs_pure, enxs_pure, enys_pure, valC_pure, exC_pure, tyC_pure])
                                      · replace hr := cnd_f h167 hr
                                        refine AW.skip ?_
                                        refine AW.region (M := fun _ => true) ?_
                                        refine AL.v good (d := 102) (v := .int .i64 (v11_1 : Int)) rfl rfl rfl rfl ?_
                                        refine AL.v good (d := 103) (v := .int .i64 (IntKind.i64.wrap ((v11_1 : Int) + 1))) rfl rfl rfl rfl ?_
                                        refine AL.v good (d := 11) (v := .int .i64 (IntKind.i64.wrap ((v11_1 : Int) + 1))) rfl rfl rfl rfl ?_
                                        exact ⟨(m, (v11_1 + 1)), _, _, rfl, ⟨(fun _ h => by cases h), List.forall_mem_cons.2 ⟨⟨⟨_, rfl, Wv.refl _⟩, (by simp [pureA, pureL, pureR, inA, inL, inR, inO, idsIn, encs_pure, enxs_pure, enys_pure, valC_pure, exC_pure, tyC_pure])⟩, List.forall_mem_cons.2 ⟨⟨⟨_, rfl, Wv.refl _⟩, (by simp [pureA, pureL, pureR, inA, inL, inR, inO, idsIn, encs_pure, enxs_pure, enys_pure, valC_pure, exC_pure, tyC_pure])⟩, List.forall_mem_cons.2 ⟨⟨⟨_, rfl, Wv.refl _⟩, (by simp [pureA, pureL, pureR, inA, inL, inR, inO, idsIn, encs_pure, enxs_pure, enys_pure, valC_pure, exC_pure, tyC_pure])⟩, List.forall_mem_cons.2 ⟨⟨⟨_, rfl, Wv.refl _⟩, (by simp [pureA, pureL, pureR, inA, inL, inR, inO, idsIn, encs_pure, enxs_pure, enys_pure, valC_pure, exC_pure, tyC_pure])⟩, List.forall_mem_cons.2 ⟨⟨⟨_, rfl, (wnx h164 hl163)⟩, (by simp [pureA, pureL, pureR, inA, inL, inR, inO, idsIn, encs_pure, enxs_pure, enys_pure, valC_pure, exC_pure, tyC_pure])⟩, (fun _ h => by cases h)⟩⟩⟩⟩⟩, List.forall_mem_cons.2 ⟨⟨⟨_, rfl, ⟨rfl, ⟨Wv.refl _, Wv.refl _, trivial⟩⟩⟩, (by simp [pureA, pureL, pureR, inA, inL, inR, inO, idsIn, encs_pure, enxs_pure, enys_pure, valC_pure, exC_pure, tyC_pure])⟩, (fun _ h => by cases h)⟩⟩, ⟨hr, Nat.le_of_succ_le hm⟩, Nat.lt_succ_self _⟩
                                    · replace hr := cnd_f h164 hr
                                      refine AW.exit ?_
                                      refine AW.seq ?_
                                      refine AW.region (M := fun _ => true) ?_
                                      refine AL.v good (d := 112) (v := .int .i64 1) rfl rfl rfl rfl ?_
                                      refine AL.cw good (d := 113) (xs := [.int .i64 1]) (res := .agg [.int .i64 1, .sl .ro 2 (enys [])]) rfl rfl rfl rfl rfl rfl rfl (w_f121 1) ⟨(Wv.refl _), trivial⟩ (by simp [pureA, pureL, pureR, inA, inL, inR, inO, idsIn, encs_pure, enxs_pure, enys_pure, valC_pure, exC_pure, tyC_pure]) ?_
                                      refine AL.st2 good (c2 := [.int .i64 1, .sl .ro 2 (enys [])]) rfl rfl rfl rfl rfl rfl rfl rfl rfl rfl rfl rfl ?_
                                      refine AL.v good (d := 7) (v := .int .i64 0) rfl rfl rfl rfl ?_
                                      refine AW.ret ?_
                                      obtain rfl := Option.some.inj hr
                                      exact RetQ.w good (.inr rfl) rfl rfl (Wv.refl _) (by simp [pureA, pureL, pureR, inA, inL, inR, inO, idsIn, encs_pure, enxs_pure, enys_pure, valC_pure, exC_pure, tyC_pure])
                                · replace hr := cnd_f h157 hr
                                  refine AW.skip ?_
                                  refine AW.seq ?_
                                  refine AW.seq ?_
                                  refine AW.region (M := fun _ => true) ?_
                                  refine AL.v good (d := 11) (v := .int .i64 0) rfl rfl rfl rfl ?_
                                  refine AW.block ?_
                                  refine AW.lens 2 rfl (fun hl173 => ?_)
                                  replace hl173 : a2.length ≤ 9223372036854775807 := by rw [← enys_length a2]; exact hl173
                                  refine AW.lpw (fun x : Nat × Nat => [(2, .sl .ro 2 (enys a2)), (6, .ptr 0 0), (8, .int .i64 0), (9, .int .i64 0), (11, .int .i64 (x.2 : Int))]) (fun x => [(0, .box 40 [.int .i64 0, .sl .nil 0 []])]) (fun x => s_f94_l12 x.1 a2 x.2 = some r ∧ x.1 ≤ n) (fun x => x.1) (n, 0) ⟨(fun _ h => by cases h), List.forall_mem_cons.2 ⟨⟨⟨_, rfl, Wv.refl _⟩, (by simp [pureA, pureL, pureR, inA, inL, inR, inO, idsIn, encs_pure, enxs_pure, enys_pure, valC_pure, exC_pure, tyC_pure])⟩, List.forall_mem_cons.2 ⟨⟨⟨_, rfl, Wv.refl _⟩, (by simp [pureA, pureL, pureR, inA, inL, inR, inO, idsIn, encs_pure, enxs_pure, enys_pure, valC_pure, exC_pure, tyC_pure])⟩, List.forall_mem_cons.2 ⟨⟨⟨_, rfl, Wv.refl _⟩, (by simp [pureA, pureL, pureR, inA, inL, inR, inO, idsIn, encs_pure, enxs_pure, enys_pure, valC_pure, exC_pure, tyC_pure])⟩, List.forall_mem_cons.2 ⟨⟨⟨_, rfl, Wv.refl _⟩, (by simp [pureA, pureL, pureR, inA, inL, inR, inO, idsIn, encs_pure, enxs_pure, enys_pure, valC_pure, exC_pure, tyC_pure])⟩, List.forall_mem_cons.2 ⟨⟨⟨_, rfl, Wv.refl _⟩, (by simp [pureA, pureL, pureR, inA, inL, inR, inO, idsIn, encs_pure, enxs_pure, enys_pure, valC_pure, exC_pure, tyC_pure])⟩, (fun _ h => by cases h)⟩⟩⟩⟩⟩, List.forall_mem_cons.2 ⟨⟨⟨_, rfl, ⟨rfl, ⟨Wv.refl _, Wv.refl _, trivial⟩⟩⟩, (by simp [pureA, pureL, pureR, inA, inL, inR, inO, idsIn, encs_pure, enxs_pure, enys_pure, valC_pure, exC_pure, tyC_pure])⟩, (fun _ h => by cases h)⟩⟩ ⟨hr, Nat.le_refl _⟩ (fun ⟨m, v12_1⟩ hx => ?_)
                                  obtain ⟨hr, hm⟩ := hx
                                  dsimp only at hr hm
                                  cases m with
                                  | zero => rw [s_f94_l12] at hr; cases hr
                                  | succ m =>
                                    rw [s_f94_l12] at hr
                                    show AW Try.prog _ _ _ (mkS 114 [(2, .sl .ro 2 (enys a2)), (6, .ptr 0 0), (8, .int .i64 0), (9, .int .i64 0), (11, .int .i64 (v12_1 : Int))] [(0, .box 40 [.int .i64 0, .sl .nil 0 []])])
                                    refine AW.seq ?_
                                    refine AW.seq ?_
                                    refine AW.region (M := fun _ => true) ?_
                                    refine AL.v good (d := 98) (v := .int .i64 (v12_1 : Int)) rfl rfl rfl rfl ?_
                                    refine AL.v good (d := 99) (v := .sl .ro 2 (enys a2)) rfl rfl rfl rfl ?_
                                    refine AL.ln good (d := 100) (m := a2.length) rfl rfl rfl rfl rfl rfl (enys_length _) ?_
                                    refine AL.v good (d := 101) (v := .bool (decide ((v12_1 : Int) < (a2.length : Int)))) rfl rfl rfl rfl ?_
                                    refine AW.if rfl (fun h174 => ?_) (fun h174 => ?_)
                                    · replace hr := cnd_t h174 hr
                                      refine AW.skip ?_
                                      refine AW.seq ?_
                                      refine AW.block ?_
                                      refine AW.seq ?_
                                      refine AW.region (M := fun _ => true) ?_
                                      refine AL.v good (d := 104) (v := .sl .ro 2 (enys a2)) rfl rfl rfl rfl ?_
                                      refine AL.v good (d := 105) (v := .int .i64 (v12_1 : Int)) rfl rfl rfl rfl ?_
                                      obtain ⟨x175, h176, hr⟩ := bnd1 hr
                                      refine AL.ix good (d := 106) (r := [.int .i64 x175.kind, .sl .ro 2 (enys x175.of)]) rfl rfl rfl rfl rfl rfl rfl (Int.natCast_nonneg _) (enys_get h176) ?_
                                      refine AL.v good (d := 107) (v := .ep [.int .i64 x175.kind, .sl .ro 2 (enys x175.of)]) rfl rfl rfl rfl ?_
                                      refine AL.v good (d := 108) (v := .int .i64 x175.kind) rfl rfl rfl rfl ?_
                                      refine AL.v good (d := 109) (v := .int .i64 0) rfl rfl rfl rfl ?_
                                      refine AL.v good (d := 110) (v := .bool (x175.kind != 0)) rfl rfl rfl rfl ?_
                                      refine AW.if rfl (fun h177 => ?_) (fun h177 => ?_)
                                      · replace hr := cnd_t h177 hr
                                        refine AW.seq ?_
                                        refine AW.region (M := fun _ => true) ?_
                                        refine AL.bld good (d := 111) (l := [.int .i64 0, .sl .nil 0 []]) rfl rfl rfl rfl rfl rfl rfl ?_
                                        refine AL.st2 good (c2 := [.int .i64 0, .sl .nil 0 []]) rfl rfl rfl rfl rfl rfl rfl rfl rfl rfl rfl rfl ?_
                                        refine AL.v good (d := 7) (v := .int .i64 5) rfl rfl rfl rfl ?_
                                        refine AW.ret ?_
                                        obtain rfl := Option.some.inj hr
                                        exact RetQ.w good (.inr rfl) rfl rfl ⟨⟨Wv.refl _, ⟨.inr rfl, trivial, .inr rfl⟩, trivial⟩, Wv.refl _, trivial⟩ (by simp [pureA, pureL, pureR, inA, inL, inR, inO, idsIn, encs_pure, enxs_pure, enys_pure, valC_pure, exC_pure, tyC_pure])
                                      · replace hr := cnd_f h177 hr
                                        refine AW.skip ?_
                                        refine AW.region (M := fun _ => true) ?_
                                        refine AL.v good (d := 102) (v := .int .i64 (v12_1 : Int)) rfl rfl rfl rfl ?_
                                        refine AL.v good (d := 103) (v := .int .i64 (IntKind.i64.wrap ((v12_1 : Int) + 1))) rfl rfl rfl rfl ?_
                                        refine AL.v good (d := 11) (v := .int .i64 (IntKind.i64.wrap ((v12_1 : Int) + 1))) rfl rfl rfl rfl ?_
                                        exact ⟨(m, (v12_1 + 1)), _, _, rfl, ⟨(fun _ h => by cases h), List.forall_mem_cons.2 ⟨⟨⟨_, rfl, Wv.refl _⟩, (by simp [pureA, pureL, pureR, inA, inL, inR, inO, idsIn, encs_pure, enxs_pure, enys_pure, valC_pure, exC_pure, tyC_pure])⟩, List.forall_mem_cons.2 ⟨⟨⟨_, rfl, Wv.refl _⟩, (by simp [pureA, pureL, pureR, inA, inL, inR, inO, idsIn, encs_pure, enxs_pure, enys_pure, valC_pure, exC_pure, tyC_pure])⟩, List.forall_mem_cons.2 ⟨⟨⟨_, rfl, Wv.refl _⟩, (by simp [pureA, pureL, pureR, inA, inL, inR, inO, idsIn, encs_pure, enxs_pure, enys_pure, valC_pure, exC_pure, tyC_pure])⟩, List.forall_mem_cons.2 ⟨⟨⟨_, rfl, Wv.refl _⟩, (by simp [pureA, pureL, pureR, inA, inL, inR, inO, idsIn, encs_pure, enxs_pure, enys_pure, valC_pure, exC_pure, tyC_pure])⟩, List.forall_mem_cons.2 ⟨⟨⟨_, rfl, (wnx h174 hl173)⟩, (by simp [pureA, pureL, pureR, inA, inL, inR, inO, idsIn, encs_pure, enxs_pure, enys_pure, valC_pure, exC_pure, tyC_pure])⟩, (fun _ h => by cases h)⟩⟩⟩⟩⟩, List.forall_mem_cons.2 ⟨⟨⟨_, rfl, ⟨rfl, ⟨Wv.refl _, Wv.refl _, trivial⟩⟩⟩, (by simp [pureA, pureL, pureR, inA, inL, inR, inO, idsIn, encs_pure, enxs_pure, enys_pure, valC_pure, exC_pure, tyC_pure])⟩, (fun _ h => by cases h)⟩⟩, ⟨hr, Nat.le_of_succ_le hm⟩, Nat.lt_succ_self _⟩
                                    · replace hr := cnd_f h174 hr
                                      refine AW.exit ?_
                                      refine AW.seq ?_
                                      refine AW.region (M := fun _ => true) ?_
                                      refine AL.v good (d := 112) (v := .int .i64 0) rfl rfl rfl rfl ?_
                                      refine AL.cw good (d := 113) (xs := [.int .i64 0]) (res := .agg [.int .i64 0, .sl .ro 2 (enys [])]) rfl rfl rfl rfl rfl rfl rfl (w_f121 0) ⟨(Wv.refl _), trivial⟩ (by simp [pureA, pureL, pureR, inA, inL, inR, inO, idsIn, encs_pure, enxs_pure, enys_pure, valC_pure, exC_pure, tyC_pure]) ?_
                                      refine AL.st2 good (c2 := [.int .i64 0, .sl .ro 2 (enys [])]) rfl rfl rfl rfl rfl rfl rfl rfl rfl rfl rfl rfl ?_
                                      refine AL.v good (d := 7) (v := .int .i64 0) rfl rfl rfl rfl ?_
                                      refine AW.ret ?_
                                      obtain rfl := Option.some.inj hr
                                      exact RetQ.w good (.inr rfl) rfl rfl (Wv.refl _) (by simp [pureA, pureL, pureR, inA, inL, inR, inO, idsIn, encs_pure, enxs_pure, enys_pure, valC_pure, exC_pure, tyC_pure])

mutual
def s_f21 : Nat → Val → Option Ty
  | 0, _ => none
  | n + 1, a0 => (s_f21_l1 n a0 0 [])
def s_f21_l1 : Nat → Val → Nat → (List Ty) → Option Ty
  | 0, _, _, _ => none
  | n + 1, a0, v1_1, v1_2 => (bif (decide ((v1_1 : Int) < (a0.t.length : Int))) then ((a0.t[v1_1]?).bind fun x10 => ((s_f21 n x10).bind fun q12 => (if v1_2.length + 1 ≤ 1000000 then (s_f21_l1 n a0 (v1_1 + 1) (v1_2 ++ [q12])) else none))) else some (Ty.mk a0.kind v1_2))
end

theorem w_f21_a (n : Nat) (ih : ∀ (m : Nat) (a0 : Val) (r : Ty), s_f21 m a0 = some r → m < n → ACall Try.prog 21 [.agg (valC a0)] (.agg (tyC r))) (a0 : Val) (r : Ty) (hr : s_f21 n a0 = some r) : ACall Try.prog 21 [.agg (valC a0)] (.agg (tyC r)) := by
  refine ACall.go [(0, .agg (valC a0))] Try.func21 rfl Try.ntmps21 rfl rfl (by simp [pureA, pureL, pureR, inA, inL, inR, inO, idsIn, encs_pure, enxs_pure, enys_pure, valC_pure, exC_pure, tyC_pure]) ?_
  cases n with
  | zero => rw [s_f21] at hr; cases hr
  | succ n =>
    rw [s_f21] at hr
    refine AW.seq ?_
    refine AW.region (M := fun _ => true) ?_
    refine AL.bx good (d := 1) (l := [.int .i64 a0.kind, .int .i64 a0.i, .bool a0.b, .str a0.s, .sl .ro 5 (encs a0.t)]) rfl rfl rfl rfl rfl rfl 0 rfl ?_
    refine AL.alc good (d := 2) rfl rfl rfl rfl rfl 1 rfl ?_
    refine AW.seq ?_
    refine AW.region (M := fun _ => true) ?_
    refine AL.v good (d := 5) (v := .ptr 0 0) rfl rfl rfl rfl ?_
    refine AL.v good (d := 6) (v := .int .i64 a0.kind) rfl rfl rfl rfl ?_
    refine AL.bld good (d := 7) (l := [.int .i64 a0.kind, .sl .nil 0 []]) rfl rfl rfl rfl rfl rfl rfl ?_
    refine AL.alc good (d := 3) rfl rfl rfl rfl rfl 2 rfl ?_
    refine AL.st2 good (c2 := [.int .i64 a0.kind, .sl .nil 0 []]) rfl rfl rfl rfl rfl rfl rfl rfl rfl rfl rfl rfl ?_
    refine AW.seq ?_
    refine AW.seq ?_
    refine AW.region (M := fun _ => true) ?_
    refine AL.v good (d := 4) (v := .int .i64 0) rfl rfl rfl rfl ?_
    refine AW.block ?_
    refine AW.adoptB 2 rfl 1 rfl 3 2 40 rfl rfl ?_
    refine AW.lensB 0 rfl (fun hl8 => ?_)
    replace hl8 : a0.t.length ≤ 9223372036854775807 := by rw [← encs_length a0.t]; exact hl8.2.2.2.2.1
    refine AW.lpw (fun x : Nat × Nat × (List Ty) => [(1, .ptr 0 0), (2, .ptr 1 0), (3, .ptr 2 0), (4, .int .i64 (x.2.1 : Int))]) (fun x => [(0, .box 33 [.int .i64 a0.kind, .int .i64 a0.i, .bool a0.b, .str a0.s, .sl .ro 5 (encs a0.t)]), (1, .box 40 [.int .i64 0, .sl .nil 0 []]), (2, .box 40 [.int .i64 a0.kind, .sl (.own 3) 2 (enys x.2.2)]), (3, .row 40 2 (enys x.2.2).length)]) (fun x => s_f21_l1 x.1 a0 x.2.1 x.2.2 = some r ∧ x.1 ≤ n) (fun x => x.1) (n, 0, []) ⟨(fun _ h => by cases h), List.forall_mem_cons.2 ⟨⟨⟨_, rfl, Wv.refl _⟩, (by simp [pureA, pureL, pureR, inA, inL, inR, inO, idsIn, encs_pure, enxs_pure, enys_pure, valC_pure, exC_pure, tyC_pure])⟩, List.forall_mem_cons.2 ⟨⟨⟨_, rfl, Wv.refl _⟩, (by simp [pureA, pureL, pureR, inA, inL, inR, inO, idsIn, encs_pure, enxs_pure, enys_pure, valC_pure, exC_pure, tyC_pure])⟩, List.forall_mem_cons.2 ⟨⟨⟨_, rfl, Wv.refl _⟩, (by simp [pureA, pureL, pureR, inA, inL, inR, inO, idsIn, encs_pure, enxs_pure, enys_pure, valC_pure, exC_pure, tyC_pure])⟩, List.forall_mem_cons.2 ⟨⟨⟨_, rfl, Wv.refl _⟩, (by simp [pureA, pureL, pureR, inA, inL, inR, inO, idsIn, encs_pure, enxs_pure, enys_pure, valC_pure, exC_pure, tyC_pure])⟩, (fun _ h => by cases h)⟩⟩⟩⟩, List.forall_mem_cons.2 ⟨⟨⟨_, rfl, ⟨rfl, ⟨Wv.refl _, Wv.refl _, Wv.refl _, Wv.refl _, Wv.refl _, trivial⟩⟩⟩, (by simp [pureA, pureL, pureR, inA, inL, inR, inO, idsIn, encs_pure, enxs_pure, enys_pure, valC_pure, exC_pure, tyC_pure])⟩, List.forall_mem_cons.2 ⟨⟨⟨_, rfl, ⟨rfl, ⟨Wv.refl _, Wv.refl _, trivial⟩⟩⟩, (by simp [pureA, pureL, pureR, inA, inL, inR, inO, idsIn, encs_pure, enxs_pure, enys_pure, valC_pure, exC_pure, tyC_pure])⟩, List.forall_mem_cons.2 ⟨⟨⟨_, rfl, ⟨rfl, ⟨Wv.refl _, Wv.refl _, trivial⟩⟩⟩, (by simp [pureA, pureL, pureR, inA, inL, inR, inO, idsIn, encs_pure, enxs_pure, enys_pure, valC_pure, exC_pure, tyC_pure])⟩, List.forall_mem_cons.2 ⟨⟨⟨_, rfl, ⟨rfl, rfl, rfl⟩⟩, (by simp [pureA, pureL, pureR, inA, inL, inR, inO, idsIn, encs_pure, enxs_pure, enys_pure, valC_pure, exC_pure, tyC_pure])⟩, (fun _ h => by cases h)⟩⟩⟩⟩⟩ ⟨hr, Nat.le_refl _⟩ (fun ⟨m, v1_1, v1_2⟩ hx => ?_)
    obtain ⟨hr, hm⟩ := hx
    dsimp only at hr hm
    cases m with
    | zero => rw [s_f21_l1] at hr; cases hr
    | succ m =>
      rw [s_f21_l1] at hr
      show AW Try.prog _ _ _ (mkS 27 [(1, .ptr 0 0), (2, .ptr 1 0), (3, .ptr 2 0), (4, .int .i64 (v1_1 : Int))] [(0, .box 33 [.int .i64 a0.kind, .int .i64 a0.i, .bool a0.b, .str a0.s, .sl .ro 5 (encs a0.t)]), (1, .box 40 [.int .i64 0, .sl .nil 0 []]), (2, .box 40 [.int .i64 a0.kind, .sl (.own 3) 2 (enys v1_2)]), (3, .row 40 2 (enys v1_2).length)])
      refine AW.seq ?_
      refine AW.seq ?_
      refine AW.region (M := fun _ => true) ?_
      refine AL.v good (d := 8) (v := .int .i64 (v1_1 : Int)) rfl rfl rfl rfl ?_
      refine AL.v good (d := 9) (v := .ptr 0 4) rfl rfl rfl rfl ?_
      refine AL.v good (d := 10) (v := .sl .ro 5 (encs a0.t)) rfl rfl rfl rfl ?_
      refine AL.ln good (d := 11) (m := a0.t.length) rfl rfl rfl rfl rfl rfl (encs_length _) ?_
      refine AL.v good (d := 12) (v := .bool (decide ((v1_1 : Int) < (a0.t.length : Int)))) rfl rfl rfl rfl ?_
      refine AW.if rfl (fun h9 => ?_) (fun h9 => ?_)
      · replace hr := cnd_t h9 hr
        refine AW.skip ?_
        refine AW.seq ?_
        refine AW.block ?_
        refine AW.draw (M := fun i => Nat.beq i 9 || Nat.beq i 11) good.wide (by kernel_rfl) ?_
        refine AL.v good (d := 15) (v := .ptr 2 1) rfl rfl rfl rfl ?_
        refine AL.v good (d := 16) (v := .sl (.own 3) 2 (enys v1_2)) rfl rfl rfl rfl ?_
        refine AL.v good (d := 17) (v := .ptr 0 4) rfl rfl rfl rfl ?_
        refine AL.v good (d := 18) (v := .sl .ro 5 (encs a0.t)) rfl rfl rfl rfl ?_
        refine AL.v good (d := 19) (v := .int .i64 (v1_1 : Int)) rfl rfl rfl rfl ?_
        obtain ⟨x10, h11, hr⟩ := bnd1 hr
        refine AL.ix good (d := 20) (r := [.int .i64 x10.kind, .int .i64 x10.i, .bool x10.b, .str x10.s, .sl .ro 5 (encs x10.t)]) rfl rfl rfl rfl rfl rfl rfl (Int.natCast_nonneg _) (encs_get h11) ?_
        refine AL.v good (d := 21) (v := .agg [.int .i64 x10.kind, .int .i64 x10.i, .bool x10.b, .str x10.s, .sl .ro 5 (encs x10.t)]) rfl rfl rfl rfl ?_
        obtain ⟨q12, h13, hr⟩ := bnd1 hr
        refine AL.cw good (d := 22) (xs := [.agg (valC x10)]) (res := .agg [.int .i64 q12.kind, .sl .ro 2 (enys q12.of)]) rfl rfl rfl rfl rfl rfl rfl (ih _ _ _ h13 (by omega)) ⟨(Wv.refl _), trivial⟩ (by simp [pureA, pureL, pureR, inA, inL, inR, inO, idsIn, encs_pure, enxs_pure, enys_pure, valC_pure, exC_pure, tyC_pure]) ?_
        refine AL.lit good (d := 23) (rows := [[.int .i64 q12.kind, .sl .ro 2 (enys q12.of)]]) rfl rfl rfl rfl rfl rfl rfl rfl rfl 4 rfl ?_
        obtain ⟨h14, hr⟩ := grd hr
        refine AL.aw2 good (d := 24) (rows := enys v1_2) (news := [(tyC q12)]) (rows2 := enys (v1_2 ++ [q12])) rfl rfl rfl rfl rfl rfl rfl rfl rfl (by simp) rfl rfl rfl ⟨⟨Wv.refl _, Wv.refl _, trivial⟩, trivial⟩ (by simp [enys_map]) (by rw [enys_length, List.length_append]; exact h14) rfl ?_
        refine AL.v good (d := 25) (v := .ptr 2 1) rfl rfl rfl rfl ?_
        refine AL.st2 good (c2 := [.int .i64 a0.kind, .sl (.own 3) 2 (enys (v1_2 ++ [q12]))]) rfl rfl rfl rfl rfl rfl rfl rfl rfl rfl rfl rfl ?_
        refine AW.region (M := fun _ => true) ?_
        refine AL.v good (d := 13) (v := .int .i64 (v1_1 : Int)) rfl rfl rfl rfl ?_
        refine AL.v good (d := 14) (v := .int .i64 (IntKind.i64.wrap ((v1_1 : Int) + 1))) rfl rfl rfl rfl ?_
        refine AL.v good (d := 4) (v := .int .i64 (IntKind.i64.wrap ((v1_1 : Int) + 1))) rfl rfl rfl rfl ?_
        exact ⟨(m, (v1_1 + 1), (v1_2 ++ [q12])), _, _, rfl, ⟨(fun _ h => by cases h), List.forall_mem_cons.2 ⟨⟨⟨_, rfl, Wv.refl _⟩, (by simp [pureA, pureL, pureR, inA, inL, inR, inO, idsIn, encs_pure, enxs_pure, enys_pure, valC_pure, exC_pure, tyC_pure])⟩, List.forall_mem_cons.2 ⟨⟨⟨_, rfl, Wv.refl _⟩, (by simp [pureA, pureL, pureR, inA, inL, inR, inO, idsIn, encs_pure, enxs_pure, enys_pure, valC_pure, exC_pure, tyC_pure])⟩, List.forall_mem_cons.2 ⟨⟨⟨_, rfl, Wv.refl _⟩, (by simp [pureA, pureL, pureR, inA, inL, inR, inO, idsIn, encs_pure, enxs_pure, enys_pure, valC_pure, exC_pure, tyC_pure])⟩, List.forall_mem_cons.2 ⟨⟨⟨_, rfl, (wnx h9 hl8)⟩, (by simp [pureA, pureL, pureR, inA, inL, inR, inO, idsIn, encs_pure, enxs_pure, enys_pure, valC_pure, exC_pure, tyC_pure])⟩, (fun _ h => by cases h)⟩⟩⟩⟩, List.forall_mem_cons.2 ⟨⟨⟨_, rfl, ⟨rfl, ⟨Wv.refl _, Wv.refl _, Wv.refl _, Wv.refl _, Wv.refl _, trivial⟩⟩⟩, (by simp [pureA, pureL, pureR, inA, inL, inR, inO, idsIn, encs_pure, enxs_pure, enys_pure, valC_pure, exC_pure, tyC_pure])⟩, List.forall_mem_cons.2 ⟨⟨⟨_, rfl, ⟨rfl, ⟨Wv.refl _, Wv.refl _, trivial⟩⟩⟩, (by simp [pureA, pureL, pureR, inA, inL, inR, inO, idsIn, encs_pure, enxs_pure, enys_pure, valC_pure, exC_pure, tyC_pure])⟩, List.forall_mem_cons.2 ⟨⟨⟨_, rfl, ⟨rfl, ⟨Wv.refl _, Wv.refl _, trivial⟩⟩⟩, (by simp [pureA, pureL, pureR, inA, inL, inR, inO, idsIn, encs_pure, enxs_pure, enys_pure, valC_pure, exC_pure, tyC_pure])⟩, List.forall_mem_cons.2 ⟨⟨⟨_, rfl, ⟨rfl, rfl, rfl⟩⟩, (by simp [pureA, pureL, pureR, inA, inL, inR, inO, idsIn, encs_pure, enxs_pure, enys_pure, valC_pure, exC_pure, tyC_pure])⟩, (fun _ h => by cases h)⟩⟩⟩⟩⟩, ⟨hr, Nat.le_of_succ_le hm⟩, Nat.lt_succ_self _⟩
      · replace hr := cnd_f h9 hr
        refine AW.exit ?_
        refine AW.seq ?_
        refine AW.region (M := fun _ => true) ?_
        refine AL.v good (d := 26) (v := .agg [.int .i64 a0.kind, .sl (.own 3) 2 (enys v1_2)]) rfl rfl rfl rfl ?_
        refine AL.st2 good (c2 := [.int .i64 a0.kind, .sl (.own 3) 2 (enys v1_2)]) rfl rfl rfl rfl rfl rfl rfl rfl rfl rfl rfl rfl ?_
        refine AW.ret ?_
        obtain rfl := Option.some.inj hr
        exact RetQ.w good (.inr rfl) rfl rfl ⟨Wv.refl _, ⟨.inr rfl, WvR.refl _, .inl rfl⟩, trivial⟩ (by simp [pureA, pureL, pureR, inA, inL, inR, inO, idsIn, encs_pure, enxs_pure, enys_pure, valC_pure, exC_pure, tyC_pure])
theorem w_f21 (n : Nat) : ∀ (a0 : Val) (r : Ty) (hr : s_f21 n a0 = some r), ACall Try.prog 21 [.agg (valC a0)] (.agg (tyC r)) := by
  induction n using Nat.strongRecOn with
  | _ n ih =>
    intro a0 r hr
    exact w_f21_a n (fun m a0 r h hm => ih m hm a0 r h) a0 r hr

end Go.Proofs.Ytbcjcekoonebiaa.Tl
