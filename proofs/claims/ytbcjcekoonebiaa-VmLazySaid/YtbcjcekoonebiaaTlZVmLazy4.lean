/- Definitions and walks: values of the document. Definitions and walks: expressions. Definitions and walks: types. Definitions and walks: the types of expressions. Definitions and walks: values of the document compared. Definitions and walks: the document comes to values. Definitions and walks: programs of expressions. What a definition with fuel comes to, once there is enough of it. Conditions: none. -/
import Derived.Test.YtbcjcekoonebiaaTlZVmLazy3
set_option linter.unusedVariables false
set_option linter.unusedSimpArgs false
namespace Go.Proofs.Ytbcjcekoonebiaa.Tl
open Go Go.RowKit
def s_f100 (n : Nat) (a0 : Bool) : Option Int :=
  (bif a0 then some (-1) else some 1)

theorem w_f100 (n : Nat) (a0 : Bool) (r : Int) (hr : s_f100 n a0 = some r) : ACall Try.prog 100 [.bool a0] (.int .i64 r) := by
  refine ACall.go [(0, .bool a0)] Try.func100 rfl Try.ntmps100 rfl rfl (by simp [pureA, pureL, pureR, inA, inL, inR, inO, idsIn, encs_pure, enxs_pure, enys_pure, valC_pure, exC_pure, tyC_pure]) ?_
  rw [s_f100] at hr
  refine AW.seq ?_
  refine AW.region (M := fun _ => true) ?_
  refine AL.v good (d := 2) (v := .int .i64 0) rfl rfl rfl rfl ?_
  refine AW.seq ?_
  refine AW.seq ?_
  refine AW.region (M := fun _ => true) ?_
  refine AL.v good (d := 3) (v := .bool a0) rfl rfl rfl rfl ?_
  refine AW.if rfl (fun h1 => ?_) (fun h1 => ?_)
  · replace hr := cnd_t h1 hr
    refine AW.seq ?_
    refine AW.region (M := fun _ => true) ?_
    refine AL.v good (d := 2) (v := .int .i64 (-1)) rfl rfl rfl rfl ?_
    refine AW.ret ?_
    obtain rfl := Option.some.inj hr
    exact RetQ.w good (.inr rfl) rfl rfl (Wv.refl _) (by simp [pureA, pureL, pureR, inA, inL, inR, inO, idsIn, encs_pure, enxs_pure, enys_pure, valC_pure, exC_pure, tyC_pure])
  · replace hr := cnd_f h1 hr
    refine AW.skip ?_
    refine AW.seq ?_
    refine AW.region (M := fun _ => true) ?_
    refine AL.v good (d := 2) (v := .int .i64 1) rfl rfl rfl rfl ?_
    refine AW.ret ?_
    obtain rfl := Option.some.inj hr
    exact RetQ.w good (.inr rfl) rfl rfl (Wv.refl _) (by simp [pureA, pureL, pureR, inA, inL, inR, inO, idsIn, encs_pure, enxs_pure, enys_pure, valC_pure, exC_pure, tyC_pure])

mutual
def s_f68 : Nat → Val → Int → Option Int
  | 0, _, _ => none
  | n + 1, a0, a1 => (bif ((decide (a0.kind < 1)) || (decide (a0.kind > 4))) then some 5 else (bif (((((a0.kind != 1) && (a0.i != 0)) || ((a0.kind != 2) && a0.b)) || ((a0.kind != 3) && (a0.s.data.toList != []))) || ((a0.kind != 4) && (decide ((a0.t.length : Int) > 0)))) then some 2 else (bif (decide ((a0.s.size : Int) > 255)) then some 4 else (bif (a0.kind != 4) then some 0 else (bif ((a0.t.length : Int) == 0) then some 1 else (bif (decide ((a0.t.length : Int) > 8)) then some 10 else (bif (decide (a1 > 4)) then some 9 else (s_f68_l1 n a0 a1 0))))))))
def s_f68_l1 : Nat → Val → Int → Nat → Option Int
  | 0, _, _, _ => none
  | n + 1, a0, a1, v1_1 => (bif (decide ((v1_1 : Int) < (a0.t.length : Int))) then ((a0.t[v1_1]?).bind fun x33 => ((s_f68 n x33 (IntKind.i64.wrap (a1 + 1))).bind fun q35 => (bif (q35 != 0) then some q35 else (s_f68_l1 n a0 a1 (v1_1 + 1))))) else some 0)
end

def s_f34 (n : Nat) (a0 : Val) : Option Int :=
  ((s_f68 n a0 0).bind fun q1 => some q1)

mutual
def s_f90 : Nat → Val → Int → Int → Option Int
  | 0, _, _, _ => none
  | n + 1, a0, a1, a2 => (bif ((((decide (a2 ≤ 0)) || (decide (a1 ≤ 0))) || (decide ((a0.t.length : Int) > 20))) || (decide ((a0.s.size : Int) > 300))) then some 0 else (s_f90_l1 n a0 a1 (IntKind.i64.wrap (a2 - 1)) 0))
def s_f90_l1 : Nat → Val → Int → Int → Int → Option Int
  | 0, _, _, _, _ => none
  | n + 1, a0, a1, v1_1, v1_2 => (bif ((decide (v1_2 < (a0.t.length : Int))) && (decide (v1_1 > 0))) then (if 0 ≤ v1_2 then ((a0.t[v1_2.toNat]?).bind fun x19 => ((s_f90 n x19 (IntKind.i64.wrap (a1 - 1)) v1_1).bind fun q22 => (s_f90_l1 n a0 a1 q22 (IntKind.i64.wrap (v1_2 + 1))))) else none) else some v1_1)
end

def s_f55 (n : Nat) (a0 : Val) : Option Bool :=
  ((s_f90 n a0 12 300).bind fun q1 => some (decide (q1 > 0)))

mutual
def s_f22 : Nat → Val → Option Val
  | 0, _ => none
  | n + 1, a0 => (s_f22_l1 n a0 0 [])
def s_f22_l1 : Nat → Val → Nat → (List Val) → Option Val
  | 0, _, _, _ => none
  | n + 1, a0, v1_1, v1_2 => (bif (decide ((v1_1 : Int) < (a0.t.length : Int))) then ((a0.t[v1_1]?).bind fun x10 => ((s_f22 n x10).bind fun q12 => (if v1_2.length + 1 ≤ 1000000 then (s_f22_l1 n a0 (v1_1 + 1) (v1_2 ++ [q12])) else none))) else some (Val.mk a0.kind a0.i a0.b a0.s v1_2))
end

theorem w_f22_a (n : Nat) (ih : ∀ (m : Nat) (a0 : Val) (r : Val), s_f22 m a0 = some r → m < n → ACall Try.prog 22 [.agg (valC a0)] (.agg (valC r))) (a0 : Val) (r : Val) (hr : s_f22 n a0 = some r) : ACall Try.prog 22 [.agg (valC a0)] (.agg (valC r)) := by
  refine ACall.go [(0, .agg (valC a0))] Try.func22 rfl Try.ntmps22 rfl rfl (by simp [pureA, pureL, pureR, inA, inL, inR, inO, idsIn, encs_pure, enxs_pure, enys_pure, valC_pure, exC_pure, tyC_pure]) ?_
  cases n with
  | zero => rw [s_f22] at hr; cases hr
  | succ n =>
    rw [s_f22] at hr
    refine AW.seq ?_
    refine AW.region (M := fun _ => true) ?_
    refine AL.bx good (d := 1) (l := [.int .i64 a0.kind, .int .i64 a0.i, .bool a0.b, .str a0.s, .sl .ro 5 (encs a0.t)]) rfl rfl rfl rfl rfl rfl 0 rfl ?_
    refine AL.alc good (d := 2) rfl rfl rfl rfl rfl 1 rfl ?_
    refine AW.seq ?_
    refine AW.region (M := fun _ => true) ?_
    refine AL.v good (d := 5) (v := .ptr 0 0) rfl rfl rfl rfl ?_
    refine AL.v good (d := 6) (v := .int .i64 a0.kind) rfl rfl rfl rfl ?_
    refine AL.v good (d := 7) (v := .ptr 0 1) rfl rfl rfl rfl ?_
    refine AL.v good (d := 8) (v := .int .i64 a0.i) rfl rfl rfl rfl ?_
    refine AL.v good (d := 9) (v := .ptr 0 2) rfl rfl rfl rfl ?_
    refine AL.v good (d := 10) (v := .bool a0.b) rfl rfl rfl rfl ?_
    refine AL.v good (d := 11) (v := .ptr 0 3) rfl rfl rfl rfl ?_
    refine AL.v good (d := 12) (v := .str a0.s) rfl rfl rfl rfl ?_
    refine AL.bld good (d := 13) (l := [.int .i64 a0.kind, .int .i64 a0.i, .bool a0.b, .str a0.s, .sl .nil 0 []]) rfl rfl rfl rfl rfl rfl rfl ?_
    refine AL.alc good (d := 3) rfl rfl rfl rfl rfl 2 rfl ?_
    refine AL.st2 good (c2 := [.int .i64 a0.kind, .int .i64 a0.i, .bool a0.b, .str a0.s, .sl .nil 0 []]) rfl rfl rfl rfl rfl rfl rfl rfl rfl rfl rfl rfl ?_
    refine AW.seq ?_
    refine AW.seq ?_
    refine AW.region (M := fun _ => true) ?_
    refine AL.v good (d := 4) (v := .int .i64 0) rfl rfl rfl rfl ?_
    refine AW.block ?_
    refine AW.adoptB 2 rfl 4 rfl 3 5 33 rfl rfl ?_
    refine AW.lensB 0 rfl (fun hl8 => ?_)
    replace hl8 : a0.t.length ≤ 9223372036854775807 := by rw [← encs_length a0.t]; exact hl8.2.2.2.2.1
    refine AW.lpw (fun x : Nat × Nat × (List Val) => [(1, .ptr 0 0), (2, .ptr 1 0), (3, .ptr 2 0), (4, .int .i64 (x.2.1 : Int))]) (fun x => [(0, .box 24 [.int .i64 a0.kind, .int .i64 a0.i, .bool a0.b, .str a0.s, .sl .ro 5 (encs a0.t)]), (1, .box 33 [.int .i64 0, .int .i64 0, .bool false, .str ⟨#[]⟩, .sl .nil 0 []]), (2, .box 33 [.int .i64 a0.kind, .int .i64 a0.i, .bool a0.b, .str a0.s, .sl (.own 3) 5 (encs x.2.2)]), (3, .row 33 5 (encs x.2.2).length)]) (fun x => s_f22_l1 x.1 a0 x.2.1 x.2.2 = some r ∧ x.1 ≤ n) (fun x => x.1) (n, 0, []) ⟨(fun _ h => by cases h), List.forall_mem_cons.2 ⟨⟨⟨_, rfl, Wv.refl _⟩, (by simp [pureA, pureL, pureR, inA, inL, inR, inO, idsIn, encs_pure, enxs_pure, enys_pure, valC_pure, exC_pure, tyC_pure])⟩, List.forall_mem_cons.2 ⟨⟨⟨_, rfl, Wv.refl _⟩, (by simp [pureA, pureL, pureR, inA, inL, inR, inO, idsIn, encs_pure, enxs_pure, enys_pure, valC_pure, exC_pure, tyC_pure])⟩, List.forall_mem_cons.2 ⟨⟨⟨_, rfl, Wv.refl _⟩, (by simp [pureA, pureL, pureR, inA, inL, inR, inO, idsIn, encs_pure, enxs_pure, enys_pure, valC_pure, exC_pure, tyC_pure])⟩, List.forall_mem_cons.2 ⟨⟨⟨_, rfl, Wv.refl _⟩, (by simp [pureA, pureL, pureR, inA, inL, inR, inO, idsIn, encs_pure, enxs_pure, enys_pure, valC_pure, exC_pure, tyC_pure])⟩, (fun _ h => by cases h)⟩⟩⟩⟩, List.forall_mem_cons.2 ⟨⟨⟨_, rfl, ⟨rfl, ⟨Wv.refl _, Wv.refl _, Wv.refl _, Wv.refl _, Wv.refl _, trivial⟩⟩⟩, (by simp [pureA, pureL, pureR, inA, inL, inR, inO, idsIn, encs_pure, enxs_pure, enys_pure, valC_pure, exC_pure, tyC_pure])⟩, List.forall_mem_cons.2 ⟨⟨⟨_, rfl, ⟨rfl, ⟨Wv.refl _, Wv.refl _, Wv.refl _, Wv.refl _, Wv.refl _, trivial⟩⟩⟩, (by simp [pureA, pureL, pureR, inA, inL, inR, inO, idsIn, encs_pure, enxs_pure, enys_pure, valC_pure, exC_pure, tyC_pure])⟩, List.forall_mem_cons.2 ⟨⟨⟨_, rfl, ⟨rfl, ⟨Wv.refl _, Wv.refl _, Wv.refl _, Wv.refl _, Wv.refl _, trivial⟩⟩⟩, (by simp [pureA, pureL, pureR, inA, inL, inR, inO, idsIn, encs_pure, enxs_pure, enys_pure, valC_pure, exC_pure, tyC_pure])⟩, List.forall_mem_cons.2 ⟨⟨⟨_, rfl, ⟨rfl, rfl, rfl⟩⟩, (by simp [pureA, pureL, pureR, inA, inL, inR, inO, idsIn, encs_pure, enxs_pure, enys_pure, valC_pure, exC_pure, tyC_pure])⟩, (fun _ h => by cases h)⟩⟩⟩⟩⟩ ⟨hr, Nat.le_refl _⟩ (fun ⟨m, v1_1, v1_2⟩ hx => ?_)
    obtain ⟨hr, hm⟩ := hx
    try dsimp only at hr hm
    cases m with
    | zero => rw [s_f22_l1] at hr; cases hr
    | succ m =>
      rw [s_f22_l1] at hr
      show AW Try.prog _ _ _ (mkS 33 [(1, .ptr 0 0), (2, .ptr 1 0), (3, .ptr 2 0), (4, .int .i64 (v1_1 : Int))] [(0, .box 24 [.int .i64 a0.kind, .int .i64 a0.i, .bool a0.b, .str a0.s, .sl .ro 5 (encs a0.t)]), (1, .box 33 [.int .i64 0, .int .i64 0, .bool false, .str ⟨#[]⟩, .sl .nil 0 []]), (2, .box 33 [.int .i64 a0.kind, .int .i64 a0.i, .bool a0.b, .str a0.s, .sl (.own 3) 5 (encs v1_2)]), (3, .row 33 5 (encs v1_2).length)])
      refine AW.seq ?_
      refine AW.seq ?_
      refine AW.region (M := fun _ => true) ?_
      refine AL.v good (d := 14) (v := .int .i64 (v1_1 : Int)) rfl rfl rfl rfl ?_
      refine AL.v good (d := 15) (v := .ptr 0 4) rfl rfl rfl rfl ?_
      refine AL.v good (d := 16) (v := .sl .ro 5 (encs a0.t)) rfl rfl rfl rfl ?_
      refine AL.ln good (d := 17) (m := a0.t.length) rfl rfl rfl rfl rfl rfl (encs_length _) ?_
      refine AL.v good (d := 18) (v := .bool (decide ((v1_1 : Int) < (a0.t.length : Int)))) rfl rfl rfl rfl ?_
      refine AW.if rfl (fun h9 => ?_) (fun h9 => ?_)
      · replace hr := cnd_t h9 hr
        refine AW.skip ?_
        refine AW.seq ?_
        refine AW.block ?_
        refine AW.drawc (M := fun i => ⟨Nat.beq i 9 || Nat.beq i 11, bif Nat.beq i 1 then some { ids := [2] } else bif Nat.beq i 3 then some { ids := [0] } else bif Nat.beq i 6 then some { ids := [] } else bif Nat.beq i 8 then some { ids := [4] } else bif Nat.beq i 9 then some { ids := [3] } else bif Nat.beq i 11 then some { ids := [2] } else none⟩) good.wide (by kernel_rfl) ?_
        refine AL.v (nc := ⟨rfl⟩) good (d := 21) (v := .ptr 2 4) rfl rfl rfl rfl ?_
        refine AL.vc good (d := 22) (v := .sl (.own 3) 5 (encs v1_2)) rfl rfl rfl rfl rfl rfl (List.forall_mem_cons.2 ⟨.head _, (fun _ h => by cases h)⟩) ?_
        refine AL.v (nc := ⟨rfl⟩) good (d := 23) (v := .ptr 0 4) rfl rfl rfl rfl ?_
        refine AL.vc good (d := 24) (v := .sl .ro 5 (encs a0.t)) rfl rfl rfl rfl rfl rfl (List.forall_mem_cons.2 ⟨.head _, (fun _ h => by cases h)⟩) ?_
        refine AL.v (nc := ⟨rfl⟩) good (d := 25) (v := .int .i64 (v1_1 : Int)) rfl rfl rfl rfl ?_
        obtain ⟨x10, h11, hr⟩ := bnd1 hr
        refine AL.ix (nc := ⟨rfl⟩) good (d := 26) (r := [.int .i64 x10.kind, .int .i64 x10.i, .bool x10.b, .str x10.s, .sl .ro 5 (encs x10.t)]) rfl rfl rfl rfl rfl rfl rfl (Int.natCast_nonneg _) (encs_get h11) ?_
        refine AL.vc good (d := 27) (v := .agg [.int .i64 x10.kind, .int .i64 x10.i, .bool x10.b, .str x10.s, .sl .ro 5 (encs x10.t)]) rfl rfl rfl rfl rfl rfl (fun _ h => by cases h) ?_
        obtain ⟨q12, h13, hr⟩ := bnd1 hr
        refine AL.cw (nc := ⟨rfl⟩) good (d := 28) (xs := [.agg (valC x10)]) (res := .agg [.int .i64 q12.kind, .int .i64 q12.i, .bool q12.b, .str q12.s, .sl .ro 5 (encs q12.t)]) rfl rfl rfl rfl rfl rfl rfl (ih _ _ _ h13 (by omega)) ⟨(Wv.refl _), trivial⟩ (by simp [pureA, pureL, pureR, inA, inL, inR, inO, idsIn, encs_pure, enxs_pure, enys_pure, valC_pure, exC_pure, tyC_pure]) ?_
        refine AL.litC good (d := 29) (rows := [[.int .i64 q12.kind, .int .i64 q12.i, .bool q12.b, .str q12.s, .sl .ro 5 (encs q12.t)]]) rfl rfl rfl rfl rfl rfl rfl rfl rfl 4 rfl (ColN.mk rfl rfl (fun _ h => by cases h) (List.forall_mem_cons.2 ⟨.head _, (fun _ h => by cases h)⟩) (fun _ h => by cases h)) ?_
        obtain ⟨h14, hr⟩ := grd hr
        refine AL.aw2c good (d := 30) (rows := encs v1_2) (news := [(valC q12)]) (rows2 := encs (v1_2 ++ [q12])) rfl rfl rfl rfl rfl rfl rfl rfl rfl (by simp) rfl rfl rfl rfl ⟨⟨Wv.refl _, Wv.refl _, Wv.refl _, Wv.refl _, Wv.refl _, trivial⟩, trivial⟩ (by simp [encs_map]) (by rw [encs_length, List.length_append]; exact h14) rfl ?_
        refine AL.v (nc := ⟨rfl⟩) good (d := 31) (v := .ptr 2 4) rfl rfl rfl rfl ?_
        refine AL.st2c good (c2 := [.int .i64 a0.kind, .int .i64 a0.i, .bool a0.b, .str a0.s, .sl (.own 3) 5 (encs (v1_2 ++ [q12]))]) rfl rfl rfl rfl rfl rfl rfl rfl rfl rfl rfl rfl rfl ?_
        refine AW.region (M := fun _ => true) ?_
        refine AL.v good (d := 19) (v := .int .i64 (v1_1 : Int)) rfl rfl rfl rfl ?_
        refine AL.v good (d := 20) (v := .int .i64 (IntKind.i64.wrap ((v1_1 : Int) + 1))) rfl rfl rfl rfl ?_
        refine AL.v good (d := 4) (v := .int .i64 (IntKind.i64.wrap ((v1_1 : Int) + 1))) rfl rfl rfl rfl ?_
        exact ⟨(m, (v1_1 + 1), (v1_2 ++ [q12])), _, _, rfl, ⟨(fun _ h => by cases h), List.forall_mem_cons.2 ⟨⟨⟨_, rfl, Wv.refl _⟩, (by simp [pureA, pureL, pureR, inA, inL, inR, inO, idsIn, encs_pure, enxs_pure, enys_pure, valC_pure, exC_pure, tyC_pure])⟩, List.forall_mem_cons.2 ⟨⟨⟨_, rfl, Wv.refl _⟩, (by simp [pureA, pureL, pureR, inA, inL, inR, inO, idsIn, encs_pure, enxs_pure, enys_pure, valC_pure, exC_pure, tyC_pure])⟩, List.forall_mem_cons.2 ⟨⟨⟨_, rfl, Wv.refl _⟩, (by simp [pureA, pureL, pureR, inA, inL, inR, inO, idsIn, encs_pure, enxs_pure, enys_pure, valC_pure, exC_pure, tyC_pure])⟩, List.forall_mem_cons.2 ⟨⟨⟨_, rfl, (wnx h9 hl8)⟩, (by simp [pureA, pureL, pureR, inA, inL, inR, inO, idsIn, encs_pure, enxs_pure, enys_pure, valC_pure, exC_pure, tyC_pure])⟩, (fun _ h => by cases h)⟩⟩⟩⟩, List.forall_mem_cons.2 ⟨⟨⟨_, rfl, ⟨rfl, ⟨Wv.refl _, Wv.refl _, Wv.refl _, Wv.refl _, Wv.refl _, trivial⟩⟩⟩, (by simp [pureA, pureL, pureR, inA, inL, inR, inO, idsIn, encs_pure, enxs_pure, enys_pure, valC_pure, exC_pure, tyC_pure])⟩, List.forall_mem_cons.2 ⟨⟨⟨_, rfl, ⟨rfl, ⟨Wv.refl _, Wv.refl _, Wv.refl _, Wv.refl _, Wv.refl _, trivial⟩⟩⟩, (by simp [pureA, pureL, pureR, inA, inL, inR, inO, idsIn, encs_pure, enxs_pure, enys_pure, valC_pure, exC_pure, tyC_pure])⟩, List.forall_mem_cons.2 ⟨⟨⟨_, rfl, ⟨rfl, ⟨Wv.refl _, Wv.refl _, Wv.refl _, Wv.refl _, Wv.refl _, trivial⟩⟩⟩, (by simp [pureA, pureL, pureR, inA, inL, inR, inO, idsIn, encs_pure, enxs_pure, enys_pure, valC_pure, exC_pure, tyC_pure])⟩, List.forall_mem_cons.2 ⟨⟨⟨_, rfl, ⟨rfl, rfl, rfl⟩⟩, (by simp [pureA, pureL, pureR, inA, inL, inR, inO, idsIn, encs_pure, enxs_pure, enys_pure, valC_pure, exC_pure, tyC_pure])⟩, (fun _ h => by cases h)⟩⟩⟩⟩⟩, ⟨hr, Nat.le_of_succ_le hm⟩, Nat.lt_succ_self _⟩
      · replace hr := cnd_f h9 hr
        refine AW.exit ?_
        refine AW.seq ?_
        refine AW.region (M := fun _ => true) ?_
        refine AL.v good (d := 32) (v := .agg [.int .i64 a0.kind, .int .i64 a0.i, .bool a0.b, .str a0.s, .sl (.own 3) 5 (encs v1_2)]) rfl rfl rfl rfl ?_
        refine AL.st2 good (c2 := [.int .i64 a0.kind, .int .i64 a0.i, .bool a0.b, .str a0.s, .sl (.own 3) 5 (encs v1_2)]) rfl rfl rfl rfl rfl rfl rfl rfl rfl rfl rfl rfl ?_
        refine AW.ret ?_
        obtain rfl := Option.some.inj hr
        exact RetQ.w good (.inr rfl) rfl rfl ⟨Wv.refl _, Wv.refl _, Wv.refl _, Wv.refl _, ⟨.inr rfl, WvR.refl _, .inl rfl⟩, trivial⟩ (by simp [pureA, pureL, pureR, inA, inL, inR, inO, idsIn, encs_pure, enxs_pure, enys_pure, valC_pure, exC_pure, tyC_pure])
theorem w_f22 (n : Nat) : ∀ (a0 : Val) (r : Val) (hr : s_f22 n a0 = some r), ACall Try.prog 22 [.agg (valC a0)] (.agg (valC r)) := by
  induction n using Nat.strongRecOn with
  | _ n ih =>
    intro a0 r hr
    exact w_f22_a n (fun m a0 r h hm => ih m hm a0 r h) a0 r hr

def s_f18 (n : Nat) (a0 : Val) : Option Bool :=
  ((s_f55 n a0).bind fun q1 => (bif q1 then ((s_f22 n a0).bind fun q4 => ((s_f34 n q4).bind fun q6 => some (q6 == 0))) else some false))

end Go.Proofs.Ytbcjcekoonebiaa.Tl

set_option linter.unusedVariables false
set_option linter.unusedSimpArgs false
namespace Go.Proofs.Ytbcjcekoonebiaa.Tl
open Go Go.RowKit
def s_f92 (n : Nat) (a0 : ByteArray) : Option Int :=
  (bif (a0.data.toList == [108, 105, 116]) then some 0 else (bif (a0.data.toList == [120]) then some 0 else (bif (a0.data.toList == [97, 116]) then some 1 else (bif (a0.data.toList == [110, 101, 103]) then some 1 else (bif (a0.data.toList == [110, 111, 116]) then some 1 else (bif (a0.data.toList == [108, 101, 110]) then some 1 else (bif (a0.data.toList == [97, 100, 100]) then some 2 else (bif (a0.data.toList == [115, 117, 98]) then some 2 else (bif (a0.data.toList == [109, 117, 108]) then some 2 else (bif (a0.data.toList == [100, 105, 118]) then some 2 else (bif (a0.data.toList == [114, 101, 109]) then some 2 else (bif (a0.data.toList == [101, 113]) then some 2 else (bif (a0.data.toList == [108, 116]) then some 2 else (bif (a0.data.toList == [97, 110, 100]) then some 2 else (bif (a0.data.toList == [111, 114]) then some 2 else (bif (a0.data.toList == [99, 97, 116]) then some 2 else (bif (a0.data.toList == [105, 102]) then some 3 else (bif (a0.data.toList == [116, 117, 112]) then some (-1) else some (-2)))))))))))))))))))

mutual
def s_f54 : Nat → Ex → Int → Int → Option Int
  | 0, _, _, _ => none
  | n + 1, a0, a1, a2 => (bif (decide (a2 ≤ 0)) then some 0 else (bif (decide (a1 ≤ 0)) then some 0 else (bif (decide ((a0.a.length : Int) > 12)) then some 0 else (bif (decide ((a0.op.size : Int) > 20)) then some 0 else ((s_f55 n a0.v).bind fun q5 => (bif (!q5) then some 0 else (s_f54_l1 n a0 a1 (IntKind.i64.wrap (a2 - 1)) 0)))))))
def s_f54_l1 : Nat → Ex → Int → Int → Int → Option Int
  | 0, _, _, _, _ => none
  | n + 1, a0, a1, v1_1, v1_2 => (bif ((decide (v1_2 < (a0.a.length : Int))) && (decide (v1_1 > 0))) then (if 0 ≤ v1_2 then ((a0.a[v1_2.toNat]?).bind fun x19 => ((s_f54 n x19 (IntKind.i64.wrap (a1 - 1)) v1_1).bind fun q22 => (s_f54_l1 n a0 a1 q22 (IntKind.i64.wrap (v1_2 + 1))))) else none) else some v1_1)
end

def s_f17 (n : Nat) (a0 : Ex) : Option Bool :=
  ((s_f54 n a0 20 400).bind fun q1 => some (decide (q1 > 0)))

mutual
def s_f19 : Nat → Ex → Option Ex
  | 0, _ => none
  | n + 1, a0 => ((s_f22 n a0.v).bind fun q1 => (s_f19_l1 n a0 q1 0 []))
def s_f19_l1 : Nat → Ex → Val → Nat → (List Ex) → Option Ex
  | 0, _, _, _, _ => none
  | n + 1, a0, q1, v1_1, v1_2 => (bif (decide ((v1_1 : Int) < (a0.a.length : Int))) then ((a0.a[v1_1]?).bind fun x12 => ((s_f19 n x12).bind fun q14 => (if v1_2.length + 1 ≤ 1000000 then (s_f19_l1 n a0 q1 (v1_1 + 1) (v1_2 ++ [q14])) else none))) else some (Ex.mk a0.op q1 a0.n v1_2))
end

theorem w_f19_a (n : Nat) (ih : ∀ (m : Nat) (a0 : Ex) (r : Ex), s_f19 m a0 = some r → m < n → ACall Try.prog 19 [.agg (exC a0)] (.agg (exC r))) (a0 : Ex) (r : Ex) (hr : s_f19 n a0 = some r) : ACall Try.prog 19 [.agg (exC a0)] (.agg (exC r)) := by
  refine ACall.go [(0, .agg (exC a0))] Try.func19 rfl Try.ntmps19 rfl rfl (by simp [pureA, pureL, pureR, inA, inL, inR, inO, idsIn, encs_pure, enxs_pure, enys_pure, valC_pure, exC_pure, tyC_pure]) ?_
  cases n with
  | zero => rw [s_f19] at hr; cases hr
  | succ n =>
    rw [s_f19] at hr
    refine AW.seq ?_
    refine AW.region (M := fun _ => true) ?_
    refine AL.bx good (d := 1) (l := [.str a0.op, .int .i64 a0.v.kind, .int .i64 a0.v.i, .bool a0.v.b, .str a0.v.s, .sl .ro 5 (encs a0.v.t), .int .i64 a0.n, .sl .ro 8 (enxs a0.a)]) rfl rfl rfl rfl rfl rfl 0 rfl ?_
    refine AL.alc good (d := 2) rfl rfl rfl rfl rfl 1 rfl ?_
    refine AW.seq ?_
    refine AW.drawc (M := fun i => ⟨Nat.beq i 9, bif Nat.beq i 1 then some { ids := [0] } else bif Nat.beq i 3 then some { ids := [0] } else bif Nat.beq i 6 then some { ids := [0] } else bif Nat.beq i 8 then some { ids := [2] } else bif Nat.beq i 9 then some { ids := [2] } else none⟩) good.wide (by kernel_rfl) ?_
    refine AL.v (nc := ⟨rfl⟩) good (d := 5) (v := .ptr 0 0) rfl rfl rfl rfl ?_
    refine AL.vc good (d := 6) (v := .str a0.op) rfl rfl rfl rfl rfl rfl (List.forall_mem_cons.2 ⟨.head _, (fun _ h => by cases h)⟩) ?_
    refine AL.v (nc := ⟨rfl⟩) good (d := 7) (v := .ptr 0 1) rfl rfl rfl rfl ?_
    refine AL.vc good (d := 8) (v := .agg [.int .i64 a0.v.kind, .int .i64 a0.v.i, .bool a0.v.b, .str a0.v.s, .sl .ro 5 (encs a0.v.t)]) rfl rfl rfl rfl rfl rfl (List.forall_mem_cons.2 ⟨.head _, (fun _ h => by cases h)⟩) ?_
    obtain ⟨q1, h2, hr⟩ := bnd1 hr
    refine AL.cw (nc := ⟨rfl⟩) good (d := 9) (xs := [.agg (valC a0.v)]) (res := .agg [.int .i64 q1.kind, .int .i64 q1.i, .bool q1.b, .str q1.s, .sl .ro 5 (encs q1.t)]) rfl rfl rfl rfl rfl rfl rfl (w_f22 _ _ _ h2) ⟨(Wv.refl _), trivial⟩ (by simp [pureA, pureL, pureR, inA, inL, inR, inO, idsIn, encs_pure, enxs_pure, enys_pure, valC_pure, exC_pure, tyC_pure]) ?_
    refine AL.v (nc := ⟨rfl⟩) good (d := 10) (v := .ptr 0 6) rfl rfl rfl rfl ?_
    refine AL.vc good (d := 11) (v := .int .i64 a0.n) rfl rfl rfl rfl rfl rfl (List.forall_mem_cons.2 ⟨.head _, (fun _ h => by cases h)⟩) ?_
    refine AL.bld (nc := ⟨rfl⟩) good (d := 12) (l := [.str a0.op, .int .i64 q1.kind, .int .i64 q1.i, .bool q1.b, .str q1.s, .sl .ro 5 (encs q1.t), .int .i64 a0.n, .sl .nil 0 []]) rfl rfl rfl rfl rfl rfl rfl ?_
    refine AL.alcC good (d := 3) rfl rfl rfl rfl rfl 2 rfl (ColN.mk rfl rfl (fun _ h => by cases h) (List.forall_mem_cons.2 ⟨.head _, (fun _ h => by cases h)⟩) (fun _ h => by cases h)) ?_
    refine AL.st2c good (c2 := [.str a0.op, .int .i64 q1.kind, .int .i64 q1.i, .bool q1.b, .str q1.s, .sl .ro 5 (encs q1.t), .int .i64 a0.n, .sl .nil 0 []]) rfl rfl rfl rfl rfl rfl rfl rfl rfl rfl rfl rfl rfl ?_
    refine AW.seq ?_
    refine AW.seq ?_
    refine AW.region (M := fun _ => true) ?_
    refine AL.v good (d := 4) (v := .int .i64 0) rfl rfl rfl rfl ?_
    refine AW.block ?_
    refine AW.adoptB 2 rfl 7 rfl 3 8 36 rfl rfl ?_
    refine AW.lensB 0 rfl (fun hl10 => ?_)
    replace hl10 : a0.a.length ≤ 9223372036854775807 := by rw [← enxs_length a0.a]; exact hl10.2.2.2.2.2.2.2.1
    refine AW.lpw (fun x : Nat × Nat × (List Ex) => [(1, .ptr 0 0), (2, .ptr 1 0), (3, .ptr 2 0), (4, .int .i64 (x.2.1 : Int))]) (fun x => [(0, .box 27 [.str a0.op, .int .i64 a0.v.kind, .int .i64 a0.v.i, .bool a0.v.b, .str a0.v.s, .sl .ro 5 (encs a0.v.t), .int .i64 a0.n, .sl .ro 8 (enxs a0.a)]), (1, .box 36 [.str ⟨#[]⟩, .int .i64 0, .int .i64 0, .bool false, .str ⟨#[]⟩, .sl .nil 0 [], .int .i64 0, .sl .nil 0 []]), (2, .box 36 [.str a0.op, .int .i64 q1.kind, .int .i64 q1.i, .bool q1.b, .str q1.s, .sl .ro 5 (encs q1.t), .int .i64 a0.n, .sl (.own 3) 8 (enxs x.2.2)]), (3, .row 36 8 (enxs x.2.2).length)]) (fun x => s_f19_l1 x.1 a0 q1 x.2.1 x.2.2 = some r ∧ x.1 ≤ n) (fun x => x.1) (n, 0, []) ⟨(fun _ h => by cases h), List.forall_mem_cons.2 ⟨⟨⟨_, rfl, Wv.refl _⟩, (by simp [pureA, pureL, pureR, inA, inL, inR, inO, idsIn, encs_pure, enxs_pure, enys_pure, valC_pure, exC_pure, tyC_pure])⟩, List.forall_mem_cons.2 ⟨⟨⟨_, rfl, Wv.refl _⟩, (by simp [pureA, pureL, pureR, inA, inL, inR, inO, idsIn, encs_pure, enxs_pure, enys_pure, valC_pure, exC_pure, tyC_pure])⟩, List.forall_mem_cons.2 ⟨⟨⟨_, rfl, Wv.refl _⟩, (by simp [pureA, pureL, pureR, inA, inL, inR, inO, idsIn, encs_pure, enxs_pure, enys_pure, valC_pure, exC_pure, tyC_pure])⟩, List.forall_mem_cons.2 ⟨⟨⟨_, rfl, Wv.refl _⟩, (by simp [pureA, pureL, pureR, inA, inL, inR, inO, idsIn, encs_pure, enxs_pure, enys_pure, valC_pure, exC_pure, tyC_pure])⟩, (fun _ h => by cases h)⟩⟩⟩⟩, List.forall_mem_cons.2 ⟨⟨⟨_, rfl, ⟨rfl, ⟨Wv.refl _, Wv.refl _, Wv.refl _, Wv.refl _, Wv.refl _, Wv.refl _, Wv.refl _, Wv.refl _, trivial⟩⟩⟩, (by simp [pureA, pureL, pureR, inA, inL, inR, inO, idsIn, encs_pure, enxs_pure, enys_pure, valC_pure, exC_pure, tyC_pure])⟩, List.forall_mem_cons.2 ⟨⟨⟨_, rfl, ⟨rfl, ⟨Wv.refl _, Wv.refl _, Wv.refl _, Wv.refl _, Wv.refl _, Wv.refl _, Wv.refl _, Wv.refl _, trivial⟩⟩⟩, (by simp [pureA, pureL, pureR, inA, inL, inR, inO, idsIn, encs_pure, enxs_pure, enys_pure, valC_pure, exC_pure, tyC_pure])⟩, List.forall_mem_cons.2 ⟨⟨⟨_, rfl, ⟨rfl, ⟨Wv.refl _, Wv.refl _, Wv.refl _, Wv.refl _, Wv.refl _, Wv.refl _, Wv.refl _, Wv.refl _, trivial⟩⟩⟩, (by simp [pureA, pureL, pureR, inA, inL, inR, inO, idsIn, encs_pure, enxs_pure, enys_pure, valC_pure, exC_pure, tyC_pure])⟩, List.forall_mem_cons.2 ⟨⟨⟨_, rfl, ⟨rfl, rfl, rfl⟩⟩, (by simp [pureA, pureL, pureR, inA, inL, inR, inO, idsIn, encs_pure, enxs_pure, enys_pure, valC_pure, exC_pure, tyC_pure])⟩, (fun _ h => by cases h)⟩⟩⟩⟩⟩ ⟨hr, Nat.le_refl _⟩ (fun ⟨m, v1_1, v1_2⟩ hx => ?_)
    obtain ⟨hr, hm⟩ := hx
    try dsimp only at hr hm
    cases m with
    | zero => rw [s_f19_l1] at hr; cases hr
    | succ m =>
      rw [s_f19_l1] at hr
      show AW Try.prog _ _ _ (mkS 32 [(1, .ptr 0 0), (2, .ptr 1 0), (3, .ptr 2 0), (4, .int .i64 (v1_1 : Int))] [(0, .box 27 [.str a0.op, .int .i64 a0.v.kind, .int .i64 a0.v.i, .bool a0.v.b, .str a0.v.s, .sl .ro 5 (encs a0.v.t), .int .i64 a0.n, .sl .ro 8 (enxs a0.a)]), (1, .box 36 [.str ⟨#[]⟩, .int .i64 0, .int .i64 0, .bool false, .str ⟨#[]⟩, .sl .nil 0 [], .int .i64 0, .sl .nil 0 []]), (2, .box 36 [.str a0.op, .int .i64 q1.kind, .int .i64 q1.i, .bool q1.b, .str q1.s, .sl .ro 5 (encs q1.t), .int .i64 a0.n, .sl (.own 3) 8 (enxs v1_2)]), (3, .row 36 8 (enxs v1_2).length)])
      refine AW.seq ?_
      refine AW.seq ?_
      refine AW.region (M := fun _ => true) ?_
      refine AL.v good (d := 13) (v := .int .i64 (v1_1 : Int)) rfl rfl rfl rfl ?_
      refine AL.v good (d := 14) (v := .ptr 0 7) rfl rfl rfl rfl ?_
      refine AL.v good (d := 15) (v := .sl .ro 8 (enxs a0.a)) rfl rfl rfl rfl ?_
      refine AL.ln good (d := 16) (m := a0.a.length) rfl rfl rfl rfl rfl rfl (enxs_length _) ?_
      refine AL.v good (d := 17) (v := .bool (decide ((v1_1 : Int) < (a0.a.length : Int)))) rfl rfl rfl rfl ?_
      refine AW.if rfl (fun h11 => ?_) (fun h11 => ?_)
      · replace hr := cnd_t h11 hr
        refine AW.skip ?_
        refine AW.seq ?_
        refine AW.block ?_
        refine AW.drawc (M := fun i => ⟨Nat.beq i 9 || Nat.beq i 11, bif Nat.beq i 1 then some { ids := [2] } else bif Nat.beq i 3 then some { ids := [0] } else bif Nat.beq i 6 then some { ids := [] } else bif Nat.beq i 8 then some { ids := [4] } else bif Nat.beq i 9 then some { ids := [3] } else bif Nat.beq i 11 then some { ids := [2] } else none⟩) good.wide (by kernel_rfl) ?_
        refine AL.v (nc := ⟨rfl⟩) good (d := 20) (v := .ptr 2 7) rfl rfl rfl rfl ?_
        refine AL.vc good (d := 21) (v := .sl (.own 3) 8 (enxs v1_2)) rfl rfl rfl rfl rfl rfl (List.forall_mem_cons.2 ⟨.head _, (fun _ h => by cases h)⟩) ?_
        refine AL.v (nc := ⟨rfl⟩) good (d := 22) (v := .ptr 0 7) rfl rfl rfl rfl ?_
        refine AL.vc good (d := 23) (v := .sl .ro 8 (enxs a0.a)) rfl rfl rfl rfl rfl rfl (List.forall_mem_cons.2 ⟨.head _, (fun _ h => by cases h)⟩) ?_
        refine AL.v (nc := ⟨rfl⟩) good (d := 24) (v := .int .i64 (v1_1 : Int)) rfl rfl rfl rfl ?_
        obtain ⟨x12, h13, hr⟩ := bnd1 hr
        refine AL.ix (nc := ⟨rfl⟩) good (d := 25) (r := [.str x12.op, .int .i64 x12.v.kind, .int .i64 x12.v.i, .bool x12.v.b, .str x12.v.s, .sl .ro 5 (encs x12.v.t), .int .i64 x12.n, .sl .ro 8 (enxs x12.a)]) rfl rfl rfl rfl rfl rfl rfl (Int.natCast_nonneg _) (enxs_get h13) ?_
        refine AL.vc good (d := 26) (v := .agg [.str x12.op, .int .i64 x12.v.kind, .int .i64 x12.v.i, .bool x12.v.b, .str x12.v.s, .sl .ro 5 (encs x12.v.t), .int .i64 x12.n, .sl .ro 8 (enxs x12.a)]) rfl rfl rfl rfl rfl rfl (fun _ h => by cases h) ?_
        obtain ⟨q14, h15, hr⟩ := bnd1 hr
        refine AL.cw (nc := ⟨rfl⟩) good (d := 27) (xs := [.agg (exC x12)]) (res := .agg [.str q14.op, .int .i64 q14.v.kind, .int .i64 q14.v.i, .bool q14.v.b, .str q14.v.s, .sl .ro 5 (encs q14.v.t), .int .i64 q14.n, .sl .ro 8 (enxs q14.a)]) rfl rfl rfl rfl rfl rfl rfl (ih _ _ _ h15 (by omega)) ⟨(Wv.refl _), trivial⟩ (by simp [pureA, pureL, pureR, inA, inL, inR, inO, idsIn, encs_pure, enxs_pure, enys_pure, valC_pure, exC_pure, tyC_pure]) ?_
        refine AL.litC good (d := 28) (rows := [[.str q14.op, .int .i64 q14.v.kind, .int .i64 q14.v.i, .bool q14.v.b, .str q14.v.s, .sl .ro 5 (encs q14.v.t), .int .i64 q14.n, .sl .ro 8 (enxs q14.a)]]) rfl rfl rfl rfl rfl rfl rfl rfl rfl 4 rfl (ColN.mk rfl rfl (fun _ h => by cases h) (List.forall_mem_cons.2 ⟨.head _, (fun _ h => by cases h)⟩) (fun _ h => by cases h)) ?_
        obtain ⟨h16, hr⟩ := grd hr
        refine AL.aw2c good (d := 29) (rows := enxs v1_2) (news := [(exC q14)]) (rows2 := enxs (v1_2 ++ [q14])) rfl rfl rfl rfl rfl rfl rfl rfl rfl (by simp) rfl rfl rfl rfl ⟨⟨Wv.refl _, Wv.refl _, Wv.refl _, Wv.refl _, Wv.refl _, Wv.refl _, Wv.refl _, Wv.refl _, trivial⟩, trivial⟩ (by simp [enxs_map]) (by rw [enxs_length, List.length_append]; exact h16) rfl ?_
        refine AL.v (nc := ⟨rfl⟩) good (d := 30) (v := .ptr 2 7) rfl rfl rfl rfl ?_
        refine AL.st2c good (c2 := [.str a0.op, .int .i64 q1.kind, .int .i64 q1.i, .bool q1.b, .str q1.s, .sl .ro 5 (encs q1.t), .int .i64 a0.n, .sl (.own 3) 8 (enxs (v1_2 ++ [q14]))]) rfl rfl rfl rfl rfl rfl rfl rfl rfl rfl rfl rfl rfl ?_
        refine AW.region (M := fun _ => true) ?_
        refine AL.v good (d := 18) (v := .int .i64 (v1_1 : Int)) rfl rfl rfl rfl ?_
        refine AL.v good (d := 19) (v := .int .i64 (IntKind.i64.wrap ((v1_1 : Int) + 1))) rfl rfl rfl rfl ?_
        refine AL.v good (d := 4) (v := .int .i64 (IntKind.i64.wrap ((v1_1 : Int) + 1))) rfl rfl rfl rfl ?_
        exact ⟨(m, (v1_1 + 1), (v1_2 ++ [q14])), _, _, rfl, ⟨(fun _ h => by cases h), List.forall_mem_cons.2 ⟨⟨⟨_, rfl, Wv.refl _⟩, (by simp [pureA, pureL, pureR, inA, inL, inR, inO, idsIn, encs_pure, enxs_pure, enys_pure, valC_pure, exC_pure, tyC_pure])⟩, List.forall_mem_cons.2 ⟨⟨⟨_, rfl, Wv.refl _⟩, (by simp [pureA, pureL, pureR, inA, inL, inR, inO, idsIn, encs_pure, enxs_pure, enys_pure, valC_pure, exC_pure, tyC_pure])⟩, List.forall_mem_cons.2 ⟨⟨⟨_, rfl, Wv.refl _⟩, (by simp [pureA, pureL, pureR, inA, inL, inR, inO, idsIn, encs_pure, enxs_pure, enys_pure, valC_pure, exC_pure, tyC_pure])⟩, List.forall_mem_cons.2 ⟨⟨⟨_, rfl, (wnx h11 hl10)⟩, (by simp [pureA, pureL, pureR, inA, inL, inR, inO, idsIn, encs_pure, enxs_pure, enys_pure, valC_pure, exC_pure, tyC_pure])⟩, (fun _ h => by cases h)⟩⟩⟩⟩, List.forall_mem_cons.2 ⟨⟨⟨_, rfl, ⟨rfl, ⟨Wv.refl _, Wv.refl _, Wv.refl _, Wv.refl _, Wv.refl _, Wv.refl _, Wv.refl _, Wv.refl _, trivial⟩⟩⟩, (by simp [pureA, pureL, pureR, inA, inL, inR, inO, idsIn, encs_pure, enxs_pure, enys_pure, valC_pure, exC_pure, tyC_pure])⟩, List.forall_mem_cons.2 ⟨⟨⟨_, rfl, ⟨rfl, ⟨Wv.refl _, Wv.refl _, Wv.refl _, Wv.refl _, Wv.refl _, Wv.refl _, Wv.refl _, Wv.refl _, trivial⟩⟩⟩, (by simp [pureA, pureL, pureR, inA, inL, inR, inO, idsIn, encs_pure, enxs_pure, enys_pure, valC_pure, exC_pure, tyC_pure])⟩, List.forall_mem_cons.2 ⟨⟨⟨_, rfl, ⟨rfl, ⟨Wv.refl _, Wv.refl _, Wv.refl _, Wv.refl _, Wv.refl _, Wv.refl _, Wv.refl _, Wv.refl _, trivial⟩⟩⟩, (by simp [pureA, pureL, pureR, inA, inL, inR, inO, idsIn, encs_pure, enxs_pure, enys_pure, valC_pure, exC_pure, tyC_pure])⟩, List.forall_mem_cons.2 ⟨⟨⟨_, rfl, ⟨rfl, rfl, rfl⟩⟩, (by simp [pureA, pureL, pureR, inA, inL, inR, inO, idsIn, encs_pure, enxs_pure, enys_pure, valC_pure, exC_pure, tyC_pure])⟩, (fun _ h => by cases h)⟩⟩⟩⟩⟩, ⟨hr, Nat.le_of_succ_le hm⟩, Nat.lt_succ_self _⟩
      · replace hr := cnd_f h11 hr
        refine AW.exit ?_
        refine AW.seq ?_
        refine AW.region (M := fun _ => true) ?_
        refine AL.v good (d := 31) (v := .agg [.str a0.op, .int .i64 q1.kind, .int .i64 q1.i, .bool q1.b, .str q1.s, .sl .ro 5 (encs q1.t), .int .i64 a0.n, .sl (.own 3) 8 (enxs v1_2)]) rfl rfl rfl rfl ?_
        refine AL.st2 good (c2 := [.str a0.op, .int .i64 q1.kind, .int .i64 q1.i, .bool q1.b, .str q1.s, .sl .ro 5 (encs q1.t), .int .i64 a0.n, .sl (.own 3) 8 (enxs v1_2)]) rfl rfl rfl rfl rfl rfl rfl rfl rfl rfl rfl rfl ?_
        refine AW.ret ?_
        obtain rfl := Option.some.inj hr
        exact RetQ.w good (.inr rfl) rfl rfl ⟨Wv.refl _, Wv.refl _, Wv.refl _, Wv.refl _, Wv.refl _, Wv.refl _, Wv.refl _, ⟨.inr rfl, WvR.refl _, .inl rfl⟩, trivial⟩ (by simp [pureA, pureL, pureR, inA, inL, inR, inO, idsIn, encs_pure, enxs_pure, enys_pure, valC_pure, exC_pure, tyC_pure])
theorem w_f19 (n : Nat) : ∀ (a0 : Ex) (r : Ex) (hr : s_f19 n a0 = some r), ACall Try.prog 19 [.agg (exC a0)] (.agg (exC r)) := by
  induction n using Nat.strongRecOn with
  | _ n ih =>
    intro a0 r hr
    exact w_f19_a n (fun m a0 r h hm => ih m hm a0 r h) a0 r hr

end Go.Proofs.Ytbcjcekoonebiaa.Tl

set_option linter.unusedVariables false
set_option linter.unusedSimpArgs false
namespace Go.Proofs.Ytbcjcekoonebiaa.Tl
open Go Go.RowKit
mutual
def s_f91 : Nat → Ty → Int → Option Int
  | 0, _, _ => none
  | n + 1, a0, a1 => (bif (((decide (a0.kind < 1)) || (decide (a0.kind > 4))) || ((a0.kind != 4) && (decide ((a0.of.length : Int) > 0)))) then some 5 else (bif (a0.kind != 4) then some 0 else (bif ((a0.of.length : Int) == 0) then some 1 else (bif (decide ((a0.of.length : Int) > 8)) then some 10 else (bif (decide (a1 > 4)) then some 9 else (s_f91_l1 n a0 a1 0))))))
def s_f91_l1 : Nat → Ty → Int → Nat → Option Int
  | 0, _, _, _ => none
  | n + 1, a0, a1, v1_1 => (bif (decide ((v1_1 : Int) < (a0.of.length : Int))) then ((a0.of[v1_1]?).bind fun x21 => ((s_f91 n x21 (IntKind.i64.wrap (a1 + 1))).bind fun q23 => (bif (q23 != 0) then some q23 else (s_f91_l1 n a0 a1 (v1_1 + 1))))) else some 0)
end

def s_f56 (n : Nat) (a0 : Ty) : Option Int :=
  ((s_f91 n a0 0).bind fun q1 => some q1)

mutual
def s_f57 : Nat → Ex → Option Int
  | 0, _ => none
  | n + 1, a0 => (s_f57_l1 n a0 1 0)
def s_f57_l1 : Nat → Ex → Int → Nat → Option Int
  | 0, _, _, _ => none
  | n + 1, a0, v1_1, v1_2 => (bif (decide ((v1_2 : Int) < (a0.a.length : Int))) then ((a0.a[v1_2]?).bind fun x9 => ((s_f57 n x9).bind fun q11 => (s_f57_l1 n a0 (IntKind.i64.wrap (v1_1 + q11)) (v1_2 + 1)))) else some v1_1)
end

mutual
def s_f65 : Nat → Ty → Ty → Option Bool
  | 0, _, _ => none
  | n + 1, a0, a1 => (bif ((a0.kind != a1.kind) || ((a0.of.length : Int) != (a1.of.length : Int))) then some false else (s_f65_l1 n a0 a1 0))
def s_f65_l1 : Nat → Ty → Ty → Nat → Option Bool
  | 0, _, _, _ => none
  | n + 1, a0, a1, v1_1 => (bif (decide ((v1_1 : Int) < (a0.of.length : Int))) then ((a0.of[v1_1]?).bind fun x16 => ((a1.of[v1_1]?).bind fun x18 => ((s_f65 n x16 x18).bind fun q20 => (bif (!q20) then some false else (s_f65_l1 n a0 a1 (v1_1 + 1)))))) else some true)
end

mutual
def s_f94_l1 : Nat → (List Ty) → Nat → Option (Ty × Int)
  | 0, _, _ => none
  | n + 1, a2, v1_1 => (bif (decide ((v1_1 : Int) < (a2.length : Int))) then ((a2[v1_1]?).bind fun x55 => (bif (x55.kind != 1) then some ((Ty.mk 0 []), 5) else (s_f94_l1 n a2 (v1_1 + 1)))) else some ((Ty.mk 1 []), 0))
def s_f94_l7 : Nat → (List Ty) → Nat → Option (Ty × Int)
  | 0, _, _ => none
  | n + 1, a2, v7_1 => (bif (decide ((v7_1 : Int) < (a2.length : Int))) then ((a2[v7_1]?).bind fun x121 => (bif (x121.kind != 2) then some ((Ty.mk 0 []), 5) else (s_f94_l7 n a2 (v7_1 + 1)))) else some ((Ty.mk 2 []), 0))
def s_f94_l10 : Nat → (List Ty) → Nat → Option (Ty × Int)
  | 0, _, _ => none
  | n + 1, a2, v10_1 => (bif (decide ((v10_1 : Int) < (a2.length : Int))) then ((a2[v10_1]?).bind fun x154 => (bif (x154.kind != 3) then some ((Ty.mk 0 []), 5) else (s_f94_l10 n a2 (v10_1 + 1)))) else some ((Ty.mk 3 []), 0))
def s_f94_l11 : Nat → (List Ty) → Nat → Option (Ty × Int)
  | 0, _, _ => none
  | n + 1, a2, v11_1 => (bif (decide ((v11_1 : Int) < (a2.length : Int))) then ((a2[v11_1]?).bind fun x165 => (bif (x165.kind != 3) then some ((Ty.mk 0 []), 5) else (s_f94_l11 n a2 (v11_1 + 1)))) else some ((Ty.mk 1 []), 0))
def s_f94_l12 : Nat → (List Ty) → Nat → Option (Ty × Int)
  | 0, _, _ => none
  | n + 1, a2, v12_1 => (bif (decide ((v12_1 : Int) < (a2.length : Int))) then ((a2[v12_1]?).bind fun x175 => (bif (x175.kind != 0) then some ((Ty.mk 0 []), 5) else (s_f94_l12 n a2 (v12_1 + 1)))) else some ((Ty.mk 0 []), 0))
end
def s_f94 (n : Nat) (a0 : ByteArray) (a1 : Int) (a2 : List Ty) : Option (Ty × Int) :=
  (bif (a0.data.toList == [97, 116]) then ((a2[0]?).bind fun x2 => (bif (x2.kind != 4) then some ((Ty.mk 0 []), 5) else (bif (decide (a1 < 0)) then some ((Ty.mk 0 []), 1) else ((a2[0]?).bind fun x6 => (bif (decide (a1 ≥ (x6.of.length : Int))) then some ((Ty.mk 0 []), 1) else ((a2[0]?).bind fun x9 => (if 0 ≤ a1 then ((x9.of[a1.toNat]?).bind fun x11 => some (x11, 0)) else none))))))) else (bif (a0.data.toList == [116, 117, 112]) then ((s_f56 n (Ty.mk 4 a2)).bind fun q15 => (bif (q15 != 0) then some ((Ty.mk 0 []), 9) else some ((Ty.mk 4 a2), 0))) else (bif (a0.data.toList == [101, 113]) then ((a2[0]?).bind fun x19 => ((a2[1]?).bind fun x21 => ((s_f65 n x19 x21).bind fun q23 => (bif (!q23) then some ((Ty.mk 0 []), 5) else some ((Ty.mk 2 []), 0))))) else (bif (a0.data.toList == [108, 116]) then ((a2[0]?).bind fun x27 => ((a2[1]?).bind fun x29 => ((s_f65 n x27 x29).bind fun q31 => (bif (!q31) then some ((Ty.mk 0 []), 5) else some ((Ty.mk 2 []), 0))))) else (bif (a0.data.toList == [105, 102]) then ((a2[0]?).bind fun x35 => (bif (x35.kind != 2) then some ((Ty.mk 0 []), 5) else ((a2[1]?).bind fun x38 => ((a2[2]?).bind fun x40 => ((s_f65 n x38 x40).bind fun q42 => (bif (!q42) then some ((Ty.mk 0 []), 5) else ((a2[1]?).bind fun x45 => some (x45, 0)))))))) else (bif (a0.data.toList == [110, 101, 103]) then (s_f94_l1 n a2 0) else (bif (a0.data.toList == [97, 100, 100]) then (s_f94_l1 n a2 0) else (bif (a0.data.toList == [115, 117, 98]) then (s_f94_l1 n a2 0) else (bif (a0.data.toList == [109, 117, 108]) then (s_f94_l1 n a2 0) else (bif (a0.data.toList == [100, 105, 118]) then (s_f94_l1 n a2 0) else (bif (a0.data.toList == [114, 101, 109]) then (s_f94_l1 n a2 0) else (bif (a0.data.toList == [110, 111, 116]) then (s_f94_l7 n a2 0) else (bif (a0.data.toList == [97, 110, 100]) then (s_f94_l7 n a2 0) else (bif (a0.data.toList == [111, 114]) then (s_f94_l7 n a2 0) else (bif (a0.data.toList == [99, 97, 116]) then (s_f94_l10 n a2 0) else (bif (a0.data.toList == [108, 101, 110]) then (s_f94_l11 n a2 0) else (s_f94_l12 n a2 0)))))))))))))))))

mutual
def s_f21 : Nat → Val → Option Ty
  | 0, _ => none
  | n + 1, a0 => (s_f21_l1 n a0 0 [])
def s_f21_l1 : Nat → Val → Nat → (List Ty) → Option Ty
  | 0, _, _, _ => none
  | n + 1, a0, v1_1, v1_2 => (bif (decide ((v1_1 : Int) < (a0.t.length : Int))) then ((a0.t[v1_1]?).bind fun x10 => ((s_f21 n x10).bind fun q12 => (if v1_2.length + 1 ≤ 1000000 then (s_f21_l1 n a0 (v1_1 + 1) (v1_2 ++ [q12])) else none))) else some (Ty.mk a0.kind v1_2))
end

end Go.Proofs.Ytbcjcekoonebiaa.Tl

set_option linter.unusedVariables false
set_option linter.unusedSimpArgs false
namespace Go.Proofs.Ytbcjcekoonebiaa.Tl
open Go Go.RowKit
mutual
def s_f58 : Nat → Ex → Ty → Int → Option (Ty × Int)
  | 0, _, _, _ => none
  | n + 1, a0, a1, a2 => ((s_f92 n a0.op).bind fun q1 => (bif (q1 == (-2)) then some ((Ty.mk 0 []), 6) else (bif (decide (a2 > 12)) then some ((Ty.mk 0 []), 9) else (bif (((decide (q1 ≥ 0)) && ((a0.a.length : Int) != q1)) || ((decide (q1 < 0)) && ((decide ((a0.a.length : Int) < 1)) || (decide ((a0.a.length : Int) > 8))))) then some ((Ty.mk 0 []), 1) else (bif (((a0.op.data.toList != [97, 116]) && (a0.n != 0)) || ((a0.op.data.toList != [108, 105, 116]) && (!(((((a0.v.kind == 0) && (a0.v.i == 0)) && (!a0.v.b)) && (a0.v.s.data.toList == [])) && ((a0.v.t.length : Int) == 0))))) then some ((Ty.mk 0 []), 1) else (bif (a0.op.data.toList == [108, 105, 116]) then ((s_f34 n a0.v).bind fun q22 => (bif (q22 != 0) then some ((Ty.mk 0 []), q22) else ((s_f21 n a0.v).bind fun q25 => some (q25, 0)))) else (bif (a0.op.data.toList == [120]) then some (a1, 0) else (s_f58_l1 n a0 a1 a2 [] 0))))))))
def s_f58_l1 : Nat → Ex → Ty → Int → (List Ty) → Nat → Option (Ty × Int)
  | 0, _, _, _, _, _ => none
  | n + 1, a0, a1, a2, v1_1, v1_2 => (bif (decide ((v1_2 : Int) < (a0.a.length : Int))) then ((a0.a[v1_2]?).bind fun x38 => ((s_f58 n x38 a1 (IntKind.i64.wrap (a2 + 1))).bind fun q40 => (bif (q40.2 != 0) then some ((Ty.mk 0 []), q40.2) else (if v1_1.length + 1 ≤ 1000000 then (s_f58_l1 n a0 a1 a2 (v1_1 ++ [q40.1]) (v1_2 + 1)) else none)))) else ((s_f94 n a0.op a0.n v1_1).bind fun q44 => some (q44.1, q44.2)))
end

def s_f20 (n : Nat) (a0 : Ex) (a1 : Ty) : Option (Ty × Int) :=
  ((s_f56 n a1).bind fun q1 => (bif (q1 != 0) then some ((Ty.mk 0 []), 5) else ((s_f57 n a0).bind fun q4 => (bif (decide (q4 > 256)) then some ((Ty.mk 0 []), 10) else ((s_f58 n a0 a1 0).bind fun q7 => some (q7.1, q7.2))))))

end Go.Proofs.Ytbcjcekoonebiaa.Tl

set_option linter.unusedVariables false
set_option linter.unusedSimpArgs false
namespace Go.Proofs.Ytbcjcekoonebiaa.Tl
open Go Go.RowKit
mutual
def s_f64 : Nat → Val → Val → Option Int
  | 0, _, _ => none
  | n + 1, a0, a1 => (bif (a0.kind != a1.kind) then ((s_f100 n (decide (a0.kind < a1.kind))).bind fun q2 => some q2) else (bif (a0.i != a1.i) then ((s_f100 n (decide (a0.i < a1.i))).bind fun q5 => some q5) else (bif (a0.b != a1.b) then ((s_f100 n a1.b).bind fun q8 => some q8) else (bif (a0.s.data.toList != a1.s.data.toList) then ((s_f100 n (Op.bytesLess a0.s.data.toList a1.s.data.toList)).bind fun q11 => some q11) else (s_f64_l1 n a0 a1 0)))))
def s_f64_l1 : Nat → Val → Val → Int → Option Int
  | 0, _, _, _ => none
  | n + 1, a0, a1, v1_1 => (bif ((decide (v1_1 < (a0.t.length : Int))) && (decide (v1_1 < (a1.t.length : Int)))) then (if 0 ≤ v1_1 then ((a0.t[v1_1.toNat]?).bind fun x28 => (if 0 ≤ v1_1 then ((a1.t[v1_1.toNat]?).bind fun x31 => ((s_f64 n x28 x31).bind fun q34 => (bif (q34 != 0) then some q34 else (s_f64_l1 n a0 a1 (IntKind.i64.wrap (v1_1 + 1)))))) else none)) else none) else (bif ((a0.t.length : Int) != (a1.t.length : Int)) then ((s_f100 n (decide ((a0.t.length : Int) < (a1.t.length : Int)))).bind fun q38 => some q38) else some 0))
end

theorem w_f64_a (n : Nat) (ih : ∀ (m : Nat) (a0 : Val) (a1 : Val) (r : Int), s_f64 m a0 a1 = some r → m < n → ACall Try.prog 64 [.agg (valC a0), .agg (valC a1)] (.int .i64 r)) (a0 : Val) (a1 : Val) (r : Int) (hr : s_f64 n a0 a1 = some r) : ACall Try.prog 64 [.agg (valC a0), .agg (valC a1)] (.int .i64 r) := by
  refine ACall.go [(0, .agg (valC a0)), (1, .agg (valC a1))] Try.func64 rfl Try.ntmps64 rfl rfl (by simp [pureA, pureL, pureR, inA, inL, inR, inO, idsIn, encs_pure, enxs_pure, enys_pure, valC_pure, exC_pure, tyC_pure]) ?_
  cases n with
  | zero => rw [s_f64] at hr; cases hr
  | succ n =>
    rw [s_f64] at hr
    refine AW.seq ?_
    refine AW.region (M := fun _ => true) ?_
    refine AL.bx good (d := 2) (l := [.int .i64 a0.kind, .int .i64 a0.i, .bool a0.b, .str a0.s, .sl .ro 5 (encs a0.t)]) rfl rfl rfl rfl rfl rfl 0 rfl ?_
    refine AL.bx good (d := 3) (l := [.int .i64 a1.kind, .int .i64 a1.i, .bool a1.b, .str a1.s, .sl .ro 5 (encs a1.t)]) rfl rfl rfl rfl rfl rfl 1 rfl ?_
    refine AL.v good (d := 4) (v := .int .i64 0) rfl rfl rfl rfl ?_
    refine AW.seq ?_
    refine AW.block ?_
    refine AW.seq ?_
    refine AW.region (M := fun _ => true) ?_
    refine AL.v good (d := 8) (v := .ptr 0 0) rfl rfl rfl rfl ?_
    refine AL.v good (d := 9) (v := .int .i64 a0.kind) rfl rfl rfl rfl ?_
    refine AL.v good (d := 10) (v := .ptr 1 0) rfl rfl rfl rfl ?_
    refine AL.v good (d := 11) (v := .int .i64 a1.kind) rfl rfl rfl rfl ?_
    refine AL.v good (d := 12) (v := .bool (a0.kind != a1.kind)) rfl rfl rfl rfl ?_
    refine AL.v good (d := 7) (v := .bool (a0.kind != a1.kind)) rfl rfl rfl rfl ?_
    refine AW.if rfl (fun h1 => ?_) (fun h1 => ?_)
    · replace hr := cnd_t h1 hr
      refine AW.seq ?_
      refine AW.region (M := fun _ => true) ?_
      refine AL.v good (d := 13) (v := .ptr 0 0) rfl rfl rfl rfl ?_
      refine AL.v good (d := 14) (v := .int .i64 a0.kind) rfl rfl rfl rfl ?_
      refine AL.v good (d := 15) (v := .ptr 1 0) rfl rfl rfl rfl ?_
      refine AL.v good (d := 16) (v := .int .i64 a1.kind) rfl rfl rfl rfl ?_
      refine AL.v good (d := 17) (v := .bool (decide (a0.kind < a1.kind))) rfl rfl rfl rfl ?_
      obtain ⟨q2, h3, hr⟩ := bnd1 hr
      refine AL.cw good (d := 18) (xs := [.bool (decide (a0.kind < a1.kind))]) (res := .int .i64 q2) rfl rfl rfl rfl rfl rfl rfl (w_f100 _ _ _ h3) ⟨(Wv.refl _), trivial⟩ (by simp [pureA, pureL, pureR, inA, inL, inR, inO, idsIn, encs_pure, enxs_pure, enys_pure, valC_pure, exC_pure, tyC_pure]) ?_
      refine AL.v good (d := 4) (v := .int .i64 q2) rfl rfl rfl rfl ?_
      refine AW.ret ?_
      obtain rfl := Option.some.inj hr
      exact RetQ.w good (.inr rfl) rfl rfl (Wv.refl _) (by simp [pureA, pureL, pureR, inA, inL, inR, inO, idsIn, encs_pure, enxs_pure, enys_pure, valC_pure, exC_pure, tyC_pure])
    · replace hr := cnd_f h1 hr
      refine AW.seq ?_
      refine AW.region (M := fun _ => true) ?_
      refine AL.v good (d := 20) (v := .ptr 0 1) rfl rfl rfl rfl ?_
      refine AL.v good (d := 21) (v := .int .i64 a0.i) rfl rfl rfl rfl ?_
      refine AL.v good (d := 22) (v := .ptr 1 1) rfl rfl rfl rfl ?_
      refine AL.v good (d := 23) (v := .int .i64 a1.i) rfl rfl rfl rfl ?_
      refine AL.v good (d := 24) (v := .bool (a0.i != a1.i)) rfl rfl rfl rfl ?_
      refine AL.v good (d := 19) (v := .bool (a0.i != a1.i)) rfl rfl rfl rfl ?_
      refine AW.if rfl (fun h4 => ?_) (fun h4 => ?_)
      · replace hr := cnd_t h4 hr
        refine AW.seq ?_
        refine AW.region (M := fun _ => true) ?_
        refine AL.v good (d := 25) (v := .ptr 0 1) rfl rfl rfl rfl ?_
        refine AL.v good (d := 26) (v := .int .i64 a0.i) rfl rfl rfl rfl ?_
        refine AL.v good (d := 27) (v := .ptr 1 1) rfl rfl rfl rfl ?_
        refine AL.v good (d := 28) (v := .int .i64 a1.i) rfl rfl rfl rfl ?_
        refine AL.v good (d := 29) (v := .bool (decide (a0.i < a1.i))) rfl rfl rfl rfl ?_
        obtain ⟨q5, h6, hr⟩ := bnd1 hr
        refine AL.cw good (d := 30) (xs := [.bool (decide (a0.i < a1.i))]) (res := .int .i64 q5) rfl rfl rfl rfl rfl rfl rfl (w_f100 _ _ _ h6) ⟨(Wv.refl _), trivial⟩ (by simp [pureA, pureL, pureR, inA, inL, inR, inO, idsIn, encs_pure, enxs_pure, enys_pure, valC_pure, exC_pure, tyC_pure]) ?_
        refine AL.v good (d := 4) (v := .int .i64 q5) rfl rfl rfl rfl ?_
        refine AW.ret ?_
        obtain rfl := Option.some.inj hr
        exact RetQ.w good (.inr rfl) rfl rfl (Wv.refl _) (by simp [pureA, pureL, pureR, inA, inL, inR, inO, idsIn, encs_pure, enxs_pure, enys_pure, valC_pure, exC_pure, tyC_pure])
      · replace hr := cnd_f h4 hr
        refine AW.seq ?_
        refine AW.region (M := fun _ => true) ?_
        refine AL.v good (d := 32) (v := .ptr 0 2) rfl rfl rfl rfl ?_
        refine AL.v good (d := 33) (v := .bool a0.b) rfl rfl rfl rfl ?_
        refine AL.v good (d := 34) (v := .ptr 1 2) rfl rfl rfl rfl ?_
        refine AL.v good (d := 35) (v := .bool a1.b) rfl rfl rfl rfl ?_
        refine AL.v good (d := 36) (v := .bool (a0.b != a1.b)) rfl rfl rfl rfl ?_
        refine AL.v good (d := 31) (v := .bool (a0.b != a1.b)) rfl rfl rfl rfl ?_
        refine AW.if rfl (fun h7 => ?_) (fun h7 => ?_)
        · replace hr := cnd_t h7 hr
          refine AW.seq ?_
          refine AW.region (M := fun _ => true) ?_
          refine AL.v good (d := 37) (v := .ptr 1 2) rfl rfl rfl rfl ?_
          refine AL.v good (d := 38) (v := .bool a1.b) rfl rfl rfl rfl ?_
          obtain ⟨q8, h9, hr⟩ := bnd1 hr
          refine AL.cw good (d := 39) (xs := [.bool a1.b]) (res := .int .i64 q8) rfl rfl rfl rfl rfl rfl rfl (w_f100 _ _ _ h9) ⟨(Wv.refl _), trivial⟩ (by simp [pureA, pureL, pureR, inA, inL, inR, inO, idsIn, encs_pure, enxs_pure, enys_pure, valC_pure, exC_pure, tyC_pure]) ?_
          refine AL.v good (d := 4) (v := .int .i64 q8) rfl rfl rfl rfl ?_
          refine AW.ret ?_
          obtain rfl := Option.some.inj hr
          exact RetQ.w good (.inr rfl) rfl rfl (Wv.refl _) (by simp [pureA, pureL, pureR, inA, inL, inR, inO, idsIn, encs_pure, enxs_pure, enys_pure, valC_pure, exC_pure, tyC_pure])
        · replace hr := cnd_f h7 hr
          refine AW.seq ?_
          refine AW.region (M := fun _ => true) ?_
          refine AL.v good (d := 41) (v := .ptr 0 3) rfl rfl rfl rfl ?_
          refine AL.v good (d := 42) (v := .str a0.s) rfl rfl rfl rfl ?_
          refine AL.v good (d := 43) (v := .ptr 1 3) rfl rfl rfl rfl ?_
          refine AL.v good (d := 44) (v := .str a1.s) rfl rfl rfl rfl ?_
          refine AL.sb good (d := 45) (b := (a0.s.data.toList != a1.s.data.toList)) rfl rfl rfl rfl rfl rfl rfl ?_
          refine AL.v good (d := 40) (v := .bool (a0.s.data.toList != a1.s.data.toList)) rfl rfl rfl rfl ?_
          refine AW.if rfl (fun h10 => ?_) (fun h10 => ?_)
          · replace hr := cnd_t h10 hr
            refine AW.seq ?_
            refine AW.region (M := fun _ => true) ?_
            refine AL.v good (d := 46) (v := .ptr 0 3) rfl rfl rfl rfl ?_
            refine AL.v good (d := 47) (v := .str a0.s) rfl rfl rfl rfl ?_
            refine AL.v good (d := 48) (v := .ptr 1 3) rfl rfl rfl rfl ?_
            refine AL.v good (d := 49) (v := .str a1.s) rfl rfl rfl rfl ?_
            refine AL.sb good (d := 50) (b := (Op.bytesLess a0.s.data.toList a1.s.data.toList)) rfl rfl rfl rfl rfl rfl rfl ?_
            obtain ⟨q11, h12, hr⟩ := bnd1 hr
            refine AL.cw good (d := 51) (xs := [.bool (Op.bytesLess a0.s.data.toList a1.s.data.toList)]) (res := .int .i64 q11) rfl rfl rfl rfl rfl rfl rfl (w_f100 _ _ _ h12) ⟨(Wv.refl _), trivial⟩ (by simp [pureA, pureL, pureR, inA, inL, inR, inO, idsIn, encs_pure, enxs_pure, enys_pure, valC_pure, exC_pure, tyC_pure]) ?_
            refine AL.v good (d := 4) (v := .int .i64 q11) rfl rfl rfl rfl ?_
            refine AW.ret ?_
            obtain rfl := Option.some.inj hr
            exact RetQ.w good (.inr rfl) rfl rfl (Wv.refl _) (by simp [pureA, pureL, pureR, inA, inL, inR, inO, idsIn, encs_pure, enxs_pure, enys_pure, valC_pure, exC_pure, tyC_pure])
          · replace hr := cnd_f h10 hr
            refine AW.skip ?_
            refine AW.seq ?_
            refine AW.seq ?_
            refine AW.region (M := fun _ => true) ?_
            refine AL.v good (d := 5) (v := .int .i64 0) rfl rfl rfl rfl ?_
            refine AW.block ?_
            refine AW.lpw (fun x : Nat × Int => [(2, .ptr 0 0), (3, .ptr 1 0), (5, .int .i64 x.2)]) (fun x => [(0, .box 33 [.int .i64 a0.kind, .int .i64 a0.i, .bool a0.b, .str a0.s, .sl .ro 5 (encs a0.t)]), (1, .box 33 [.int .i64 a1.kind, .int .i64 a1.i, .bool a1.b, .str a1.s, .sl .ro 5 (encs a1.t)])]) (fun x => s_f64_l1 x.1 a0 a1 x.2 = some r ∧ x.1 ≤ n) (fun x => x.1) (n, 0) ⟨(fun _ h => by cases h), List.forall_mem_cons.2 ⟨⟨⟨_, rfl, Wv.refl _⟩, (by simp [pureA, pureL, pureR, inA, inL, inR, inO, idsIn, encs_pure, enxs_pure, enys_pure, valC_pure, exC_pure, tyC_pure])⟩, List.forall_mem_cons.2 ⟨⟨⟨_, rfl, Wv.refl _⟩, (by simp [pureA, pureL, pureR, inA, inL, inR, inO, idsIn, encs_pure, enxs_pure, enys_pure, valC_pure, exC_pure, tyC_pure])⟩, List.forall_mem_cons.2 ⟨⟨⟨_, rfl, Wv.refl _⟩, (by simp [pureA, pureL, pureR, inA, inL, inR, inO, idsIn, encs_pure, enxs_pure, enys_pure, valC_pure, exC_pure, tyC_pure])⟩, (fun _ h => by cases h)⟩⟩⟩, List.forall_mem_cons.2 ⟨⟨⟨_, rfl, ⟨rfl, ⟨Wv.refl _, Wv.refl _, Wv.refl _, Wv.refl _, Wv.refl _, trivial⟩⟩⟩, (by simp [pureA, pureL, pureR, inA, inL, inR, inO, idsIn, encs_pure, enxs_pure, enys_pure, valC_pure, exC_pure, tyC_pure])⟩, List.forall_mem_cons.2 ⟨⟨⟨_, rfl, ⟨rfl, ⟨Wv.refl _, Wv.refl _, Wv.refl _, Wv.refl _, Wv.refl _, trivial⟩⟩⟩, (by simp [pureA, pureL, pureR, inA, inL, inR, inO, idsIn, encs_pure, enxs_pure, enys_pure, valC_pure, exC_pure, tyC_pure])⟩, (fun _ h => by cases h)⟩⟩⟩ ⟨hr, Nat.le_refl _⟩ (fun ⟨m, v1_1⟩ hx => ?_)
            obtain ⟨hr, hm⟩ := hx
            try dsimp only at hr hm
            cases m with
            | zero => rw [s_f64_l1] at hr; cases hr
            | succ m =>
              rw [s_f64_l1] at hr
              show AW Try.prog _ _ _ (mkS 95 [(2, .ptr 0 0), (3, .ptr 1 0), (5, .int .i64 v1_1)] [(0, .box 33 [.int .i64 a0.kind, .int .i64 a0.i, .bool a0.b, .str a0.s, .sl .ro 5 (encs a0.t)]), (1, .box 33 [.int .i64 a1.kind, .int .i64 a1.i, .bool a1.b, .str a1.s, .sl .ro 5 (encs a1.t)])])
              refine AW.seq ?_
              refine AW.seq ?_
              refine AW.region (M := fun _ => true) ?_
              refine AL.v good (d := 52) (v := .int .i64 v1_1) rfl rfl rfl rfl ?_
              refine AL.v good (d := 53) (v := .ptr 0 4) rfl rfl rfl rfl ?_
              refine AL.v good (d := 54) (v := .sl .ro 5 (encs a0.t)) rfl rfl rfl rfl ?_
              refine AL.ln good (d := 55) (m := a0.t.length) rfl rfl rfl rfl rfl rfl (encs_length _) ?_
              refine AL.v good (d := 56) (v := .bool (decide (v1_1 < (a0.t.length : Int)))) rfl rfl rfl rfl ?_
              refine AL.vb good (d := 57) (b := (decide (v1_1 < (a0.t.length : Int)))) rfl rfl rfl rfl (fun g25 h26 => ?_)
              refine AL.gv good (d := 58) (c := g25) (v := .int .i64 v1_1) (rd := []) rfl rfl (by cases g25 <;> rfl) (fun h => by cases g25 <;> first | rfl | exact absurd h (by decide)) ?_
              refine AL.gv good (d := 59) (c := g25) (v := .ptr 1 4) (rd := []) rfl rfl (by cases g25 <;> rfl) (fun h => by cases g25 <;> first | rfl | exact absurd h (by decide)) ?_
              refine AL.gv good (d := 60) (c := g25) (v := .sl .ro 5 (encs a1.t)) (rd := [(1, .box 33 [.int .i64 a1.kind, .int .i64 a1.i, .bool a1.b, .str a1.s, .sl .ro 5 (encs a1.t)])]) rfl rfl (by cases g25 <;> rfl) (fun h => by cases g25 <;> first | rfl | exact absurd h (by decide)) ?_
              refine AL.gln good (d := 61) (c := g25) (m := a1.t.length) rfl rfl (by cases g25 <;> rfl) rfl rfl (fun h => by cases g25 <;> first | rfl | exact absurd h (by decide)) (encs_length _) ?_
              refine AL.gv good (d := 62) (c := g25) (v := .bool (decide (v1_1 < (a1.t.length : Int)))) (rd := []) rfl rfl (by cases g25 <;> rfl) (fun h => by cases g25 <;> first | rfl | exact absurd h (by decide)) ?_
              refine AL.v good (d := 63) (v := .bool (g25 && (decide (v1_1 < (a1.t.length : Int))))) (rd := []) rfl rfl rfl (by cases g25 <;> rfl) ?_
              subst h26
              refine AW.if rfl (fun h27 => ?_) (fun h27 => ?_)
              · replace hr := cnd_t h27 hr
                refine AW.skip ?_
                refine AW.seq ?_
                refine AW.block ?_
                refine AW.seq ?_
                refine AW.draw (M := fun i => false) good.wide (by kernel_rfl) ?_
                refine AL.v good (d := 66) (v := .ptr 0 4) rfl rfl rfl rfl ?_
                refine AL.v good (d := 67) (v := .sl .ro 5 (encs a0.t)) rfl rfl rfl rfl ?_
                refine AL.v good (d := 68) (v := .int .i64 v1_1) rfl rfl rfl rfl ?_
                obtain ⟨h30, hr⟩ := grd hr
                obtain ⟨x28, h29, hr⟩ := bnd1 hr
                refine AL.ix good (d := 69) (r := [.int .i64 x28.kind, .int .i64 x28.i, .bool x28.b, .str x28.s, .sl .ro 5 (encs x28.t)]) rfl rfl rfl rfl rfl rfl rfl h30 (encs_get h29) ?_
                refine AL.v good (d := 70) (v := .agg [.int .i64 x28.kind, .int .i64 x28.i, .bool x28.b, .str x28.s, .sl .ro 5 (encs x28.t)]) rfl rfl rfl rfl ?_
                refine AL.v good (d := 71) (v := .ptr 1 4) rfl rfl rfl rfl ?_
                refine AL.v good (d := 72) (v := .sl .ro 5 (encs a1.t)) rfl rfl rfl rfl ?_
                refine AL.v good (d := 73) (v := .int .i64 v1_1) rfl rfl rfl rfl ?_
                obtain ⟨h33, hr⟩ := grd hr
                obtain ⟨x31, h32, hr⟩ := bnd1 hr
                refine AL.ix good (d := 74) (r := [.int .i64 x31.kind, .int .i64 x31.i, .bool x31.b, .str x31.s, .sl .ro 5 (encs x31.t)]) rfl rfl rfl rfl rfl rfl rfl h33 (encs_get h32) ?_
                refine AL.v good (d := 75) (v := .agg [.int .i64 x31.kind, .int .i64 x31.i, .bool x31.b, .str x31.s, .sl .ro 5 (encs x31.t)]) rfl rfl rfl rfl ?_
                obtain ⟨q34, h35, hr⟩ := bnd1 hr
                refine AL.cw good (d := 76) (xs := [.agg (valC x28), .agg (valC x31)]) (res := .int .i64 q34) rfl rfl rfl rfl rfl rfl rfl (ih _ _ _ _ h35 (by omega)) ⟨(Wv.refl _), (Wv.refl _), trivial⟩ (by simp [pureA, pureL, pureR, inA, inL, inR, inO, idsIn, encs_pure, enxs_pure, enys_pure, valC_pure, exC_pure, tyC_pure]) ?_
                refine AL.v good (d := 6) (v := .int .i64 q34) rfl rfl rfl rfl ?_
                refine AW.seq ?_
                refine AW.region (M := fun _ => true) ?_
                refine AL.v good (d := 77) (v := .int .i64 q34) rfl rfl rfl rfl ?_
                refine AL.v good (d := 78) (v := .bool (q34 != 0)) rfl rfl rfl rfl ?_
                refine AW.if rfl (fun h36 => ?_) (fun h36 => ?_)
                · replace hr := cnd_t h36 hr
                  refine AW.seq ?_
                  refine AW.region (M := fun _ => true) ?_
                  refine AL.v good (d := 79) (v := .int .i64 q34) rfl rfl rfl rfl ?_
                  refine AL.v good (d := 4) (v := .int .i64 q34) rfl rfl rfl rfl ?_
                  refine AW.ret ?_
                  obtain rfl := Option.some.inj hr
                  exact RetQ.w good (.inr rfl) rfl rfl (Wv.refl _) (by simp [pureA, pureL, pureR, inA, inL, inR, inO, idsIn, encs_pure, enxs_pure, enys_pure, valC_pure, exC_pure, tyC_pure])
                · replace hr := cnd_f h36 hr
                  refine AW.skip ?_
                  refine AW.region (M := fun _ => true) ?_
                  refine AL.v good (d := 64) (v := .int .i64 v1_1) rfl rfl rfl rfl ?_
                  refine AL.v good (d := 65) (v := .int .i64 (IntKind.i64.wrap (v1_1 + 1))) rfl rfl rfl rfl ?_
                  refine AL.v good (d := 5) (v := .int .i64 (IntKind.i64.wrap (v1_1 + 1))) rfl rfl rfl rfl ?_
                  exact ⟨(m, (IntKind.i64.wrap (v1_1 + 1))), _, _, rfl, ⟨(fun _ h => by cases h), List.forall_mem_cons.2 ⟨⟨⟨_, rfl, Wv.refl _⟩, (by simp [pureA, pureL, pureR, inA, inL, inR, inO, idsIn, encs_pure, enxs_pure, enys_pure, valC_pure, exC_pure, tyC_pure])⟩, List.forall_mem_cons.2 ⟨⟨⟨_, rfl, Wv.refl _⟩, (by simp [pureA, pureL, pureR, inA, inL, inR, inO, idsIn, encs_pure, enxs_pure, enys_pure, valC_pure, exC_pure, tyC_pure])⟩, List.forall_mem_cons.2 ⟨⟨⟨_, rfl, Wv.refl _⟩, (by simp [pureA, pureL, pureR, inA, inL, inR, inO, idsIn, encs_pure, enxs_pure, enys_pure, valC_pure, exC_pure, tyC_pure])⟩, (fun _ h => by cases h)⟩⟩⟩, List.forall_mem_cons.2 ⟨⟨⟨_, rfl, ⟨rfl, ⟨Wv.refl _, Wv.refl _, Wv.refl _, Wv.refl _, Wv.refl _, trivial⟩⟩⟩, (by simp [pureA, pureL, pureR, inA, inL, inR, inO, idsIn, encs_pure, enxs_pure, enys_pure, valC_pure, exC_pure, tyC_pure])⟩, List.forall_mem_cons.2 ⟨⟨⟨_, rfl, ⟨rfl, ⟨Wv.refl _, Wv.refl _, Wv.refl _, Wv.refl _, Wv.refl _, trivial⟩⟩⟩, (by simp [pureA, pureL, pureR, inA, inL, inR, inO, idsIn, encs_pure, enxs_pure, enys_pure, valC_pure, exC_pure, tyC_pure])⟩, (fun _ h => by cases h)⟩⟩⟩, ⟨hr, Nat.le_of_succ_le hm⟩, Nat.lt_succ_self _⟩
              · replace hr := cnd_f h27 hr
                refine AW.exit ?_
                refine AW.seq ?_
                refine AW.seq ?_
                refine AW.region (M := fun _ => true) ?_
                refine AL.v good (d := 80) (v := .ptr 0 4) rfl rfl rfl rfl ?_
                refine AL.v good (d := 81) (v := .sl .ro 5 (encs a0.t)) rfl rfl rfl rfl ?_
                refine AL.ln good (d := 82) (m := a0.t.length) rfl rfl rfl rfl rfl rfl (encs_length _) ?_
                refine AL.v good (d := 83) (v := .ptr 1 4) rfl rfl rfl rfl ?_
                refine AL.v good (d := 84) (v := .sl .ro 5 (encs a1.t)) rfl rfl rfl rfl ?_
                refine AL.ln good (d := 85) (m := a1.t.length) rfl rfl rfl rfl rfl rfl (encs_length _) ?_
                refine AL.v good (d := 86) (v := .bool ((a0.t.length : Int) != (a1.t.length : Int))) rfl rfl rfl rfl ?_
                refine AW.if rfl (fun h37 => ?_) (fun h37 => ?_)
                · replace hr := cnd_t h37 hr
                  refine AW.seq ?_
                  refine AW.region (M := fun _ => true) ?_
                  refine AL.v good (d := 87) (v := .ptr 0 4) rfl rfl rfl rfl ?_
                  refine AL.v good (d := 88) (v := .sl .ro 5 (encs a0.t)) rfl rfl rfl rfl ?_
                  refine AL.ln good (d := 89) (m := a0.t.length) rfl rfl rfl rfl rfl rfl (encs_length _) ?_
                  refine AL.v good (d := 90) (v := .ptr 1 4) rfl rfl rfl rfl ?_
                  refine AL.v good (d := 91) (v := .sl .ro 5 (encs a1.t)) rfl rfl rfl rfl ?_
                  refine AL.ln good (d := 92) (m := a1.t.length) rfl rfl rfl rfl rfl rfl (encs_length _) ?_
                  refine AL.v good (d := 93) (v := .bool (decide ((a0.t.length : Int) < (a1.t.length : Int)))) rfl rfl rfl rfl ?_
                  obtain ⟨q38, h39, hr⟩ := bnd1 hr
                  refine AL.cw good (d := 94) (xs := [.bool (decide ((a0.t.length : Int) < (a1.t.length : Int)))]) (res := .int .i64 q38) rfl rfl rfl rfl rfl rfl rfl (w_f100 _ _ _ h39) ⟨(Wv.refl _), trivial⟩ (by simp [pureA, pureL, pureR, inA, inL, inR, inO, idsIn, encs_pure, enxs_pure, enys_pure, valC_pure, exC_pure, tyC_pure]) ?_
                  refine AL.v good (d := 4) (v := .int .i64 q38) rfl rfl rfl rfl ?_
                  refine AW.ret ?_
                  obtain rfl := Option.some.inj hr
                  exact RetQ.w good (.inr rfl) rfl rfl (Wv.refl _) (by simp [pureA, pureL, pureR, inA, inL, inR, inO, idsIn, encs_pure, enxs_pure, enys_pure, valC_pure, exC_pure, tyC_pure])
                · replace hr := cnd_f h37 hr
                  refine AW.skip ?_
                  refine AW.seq ?_
                  refine AW.region (M := fun _ => true) ?_
                  refine AL.v good (d := 4) (v := .int .i64 0) rfl rfl rfl rfl ?_
                  refine AW.ret ?_
                  obtain rfl := Option.some.inj hr
                  exact RetQ.w good (.inr rfl) rfl rfl (Wv.refl _) (by simp [pureA, pureL, pureR, inA, inL, inR, inO, idsIn, encs_pure, enxs_pure, enys_pure, valC_pure, exC_pure, tyC_pure])
theorem w_f64 (n : Nat) : ∀ (a0 : Val) (a1 : Val) (r : Int) (hr : s_f64 n a0 a1 = some r), ACall Try.prog 64 [.agg (valC a0), .agg (valC a1)] (.int .i64 r) := by
  induction n using Nat.strongRecOn with
  | _ n ih =>
    intro a0 a1 r hr
    exact w_f64_a n (fun m a0 a1 r h hm => ih m hm a0 a1 r h) a0 a1 r hr

def s_f25 (n : Nat) (a0 : Val) (a1 : Val) : Option Bool :=
  ((s_f64 n a0 a1).bind fun q1 => some (q1 == 0))

theorem w_f25 (n : Nat) (a0 : Val) (a1 : Val) (r : Bool) (hr : s_f25 n a0 a1 = some r) : ACall Try.prog 25 [.agg (valC a0), .agg (valC a1)] (.bool r) := by
  refine ACall.go [(0, .agg (valC a0)), (1, .agg (valC a1))] Try.func25 rfl Try.ntmps25 rfl rfl (by simp [pureA, pureL, pureR, inA, inL, inR, inO, idsIn, encs_pure, enxs_pure, enys_pure, valC_pure, exC_pure, tyC_pure]) ?_
  rw [s_f25] at hr
  refine AW.seq ?_
  refine AW.region (M := fun _ => true) ?_
  refine AL.bx good (d := 2) (l := [.int .i64 a0.kind, .int .i64 a0.i, .bool a0.b, .str a0.s, .sl .ro 5 (encs a0.t)]) rfl rfl rfl rfl rfl rfl 0 rfl ?_
  refine AL.bx good (d := 3) (l := [.int .i64 a1.kind, .int .i64 a1.i, .bool a1.b, .str a1.s, .sl .ro 5 (encs a1.t)]) rfl rfl rfl rfl rfl rfl 1 rfl ?_
  refine AL.v good (d := 4) (v := .bool false) rfl rfl rfl rfl ?_
  refine AW.seq ?_
  refine AW.region (M := fun _ => true) ?_
  refine AL.v good (d := 5) (v := .agg [.int .i64 a0.kind, .int .i64 a0.i, .bool a0.b, .str a0.s, .sl .ro 5 (encs a0.t)]) rfl rfl rfl rfl ?_
  refine AL.v good (d := 6) (v := .agg [.int .i64 a1.kind, .int .i64 a1.i, .bool a1.b, .str a1.s, .sl .ro 5 (encs a1.t)]) rfl rfl rfl rfl ?_
  obtain ⟨q1, h2, hr⟩ := bnd1 hr
  refine AL.cw good (d := 7) (xs := [.agg (valC a0), .agg (valC a1)]) (res := .int .i64 q1) rfl rfl rfl rfl rfl rfl rfl (w_f64 _ _ _ _ h2) ⟨(Wv.refl _), (Wv.refl _), trivial⟩ (by simp [pureA, pureL, pureR, inA, inL, inR, inO, idsIn, encs_pure, enxs_pure, enys_pure, valC_pure, exC_pure, tyC_pure]) ?_
  refine AL.v good (d := 8) (v := .bool (q1 == 0)) rfl rfl rfl rfl ?_
  refine AL.v good (d := 4) (v := .bool (q1 == 0)) rfl rfl rfl rfl ?_
  refine AW.ret ?_
  obtain rfl := Option.some.inj hr
  exact RetQ.w good (.inr rfl) rfl rfl (Wv.refl _) (by simp [pureA, pureL, pureR, inA, inL, inR, inO, idsIn, encs_pure, enxs_pure, enys_pure, valC_pure, exC_pure, tyC_pure])

end Go.Proofs.Ytbcjcekoonebiaa.Tl

set_option linter.unusedVariables false
set_option linter.unusedSimpArgs false
namespace Go.Proofs.Ytbcjcekoonebiaa.Tl
open Go Go.RowKit
def s_f26 (n : Nat) (a0 : Val) (a1 : Ty) : Option Bool :=
  ((s_f34 n a0).bind fun q1 => (bif (q1 == 0) then ((s_f21 n a0).bind fun q4 => ((s_f65 n q4 a1).bind fun q6 => some q6)) else some false))

def s_f63 (n : Nat) (a0 : ByteArray) (a1 : Int) (a2 : List Val) : Option (Val × Int) :=
  (bif (a0.data.toList == [97, 116]) then ((a2[0]?).bind fun x2 => (if 0 ≤ a1 then ((x2.t[a1.toNat]?).bind fun x4 => some (x4, 0)) else none)) else (bif (a0.data.toList == [116, 117, 112]) then (if a2.length ≤ 1000000 then some ((Val.mk 4 0 false ⟨#[]⟩ a2), 0) else none) else (bif (a0.data.toList == [110, 101, 103]) then ((a2[0]?).bind fun x10 => some ((Val.mk 1 (IntKind.i64.wrap (0 - x10.i)) false ⟨#[]⟩ []), 0)) else (bif (a0.data.toList == [110, 111, 116]) then ((a2[0]?).bind fun x13 => some ((Val.mk 2 0 (!x13.b) ⟨#[]⟩ []), 0)) else (bif (a0.data.toList == [108, 101, 110]) then ((a2[0]?).bind fun x16 => some ((Val.mk 1 (x16.s.size : Int) false ⟨#[]⟩ []), 0)) else (bif (a0.data.toList == [97, 100, 100]) then ((a2[0]?).bind fun x19 => ((a2[1]?).bind fun x21 => some ((Val.mk 1 (IntKind.i64.wrap (x19.i + x21.i)) false ⟨#[]⟩ []), 0))) else (bif (a0.data.toList == [115, 117, 98]) then ((a2[0]?).bind fun x24 => ((a2[1]?).bind fun x26 => some ((Val.mk 1 (IntKind.i64.wrap (x24.i - x26.i)) false ⟨#[]⟩ []), 0))) else (bif (a0.data.toList == [109, 117, 108]) then ((a2[0]?).bind fun x29 => ((a2[1]?).bind fun x31 => some ((Val.mk 1 (IntKind.i64.wrap (x29.i * x31.i)) false ⟨#[]⟩ []), 0))) else (bif (a0.data.toList == [101, 113]) then ((a2[0]?).bind fun x34 => ((a2[1]?).bind fun x36 => ((s_f25 n x34 x36).bind fun q38 => some ((Val.mk 2 0 q38 ⟨#[]⟩ []), 0)))) else (bif (a0.data.toList == [108, 116]) then ((a2[0]?).bind fun x41 => ((a2[1]?).bind fun x43 => ((s_f64 n x41 x43).bind fun q45 => some ((Val.mk 2 0 (decide (q45 < 0)) ⟨#[]⟩ []), 0)))) else (bif (a0.data.toList == [99, 97, 116]) then ((a2[0]?).bind fun x48 => ((a2[1]?).bind fun x50 => (if x48.s.size + x50.s.size ≤ 1000000 then (bif (decide (((x48.s ++ x50.s).size : Int) > 255)) then some ((Val.mk 0 0 false ⟨#[]⟩ []), 4) else some ((Val.mk 3 0 false (x48.s ++ x50.s) []), 0)) else none))) else ((a2[1]?).bind fun x54 => (bif (x54.i == 0) then some ((Val.mk 0 0 false ⟨#[]⟩ []), 8) else ((a2[1]?).bind fun x57 => (bif (x57.i == (-1)) then (bif (a0.data.toList == [100, 105, 118]) then ((a2[0]?).bind fun x61 => some ((Val.mk 1 (IntKind.i64.wrap (0 - x61.i)) false ⟨#[]⟩ []), 0)) else some ((Val.mk 1 0 false ⟨#[]⟩ []), 0)) else (bif (a0.data.toList == [100, 105, 118]) then ((a2[0]?).bind fun x64 => ((a2[1]?).bind fun x66 => (if x66.i ≠ 0 then some ((Val.mk 1 (IntKind.i64.wrap (x64.i.tdiv x66.i)) false ⟨#[]⟩ []), 0) else none))) else ((a2[0]?).bind fun x69 => ((a2[1]?).bind fun x71 => (if x71.i ≠ 0 then some ((Val.mk 1 (x69.i.tmod x71.i) false ⟨#[]⟩ []), 0) else none)))))))))))))))))))

theorem w_f63 (n : Nat) (a0 : ByteArray) (a1 : Int) (a2 : List Val) (r : Val × Int) (hr : s_f63 n a0 a1 a2 = some r) : ACall Try.prog 63 [.str a0, .int .i64 a1, .sl .ro 5 (encs a2)] (.tup [.agg (valC r.1), .int .i64 r.2]) := by
  refine ACall.go [(0, .str a0), (1, .int .i64 a1), (2, .sl .ro 5 (encs a2))] Try.func63 rfl Try.ntmps63 rfl rfl (by simp [pureA, pureL, pureR, inA, inL, inR, inO, idsIn, encs_pure, enxs_pure, enys_pure, valC_pure, exC_pure, tyC_pure]) ?_
  rw [s_f63] at hr
  refine AW.seq ?_
  refine AW.region (M := fun _ => true) ?_
  refine AL.alc good (d := 6) rfl rfl rfl rfl rfl 0 rfl ?_
  refine AL.v good (d := 7) (v := .int .i64 0) rfl rfl rfl rfl ?_
  refine AW.seq ?_
  refine AW.seq ?_
  refine AW.region (M := fun _ => true) ?_
  refine AL.v good (d := 9) (v := .str a0) rfl rfl rfl rfl ?_
  refine AW.block ?_
  refine AW.seq ?_
  refine AW.region (M := fun _ => true) ?_
  refine AL.sb good (d := 11) (b := (a0.data.toList == [97, 116])) rfl rfl rfl rfl rfl rfl rfl ?_
  refine AL.v good (d := 10) (v := .bool (a0.data.toList == [97, 116])) rfl rfl rfl rfl ?_
  refine AW.if rfl (fun h1 => ?_) (fun h1 => ?_)
  · replace hr := cnd_t h1 hr
    refine AW.seq ?_
    refine AW.region (M := fun _ => true) ?_
    refine AL.v good (d := 12) (v := .sl .ro 5 (encs a2)) rfl rfl rfl rfl ?_
    obtain ⟨x2, h3, hr⟩ := bnd1 hr
    refine AL.ix good (d := 13) (r := [.int .i64 x2.kind, .int .i64 x2.i, .bool x2.b, .str x2.s, .sl .ro 5 (encs x2.t)]) rfl rfl rfl rfl rfl rfl rfl (by decide) (encs_get h3) ?_
    refine AL.v good (d := 14) (v := .ep [.sl .ro 5 (encs x2.t)]) rfl rfl rfl rfl ?_
    refine AL.v good (d := 15) (v := .sl .ro 5 (encs x2.t)) rfl rfl rfl rfl ?_
    refine AL.v good (d := 16) (v := .int .i64 a1) rfl rfl rfl rfl ?_
    obtain ⟨h6, hr⟩ := grd hr
    obtain ⟨x4, h5, hr⟩ := bnd1 hr
    refine AL.ix good (d := 17) (r := [.int .i64 x4.kind, .int .i64 x4.i, .bool x4.b, .str x4.s, .sl .ro 5 (encs x4.t)]) rfl rfl rfl rfl rfl rfl rfl h6 (encs_get h5) ?_
    refine AL.v good (d := 18) (v := .agg [.int .i64 x4.kind, .int .i64 x4.i, .bool x4.b, .str x4.s, .sl .ro 5 (encs x4.t)]) rfl rfl rfl rfl ?_
    refine AL.st2 good (c2 := [.int .i64 x4.kind, .int .i64 x4.i, .bool x4.b, .str x4.s, .sl .ro 5 (encs x4.t)]) rfl rfl rfl rfl rfl rfl rfl rfl rfl rfl rfl rfl ?_
    refine AL.v good (d := 7) (v := .int .i64 0) rfl rfl rfl rfl ?_
    refine AW.ret ?_
    obtain rfl := Option.some.inj hr
    exact RetQ.w good (.inr rfl) rfl rfl (Wv.refl _) (by simp [pureA, pureL, pureR, inA, inL, inR, inO, idsIn, encs_pure, enxs_pure, enys_pure, valC_pure, exC_pure, tyC_pure])
  · replace hr := cnd_f h1 hr
    refine AW.seq ?_
    refine AW.region (M := fun _ => true) ?_
    refine AL.sb good (d := 20) (b := (a0.data.toList == [116, 117, 112])) rfl rfl rfl rfl rfl rfl rfl ?_
    refine AL.v good (d := 19) (v := .bool (a0.data.toList == [116, 117, 112])) rfl rfl rfl rfl ?_
    refine AW.if rfl (fun h7 => ?_) (fun h7 => ?_)
    · replace hr := cnd_t h7 hr
      refine AW.seq ?_
      refine AW.region (M := fun _ => true) ?_
      refine AL.lit good (d := 21) (rows := []) rfl rfl rfl rfl rfl rfl rfl rfl rfl 1 rfl ?_
      refine AL.v good (d := 22) (v := .sl .ro 5 (encs a2)) rfl rfl rfl rfl ?_
      obtain ⟨h8, hr⟩ := grd hr
      refine AL.aw2 good (d := 23) (rows := encs []) (news := encs a2) (rows2 := encs a2) rfl rfl rfl rfl rfl rfl rfl rfl rfl (by simp) rfl rfl rfl (WvR.refl _) (by simp [encs_map]) (by rw [encs_length]; exact h8) rfl ?_
      refine AL.bld good (d := 24) (l := [.int .i64 4, .int .i64 0, .bool false, .str ⟨#[]⟩, .sl (.own 1) 5 (encs a2)]) rfl rfl rfl rfl rfl rfl rfl ?_
      refine AL.st2 good (c2 := [.int .i64 4, .int .i64 0, .bool false, .str ⟨#[]⟩, .sl (.own 1) 5 (encs a2)]) rfl rfl rfl rfl rfl rfl rfl rfl rfl rfl rfl rfl ?_
      refine AL.v good (d := 7) (v := .int .i64 0) rfl rfl rfl rfl ?_
      refine AW.ret ?_
      obtain rfl := Option.some.inj hr
      exact RetQ.w good (.inr rfl) rfl rfl ⟨⟨Wv.refl _, Wv.refl _, Wv.refl _, Wv.refl _, ⟨.inr rfl, WvR.refl _, .inl rfl⟩, trivial⟩, Wv.refl _, trivial⟩ (by simp [pureA, pureL, pureR, inA, inL, inR, inO, idsIn, encs_pure, enxs_pure, enys_pure, valC_pure, exC_pure, tyC_pure])
    · replace hr := cnd_f h7 hr
      refine AW.seq ?_
      refine AW.region (M := fun _ => true) ?_
      refine AL.sb good (d := 26) (b := (a0.data.toList == [110, 101, 103])) rfl rfl rfl rfl rfl rfl rfl ?_
      refine AL.v good (d := 25) (v := .bool (a0.data.toList == [110, 101, 103])) rfl rfl rfl rfl ?_
      refine AW.if rfl (fun h9 => ?_) (fun h9 => ?_)
      · replace hr := cnd_t h9 hr
        refine AW.seq ?_
        refine AW.region (M := fun _ => true) ?_
        refine AL.v good (d := 27) (v := .sl .ro 5 (encs a2)) rfl rfl rfl rfl ?_
        obtain ⟨x10, h11, hr⟩ := bnd1 hr
        refine AL.ix good (d := 28) (r := [.int .i64 x10.kind, .int .i64 x10.i, .bool x10.b, .str x10.s, .sl .ro 5 (encs x10.t)]) rfl rfl rfl rfl rfl rfl rfl (by decide) (encs_get h11) ?_
        refine AL.v good (d := 29) (v := .ep [.int .i64 x10.i, .bool x10.b, .str x10.s, .sl .ro 5 (encs x10.t)]) rfl rfl rfl rfl ?_
        refine AL.v good (d := 30) (v := .int .i64 x10.i) rfl rfl rfl rfl ?_
        refine AL.v good (d := 31) (v := .int .i64 (IntKind.i64.wrap (0 - x10.i))) rfl rfl rfl rfl ?_
        refine AL.cw good (d := 32) (xs := [.int .i64 (IntKind.i64.wrap (0 - x10.i))]) (res := .agg [.int .i64 1, .int .i64 (IntKind.i64.wrap (0 - x10.i)), .bool false, .str ⟨#[]⟩, .sl .ro 5 (encs [])]) rfl rfl rfl rfl rfl rfl rfl (w_f53 (IntKind.i64.wrap (0 - x10.i))) ⟨(Wv.refl _), trivial⟩ (by simp [pureA, pureL, pureR, inA, inL, inR, inO, idsIn, encs_pure, enxs_pure, enys_pure, valC_pure, exC_pure, tyC_pure]) ?_
        refine AL.st2 good (c2 := [.int .i64 1, .int .i64 (IntKind.i64.wrap (0 - x10.i)), .bool false, .str ⟨#[]⟩, .sl .ro 5 (encs [])]) rfl rfl rfl rfl rfl rfl rfl rfl rfl rfl rfl rfl ?_
        refine AL.v good (d := 7) (v := .int .i64 0) rfl rfl rfl rfl ?_
        refine AW.ret ?_
        obtain rfl := Option.some.inj hr
        exact RetQ.w good (.inr rfl) rfl rfl (Wv.refl _) (by simp [pureA, pureL, pureR, inA, inL, inR, inO, idsIn, encs_pure, enxs_pure, enys_pure, valC_pure, exC_pure, tyC_pure])
      · replace hr := cnd_f h9 hr
        refine AW.seq ?_
        refine AW.region (M := fun _ => true) ?_
        refine AL.sb good (d := 34) (b := (a0.data.toList == [110, 111, 116])) rfl rfl rfl rfl rfl rfl rfl ?_
        refine AL.v good (d := 33) (v := .bool (a0.data.toList == [110, 111, 116])) rfl rfl rfl rfl ?_
        refine AW.if rfl (fun h12 => ?_) (fun h12 => ?_)
        · replace hr := cnd_t h12 hr
          refine AW.seq ?_
          refine AW.region (M := fun _ => true) ?_
          refine AL.v good (d := 35) (v := .sl .ro 5 (encs a2)) rfl rfl rfl rfl ?_
          obtain ⟨x13, h14, hr⟩ := bnd1 hr
          refine AL.ix good (d := 36) (r := [.int .i64 x13.kind, .int .i64 x13.i, .bool x13.b, .str x13.s, .sl .ro 5 (encs x13.t)]) rfl rfl rfl rfl rfl rfl rfl (by decide) (encs_get h14) ?_
          refine AL.v good (d := 37) (v := .ep [.bool x13.b, .str x13.s, .sl .ro 5 (encs x13.t)]) rfl rfl rfl rfl ?_
          refine AL.v good (d := 38) (v := .bool x13.b) rfl rfl rfl rfl ?_
          refine AL.v good (d := 39) (v := .bool (!x13.b)) rfl rfl rfl rfl ?_
          refine AL.cw good (d := 40) (xs := [.bool (!x13.b)]) (res := .agg [.int .i64 2, .int .i64 0, .bool (!x13.b), .str ⟨#[]⟩, .sl .ro 5 (encs [])]) rfl rfl rfl rfl rfl rfl rfl (w_f99 (!x13.b)) ⟨(Wv.refl _), trivial⟩ (by simp [pureA, pureL, pureR, inA, inL, inR, inO, idsIn, encs_pure, enxs_pure, enys_pure, valC_pure, exC_pure, tyC_pure]) ?_
          refine AL.st2 good (c2 := [.int .i64 2, .int .i64 0, .bool (!x13.b), .str ⟨#[]⟩, .sl .ro 5 (encs [])]) rfl rfl rfl rfl rfl rfl rfl rfl rfl rfl rfl rfl ?_
          refine AL.v good (d := 7) (v := .int .i64 0) rfl rfl rfl rfl ?_
          refine AW.ret ?_
          obtain rfl := Option.some.inj hr
          exact RetQ.w good (.inr rfl) rfl rfl (Wv.refl _) (by simp [pureA, pureL, pureR, inA, inL, inR, inO, idsIn, encs_pure, enxs_pure, enys_pure, valC_pure, exC_pure, tyC_pure])
        · replace hr := cnd_f h12 hr
          refine AW.seq ?_
          refine AW.region (M := fun _ => true) ?_
          refine AL.sb good (d := 42) (b := (a0.data.toList == [108, 101, 110])) rfl rfl rfl rfl rfl rfl rfl ?_
          refine AL.v good (d := 41) (v := .bool (a0.data.toList == [108, 101, 110])) rfl rfl rfl rfl ?_
          refine AW.if rfl (fun h15 => ?_) (fun h15 => ?_)
          · replace hr := cnd_t h15 hr
            refine AW.seq ?_
            refine AW.region (M := fun _ => true) ?_
            refine AL.v good (d := 43) (v := .sl .ro 5 (encs a2)) rfl rfl rfl rfl ?_
            obtain ⟨x16, h17, hr⟩ := bnd1 hr
            refine AL.ix good (d := 44) (r := [.int .i64 x16.kind, .int .i64 x16.i, .bool x16.b, .str x16.s, .sl .ro 5 (encs x16.t)]) rfl rfl rfl rfl rfl rfl rfl (by decide) (encs_get h17) ?_
            refine AL.v good (d := 45) (v := .ep [.str x16.s, .sl .ro 5 (encs x16.t)]) rfl rfl rfl rfl ?_
            refine AL.v good (d := 46) (v := .str x16.s) rfl rfl rfl rfl ?_
            refine AL.v good (d := 47) (v := .int .i64 (x16.s.size : Int)) rfl rfl rfl rfl ?_
            refine AL.cw good (d := 48) (xs := [.int .i64 (x16.s.size : Int)]) (res := .agg [.int .i64 1, .int .i64 (x16.s.size : Int), .bool false, .str ⟨#[]⟩, .sl .ro 5 (encs [])]) rfl rfl rfl rfl rfl rfl rfl (w_f53 (x16.s.size : Int)) ⟨(Wv.refl _), trivial⟩ (by simp [pureA, pureL, pureR, inA, inL, inR, inO, idsIn, encs_pure, enxs_pure, enys_pure, valC_pure, exC_pure, tyC_pure]) ?_
            refine AL.st2 good (c2 := [.int .i64 1, .int .i64 (x16.s.size : Int), .bool false, .str ⟨#[]⟩, .sl .ro 5 (encs [])]) rfl rfl rfl rfl rfl rfl rfl rfl rfl rfl rfl rfl ?_
            refine AL.v good (d := 7) (v := .int .i64 0) rfl rfl rfl rfl ?_
            refine AW.ret ?_
            obtain rfl := Option.some.inj hr
            exact RetQ.w good (.inr rfl) rfl rfl (Wv.refl _) (by simp [pureA, pureL, pureR, inA, inL, inR, inO, idsIn, encs_pure, enxs_pure, enys_pure, valC_pure, exC_pure, tyC_pure])
          · replace hr := cnd_f h15 hr
            refine AW.seq ?_
            refine AW.region (M := fun _ => true) ?_
            refine AL.sb good (d := 50) (b := (a0.data.toList == [97, 100, 100])) rfl rfl rfl rfl rfl rfl rfl ?_
            refine AL.v good (d := 49) (v := .bool (a0.data.toList == [97, 100, 100])) rfl rfl rfl rfl ?_
            refine AW.if rfl (fun h18 => ?_) (fun h18 => ?_)
            · replace hr := cnd_t h18 hr
              refine AW.seq ?_
              refine AW.drawc (M := fun i => ⟨Nat.beq i 10, bif Nat.beq i 3 then some { ids := [] } else bif Nat.beq i 7 then some { ids := [] } else bif Nat.beq i 10 then some { ids := [0] } else none⟩) good.wide (by kernel_rfl) ?_
              refine AL.v (nc := ⟨rfl⟩) good (d := 51) (v := .sl .ro 5 (encs a2)) rfl rfl rfl rfl ?_
              obtain ⟨x19, h20, hr⟩ := bnd1 hr
              refine AL.ix (nc := ⟨rfl⟩) good (d := 52) (r := [.int .i64 x19.kind, .int .i64 x19.i, .bool x19.b, .str x19.s, .sl .ro 5 (encs x19.t)]) rfl rfl rfl rfl rfl rfl rfl (by decide) (encs_get h20) ?_
              refine AL.v (nc := ⟨rfl⟩) good (d := 53) (v := .ep [.int .i64 x19.i, .bool x19.b, .str x19.s, .sl .ro 5 (encs x19.t)]) rfl rfl rfl rfl ?_
              refine AL.vc good (d := 54) (v := .int .i64 x19.i) rfl rfl rfl rfl rfl rfl (fun _ h => by cases h) ?_
              refine AL.v (nc := ⟨rfl⟩) good (d := 55) (v := .sl .ro 5 (encs a2)) rfl rfl rfl rfl ?_
              obtain ⟨x21, h22, hr⟩ := bnd1 hr
              refine AL.ix (nc := ⟨rfl⟩) good (d := 56) (r := [.int .i64 x21.kind, .int .i64 x21.i, .bool x21.b, .str x21.s, .sl .ro 5 (encs x21.t)]) rfl rfl rfl rfl rfl rfl rfl (by decide) (encs_get h22) ?_
              refine AL.v (nc := ⟨rfl⟩) good (d := 57) (v := .ep [.int .i64 x21.i, .bool x21.b, .str x21.s, .sl .ro 5 (encs x21.t)]) rfl rfl rfl rfl ?_
              refine AL.vc good (d := 58) (v := .int .i64 x21.i) rfl rfl rfl rfl rfl rfl (fun _ h => by cases h) ?_
              refine AL.v (nc := ⟨rfl⟩) good (d := 59) (v := .int .i64 (IntKind.i64.wrap (x19.i + x21.i))) rfl rfl rfl rfl ?_
              refine AL.cw (nc := ⟨rfl⟩) good (d := 60) (xs := [.int .i64 (IntKind.i64.wrap (x19.i + x21.i))]) (res := .agg [.int .i64 1, .int .i64 (IntKind.i64.wrap (x19.i + x21.i)), .bool false, .str ⟨#[]⟩, .sl .ro 5 (encs [])]) rfl rfl rfl rfl rfl rfl rfl (w_f53 (IntKind.i64.wrap (x19.i + x21.i))) ⟨(Wv.refl _), trivial⟩ (by simp [pureA, pureL, pureR, inA, inL, inR, inO, idsIn, encs_pure, enxs_pure, enys_pure, valC_pure, exC_pure, tyC_pure]) ?_
              refine AL.st2c good (c2 := [.int .i64 1, .int .i64 (IntKind.i64.wrap (x19.i + x21.i)), .bool false, .str ⟨#[]⟩, .sl .ro 5 (encs [])]) rfl rfl rfl rfl rfl rfl rfl rfl rfl rfl rfl rfl rfl ?_
              refine AL.v (nc := ⟨rfl⟩) good (d := 7) (v := .int .i64 0) rfl rfl rfl rfl ?_
              refine AW.ret ?_
              obtain rfl := Option.some.inj hr
              exact RetQ.w good (.inr rfl) rfl rfl (Wv.refl _) (by simp [pureA, pureL, pureR, inA, inL, inR, inO, idsIn, encs_pure, enxs_pure, enys_pure, valC_pure, exC_pure, tyC_pure])
            · replace hr := cnd_f h18 hr
              refine AW.seq ?_
              refine AW.region (M := fun _ => true) ?_
              refine AL.sb good (d := 62) (b := (a0.data.toList == [115, 117, 98])) rfl rfl rfl rfl rfl rfl rfl ?_
              refine AL.v good (d := 61) (v := .bool (a0.data.toList == [115, 117, 98])) rfl rfl rfl rfl ?_
              refine AW.if rfl (fun h23 => ?_) (fun h23 => ?_)
              · replace hr := cnd_t h23 hr
                refine AW.seq ?_
                refine AW.drawc (M := fun i => ⟨Nat.beq i 10, bif Nat.beq i 3 then some { ids := [] } else bif Nat.beq i 7 then some { ids := [] } else bif Nat.beq i 10 then some { ids := [0] } else none⟩) good.wide (by kernel_rfl) ?_
                refine AL.v (nc := ⟨rfl⟩) good (d := 63) (v := .sl .ro 5 (encs a2)) rfl rfl rfl rfl ?_
                obtain ⟨x24, h25, hr⟩ := bnd1 hr
                refine AL.ix (nc := ⟨rfl⟩) good (d := 64) (r := [.int .i64 x24.kind, .int .i64 x24.i, .bool x24.b, .str x24.s, .sl .ro 5 (encs x24.t)]) rfl rfl rfl rfl rfl rfl rfl (by decide) (encs_get h25) ?_
                refine AL.v (nc := ⟨rfl⟩) good (d := 65) (v := .ep [.int .i64 x24.i, .bool x24.b, .str x24.s, .sl .ro 5 (encs x24.t)]) rfl rfl rfl rfl ?_
                refine AL.vc good (d := 66) (v := .int .i64 x24.i) rfl rfl rfl rfl rfl rfl (fun _ h => by cases h) ?_
                refine AL.v (nc := ⟨rfl⟩) good (d := 67) (v := .sl .ro 5 (encs a2)) rfl rfl rfl rfl ?_
                obtain ⟨x26, h27, hr⟩ := bnd1 hr
                refine AL.ix (nc := ⟨rfl⟩) good (d := 68) (r := [.int .i64 x26.kind, .int .i64 x26.i, .bool x26.b, .str x26.s, .sl .ro 5 (encs x26.t)]) rfl rfl rfl rfl rfl rfl rfl (by decide) (encs_get h27) ?_
                refine AL.v (nc := ⟨rfl⟩) good (d := 69) (v := .ep [.int .i64 x26.i, .bool x26.b, .str x26.s, .sl .ro 5 (encs x26.t)]) rfl rfl rfl rfl ?_
                refine AL.vc good (d := 70) (v := .int .i64 x26.i) rfl rfl rfl rfl rfl rfl (fun _ h => by cases h) ?_
                refine AL.v (nc := ⟨rfl⟩) good (d := 71) (v := .int .i64 (IntKind.i64.wrap (x24.i - x26.i))) rfl rfl rfl rfl ?_
                refine AL.cw (nc := ⟨rfl⟩) good (d := 72) (xs := [.int .i64 (IntKind.i64.wrap (x24.i - x26.i))]) (res := .agg [.int .i64 1, .int .i64 (IntKind.i64.wrap (x24.i - x26.i)), .bool false, .str ⟨#[]⟩, .sl .ro 5 (encs [])]) rfl rfl rfl rfl rfl rfl rfl (w_f53 (IntKind.i64.wrap (x24.i - x26.i))) ⟨(Wv.refl _), trivial⟩ (by simp [pureA, pureL, pureR, inA, inL, inR, inO, idsIn, encs_pure, enxs_pure, enys_pure, valC_pure, exC_pure, tyC_pure]) ?_
                refine AL.st2c good (c2 := [.int .i64 1, .int .i64 (IntKind.i64.wrap (x24.i - x26.i)), .bool false, .str ⟨#[]⟩, .sl .ro 5 (encs [])]) rfl rfl rfl rfl rfl rfl rfl rfl rfl rfl rfl rfl rfl ?_
                refine AL.v (nc := ⟨rfl⟩) good (d := 7) (v := .int .i64 0) rfl rfl rfl rfl ?_
                refine AW.ret ?_
                obtain rfl := Option.some.inj hr
                exact RetQ.w good (.inr rfl) rfl rfl (Wv.refl _) (by simp [pureA, pureL, pureR, inA, inL, inR, inO, idsIn, encs_pure, enxs_pure, enys_pure, valC_pure, exC_pure, tyC_pure])
              · replace hr := cnd_f h23 hr
                refine AW.seq ?_
                refine AW.region (M := fun _ => true) ?_
                refine AL.sb good (d := 74) (b := (a0.data.toList == [109, 117, 108])) rfl rfl rfl rfl rfl rfl rfl ?_
                refine AL.v good (d := 73) (v := .bool (a0.data.toList == [109, 117, 108])) rfl rfl rfl rfl ?_
                refine AW.if rfl (fun h28 => ?_) (fun h28 => ?_)
                · replace hr := cnd_t h28 hr
                  refine AW.seq ?_
                  refine AW.drawc (M := fun i => ⟨Nat.beq i 10, bif Nat.beq i 3 then some { ids := [] } else bif Nat.beq i 7 then some { ids := [] } else bif Nat.beq i 10 then some { ids := [0] } else none⟩) good.wide (by kernel_rfl) ?_
                  refine AL.v (nc := ⟨rfl⟩) good (d := 75) (v := .sl .ro 5 (encs a2)) rfl rfl rfl rfl ?_
                  obtain ⟨x29, h30, hr⟩ := bnd1 hr
                  refine AL.ix (nc := ⟨rfl⟩) good (d := 76) (r := [.int .i64 x29.kind, .int .i64 x29.i, .bool x29.b, .str x29.s, .sl .ro 5 (encs x29.t)]) rfl rfl rfl rfl rfl rfl rfl (by decide) (encs_get h30) ?_
                  refine AL.v (nc := ⟨rfl⟩) good (d := 77) (v := .ep [.int .i64 x29.i, .bool x29.b, .str x29.s, .sl .ro 5 (encs x29.t)]) rfl rfl rfl rfl ?_
                  refine AL.vc good (d := 78) (v := .int .i64 x29.i) rfl rfl rfl rfl rfl rfl (fun _ h => by cases h) ?_
                  refine AL.v (nc := ⟨rfl⟩) good (d := 79) (v := .sl .ro 5 (encs a2)) rfl rfl rfl rfl ?_
                  obtain ⟨x31, h32, hr⟩ := bnd1 hr
                  refine AL.ix (nc := ⟨rfl⟩) good (d := 80) (r := [.int .i64 x31.kind, .int .i64 x31.i, .bool x31.b, .str x31.s, .sl .ro 5 (encs x31.t)]) rfl rfl rfl rfl rfl rfl rfl (by decide) (encs_get h32) ?_
                  refine AL.v (nc := ⟨rfl⟩) good (d := 81) (v := .ep [.int .i64 x31.i, .bool x31.b, .str x31.s, .sl .ro 5 (encs x31.t)]) rfl rfl rfl rfl ?_
                  refine AL.vc good (d := 82) (v := .int .i64 x31.i) rfl rfl rfl rfl rfl rfl (fun _ h => by cases h) ?_
                  refine AL.v (nc := ⟨rfl⟩) good (d := 83) (v := .int .i64 (IntKind.i64.wrap (x29.i * x31.i))) rfl rfl rfl rfl ?_
                  refine AL.cw (nc := ⟨rfl⟩) good (d := 84) (xs := [.int .i64 (IntKind.i64.wrap (x29.i * x31.i))]) (res := .agg [.int .i64 1, .int .i64 (IntKind.i64.wrap (x29.i * x31.i)), .bool false, .str ⟨#[]⟩, .sl .ro 5 (encs [])]) rfl rfl rfl rfl rfl rfl rfl (w_f53 (IntKind.i64.wrap (x29.i * x31.i))) ⟨(Wv.refl _), trivial⟩ (by simp [pureA, pureL, pureR, inA, inL, inR, inO, idsIn, encs_pure, enxs_pure, enys_pure, valC_pure, exC_pure, tyC_pure]) ?_
                  refine AL.st2c good (c2 := [.int .i64 1, .int .i64 (IntKind.i64.wrap (x29.i * x31.i)), .bool false, .str ⟨#[]⟩, .sl .ro 5 (encs [])]) rfl rfl rfl rfl rfl rfl rfl rfl rfl rfl rfl rfl rfl ?_
                  refine AL.v (nc := ⟨rfl⟩) good (d := 7) (v := .int .i64 0) rfl rfl rfl rfl ?_
                  refine AW.ret ?_
                  obtain rfl := Option.some.inj hr
                  exact RetQ.w good (.inr rfl) rfl rfl (Wv.refl _) (by simp [pureA, pureL, pureR, inA, inL, inR, inO, idsIn, encs_pure, enxs_pure, enys_pure, valC_pure, exC_pure, tyC_pure])
                · replace hr := cnd_f h28 hr
                  refine AW.seq ?_
                  refine AW.region (M := fun _ => true) ?_
                  refine AL.sb good (d := 86) (b := (a0.data.toList == [101, 113])) rfl rfl rfl rfl rfl rfl rfl ?_
                  refine AL.v good (d := 85) (v := .bool (a0.data.toList == [101, 113])) rfl rfl rfl rfl ?_
                  refine AW.if rfl (fun h33 => ?_) (fun h33 => ?_)
                  · replace hr := cnd_t h33 hr
                    refine AW.seq ?_
                    refine AW.drawc (M := fun i => ⟨Nat.beq i 8, bif Nat.beq i 2 then some { ids := [] } else bif Nat.beq i 5 then some { ids := [] } else bif Nat.beq i 8 then some { ids := [0] } else none⟩) good.wide (by kernel_rfl) ?_
                    refine AL.v (nc := ⟨rfl⟩) good (d := 87) (v := .sl .ro 5 (encs a2)) rfl rfl rfl rfl ?_
                    obtain ⟨x34, h35, hr⟩ := bnd1 hr
                    refine AL.ix (nc := ⟨rfl⟩) good (d := 88) (r := [.int .i64 x34.kind, .int .i64 x34.i, .bool x34.b, .str x34.s, .sl .ro 5 (encs x34.t)]) rfl rfl rfl rfl rfl rfl rfl (by decide) (encs_get h35) ?_
                    refine AL.vc good (d := 89) (v := .agg [.int .i64 x34.kind, .int .i64 x34.i, .bool x34.b, .str x34.s, .sl .ro 5 (encs x34.t)]) rfl rfl rfl rfl rfl rfl (fun _ h => by cases h) ?_
                    refine AL.v (nc := ⟨rfl⟩) good (d := 90) (v := .sl .ro 5 (encs a2)) rfl rfl rfl rfl ?_
                    obtain ⟨x36, h37, hr⟩ := bnd1 hr
                    refine AL.ix (nc := ⟨rfl⟩) good (d := 91) (r := [.int .i64 x36.kind, .int .i64 x36.i, .bool x36.b, .str x36.s, .sl .ro 5 (encs x36.t)]) rfl rfl rfl rfl rfl rfl rfl (by decide) (encs_get h37) ?_
                    refine AL.vc good (d := 92) (v := .agg [.int .i64 x36.kind, .int .i64 x36.i, .bool x36.b, .str x36.s, .sl .ro 5 (encs x36.t)]) rfl rfl rfl rfl rfl rfl (fun _ h => by cases h) ?_
                    obtain ⟨q38, h39, hr⟩ := bnd1 hr
                    refine AL.cw (nc := ⟨rfl⟩) good (d := 93) (xs := [.agg (valC x34), .agg (valC x36)]) (res := .bool q38) rfl rfl rfl rfl rfl rfl rfl (w_f25 _ _ _ _ h39) ⟨(Wv.refl _), (Wv.refl _), trivial⟩ (by simp [pureA, pureL, pureR, inA, inL, inR, inO, idsIn, encs_pure, enxs_pure, enys_pure, valC_pure, exC_pure, tyC_pure]) ?_
                    refine AL.cw (nc := ⟨rfl⟩) good (d := 94) (xs := [.bool q38]) (res := .agg [.int .i64 2, .int .i64 0, .bool q38, .str ⟨#[]⟩, .sl .ro 5 (encs [])]) rfl rfl rfl rfl rfl rfl rfl (w_f99 q38) ⟨(Wv.refl _), trivial⟩ (by simp [pureA, pureL, pureR, inA, inL, inR, inO, idsIn, encs_pure, enxs_pure, enys_pure, valC_pure, exC_pure, tyC_pure]) ?_
                    refine AL.st2c good (c2 := [.int .i64 2, .int .i64 0, .bool q38, .str ⟨#[]⟩, .sl .ro 5 (encs [])]) rfl rfl rfl rfl rfl rfl rfl rfl rfl rfl rfl rfl rfl ?_
                    refine AL.v (nc := ⟨rfl⟩) good (d := 7) (v := .int .i64 0) rfl rfl rfl rfl ?_
                    refine AW.ret ?_
                    obtain rfl := Option.some.inj hr
                    exact RetQ.w good (.inr rfl) rfl rfl (Wv.refl _) (by simp [pureA, pureL, pureR, inA, inL, inR, inO, idsIn, encs_pure, enxs_pure, enys_pure, valC_pure, exC_pure, tyC_pure])
                  · replace hr := cnd_f h33 hr
                    refine AW.seq ?_
                    refine AW.region (M := fun _ => true) ?_
                    refine AL.sb good (d := 96) (b := (a0.data.toList == [108, 116])) rfl rfl rfl rfl rfl rfl rfl ?_
                    refine AL.v good (d := 95) (v := .bool (a0.data.toList == [108, 116])) rfl rfl rfl rfl ?_
                    refine AW.if rfl (fun h40 => ?_) (fun h40 => ?_)
                    · replace hr := cnd_t h40 hr
                      refine AW.seq ?_
                      refine AW.drawc (M := fun i => ⟨Nat.beq i 9, bif Nat.beq i 2 then some { ids := [] } else bif Nat.beq i 5 then some { ids := [] } else bif Nat.beq i 9 then some { ids := [0] } else none⟩) good.wide (by kernel_rfl) ?_
                      refine AL.v (nc := ⟨rfl⟩) good (d := 97) (v := .sl .ro 5 (encs a2)) rfl rfl rfl rfl ?_
                      obtain ⟨x41, h42, hr⟩ := bnd1 hr
                      refine AL.ix (nc := ⟨rfl⟩) good (d := 98) (r := [.int .i64 x41.kind, .int .i64 x41.i, .bool x41.b, .str x41.s, .sl .ro 5 (encs x41.t)]) rfl rfl rfl rfl rfl rfl rfl (by decide) (encs_get h42) ?_
                      refine AL.vc good (d := 99) (v := .agg [.int .i64 x41.kind, .int .i64 x41.i, .bool x41.b, .str x41.s, .sl .ro 5 (encs x41.t)]) rfl rfl rfl rfl rfl rfl (fun _ h => by cases h) ?_
                      refine AL.v (nc := ⟨rfl⟩) good (d := 100) (v := .sl .ro 5 (encs a2)) rfl rfl rfl rfl ?_
                      obtain ⟨x43, h44, hr⟩ := bnd1 hr
                      refine AL.ix (nc := ⟨rfl⟩) good (d := 101) (r := [.int .i64 x43.kind, .int .i64 x43.i, .bool x43.b, .str x43.s, .sl .ro 5 (encs x43.t)]) rfl rfl rfl rfl rfl rfl rfl (by decide) (encs_get h44) ?_
                      refine AL.vc good (d := 102) (v := .agg [.int .i64 x43.kind, .int .i64 x43.i, .bool x43.b, .str x43.s, .sl .ro 5 (encs x43.t)]) rfl rfl rfl rfl rfl rfl (fun _ h => by cases h) ?_
                      obtain ⟨q45, h46, hr⟩ := bnd1 hr
                      refine AL.cw (nc := ⟨rfl⟩) good (d := 103) (xs := [.agg (valC x41), .agg (valC x43)]) (res := .int .i64 q45) rfl rfl rfl rfl rfl rfl rfl (w_f64 _ _ _ _ h46) ⟨(Wv.refl _), (Wv.refl _), trivial⟩ (by simp [pureA, pureL, pureR, inA, inL, inR, inO, idsIn, encs_pure, enxs_pure, enys_pure, valC_pure, exC_pure, tyC_pure]) ?_
                      refine AL.v (nc := ⟨rfl⟩) good (d := 104) (v := .bool (decide (q45 < 0))) rfl rfl rfl rfl ?_
                      refine AL.cw (nc := ⟨rfl⟩) good (d := 105) (xs := [.bool (decide (q45 < 0))]) (res := .agg [.int .i64 2, .int .i64 0, .bool (decide (q45 < 0)), .str ⟨#[]⟩, .sl .ro 5 (encs [])]) rfl rfl rfl rfl rfl rfl rfl (w_f99 (decide (q45 < 0))) ⟨(Wv.refl _), trivial⟩ (by simp [pureA, pureL, pureR, inA, inL, inR, inO, idsIn, encs_pure, enxs_pure, enys_pure, valC_pure, exC_pure, tyC_pure]) ?_
                      refine AL.st2c good (c2 := [.int .i64 2, .int .i64 0, .bool (decide (q45 < 0)), .str ⟨#[]⟩, .sl .ro 5 (encs [])]) rfl rfl rfl rfl rfl rfl rfl rfl rfl rfl rfl rfl rfl ?_
                      refine AL.v (nc := ⟨rfl⟩) good (d := 7) (v := .int .i64 0) rfl rfl rfl rfl ?_
                      refine AW.ret ?_
                      obtain rfl := Option.some.inj hr
                      exact RetQ.w good (.inr rfl) rfl rfl (Wv.refl _) (by simp [pureA, pureL, pureR, inA, inL, inR, inO, idsIn, encs_pure, enxs_pure, enys_pure, valC_pure, exC_pure, tyC_pure])
                    · replace hr := cnd_f h40 hr
                      refine AW.seq ?_
                      refine AW.region (M := fun _ => true) ?_
                      refine AL.sb good (d := 107) (b := (a0.data.toList == [99, 97, 116])) rfl rfl rfl rfl rfl rfl rfl ?_
                      refine AL.v good (d := 106) (v := .bool (a0.data.toList == [99, 97, 116])) rfl rfl rfl rfl ?_
                      refine AW.if rfl (fun h47 => ?_) (fun h47 => ?_)
                      · replace hr := cnd_t h47 hr
                        refine AW.seq ?_
                        refine AW.draw (M := fun i => false) good.wide (by kernel_rfl) ?_
                        refine AL.v good (d := 108) (v := .sl .ro 5 (encs a2)) rfl rfl rfl rfl ?_
                        obtain ⟨x48, h49, hr⟩ := bnd1 hr
                        refine AL.ix good (d := 109) (r := [.int .i64 x48.kind, .int .i64 x48.i, .bool x48.b, .str x48.s, .sl .ro 5 (encs x48.t)]) rfl rfl rfl rfl rfl rfl rfl (by decide) (encs_get h49) ?_
                        refine AL.v good (d := 110) (v := .ep [.str x48.s, .sl .ro 5 (encs x48.t)]) rfl rfl rfl rfl ?_
                        refine AL.v good (d := 111) (v := .str x48.s) rfl rfl rfl rfl ?_
                        refine AL.v good (d := 112) (v := .sl .ro 5 (encs a2)) rfl rfl rfl rfl ?_
                        obtain ⟨x50, h51, hr⟩ := bnd1 hr
                        refine AL.ix good (d := 113) (r := [.int .i64 x50.kind, .int .i64 x50.i, .bool x50.b, .str x50.s, .sl .ro 5 (encs x50.t)]) rfl rfl rfl rfl rfl rfl rfl (by decide) (encs_get h51) ?_
                        refine AL.v good (d := 114) (v := .ep [.str x50.s, .sl .ro 5 (encs x50.t)]) rfl rfl rfl rfl ?_
                        refine AL.v good (d := 115) (v := .str x50.s) rfl rfl rfl rfl ?_
                        obtain ⟨h52, hr⟩ := grd hr
                        refine AL.cat good (d := 116) rfl rfl rfl rfl rfl rfl h52 ?_
                        refine AL.v good (d := 8) (v := .str (x48.s ++ x50.s)) rfl rfl rfl rfl ?_
                        refine AW.seq ?_
                        refine AW.seq ?_
                        refine AW.region (M := fun _ => true) ?_
                        refine AL.v good (d := 117) (v := .str (x48.s ++ x50.s)) rfl rfl rfl rfl ?_
                        refine AL.v good (d := 118) (v := .int .i64 ((x48.s ++ x50.s).size : Int)) rfl rfl rfl rfl ?_
                        refine AL.v good (d := 119) (v := .bool (decide (((x48.s ++ x50.s).size : Int) > 255))) rfl rfl rfl rfl ?_
                        refine AW.if rfl (fun h53 => ?_) (fun h53 => ?_)
                        · replace hr := cnd_t h53 hr
                          refine AW.seq ?_
                          refine AW.region (M := fun _ => true) ?_
                          refine AL.bld good (d := 120) (l := [.int .i64 0, .int .i64 0, .bool false, .str ⟨#[]⟩, .sl .nil 0 []]) rfl rfl rfl rfl rfl rfl rfl ?_
                          refine AL.st2 good (c2 := [.int .i64 0, .int .i64 0, .bool false, .str ⟨#[]⟩, .sl .nil 0 []]) rfl rfl rfl rfl rfl rfl rfl rfl rfl rfl rfl rfl ?_
                          refine AL.v good (d := 7) (v := .int .i64 4) rfl rfl rfl rfl ?_
                          refine AW.ret ?_
                          obtain rfl := Option.some.inj hr
                          exact RetQ.w good (.inr rfl) rfl rfl ⟨⟨Wv.refl _, Wv.refl _, Wv.refl _, Wv.refl _, ⟨.inr rfl, trivial, .inr rfl⟩, trivial⟩, Wv.refl _, trivial⟩ (by simp [pureA, pureL, pureR, inA, inL, inR, inO, idsIn, encs_pure, enxs_pure, enys_pure, valC_pure, exC_pure, tyC_pure])
                        · replace hr := cnd_f h53 hr
                          refine AW.skip ?_
                          refine AW.seq ?_
                          refine AW.region (M := fun _ => true) ?_
                          refine AL.v good (d := 121) (v := .str (x48.s ++ x50.s)) rfl rfl rfl rfl ?_
                          refine AL.bld good (d := 122) (l := [.int .i64 3, .int .i64 0, .bool false, .str (x48.s ++ x50.s), .sl .nil 0 []]) rfl rfl rfl rfl rfl rfl rfl ?_
                          refine AL.st2 good (c2 := [.int .i64 3, .int .i64 0, .bool false, .str (x48.s ++ x50.s), .sl .nil 0 []]) rfl rfl rfl rfl rfl rfl rfl rfl rfl rfl rfl rfl ?_
                          refine AL.v good (d := 7) (v := .int .i64 0) rfl rfl rfl rfl ?_
                          refine AW.ret ?_
                          obtain rfl := Option.some.inj hr
                          exact RetQ.w good (.inr rfl) rfl rfl ⟨⟨Wv.refl _, Wv.refl _, Wv.refl _, Wv.refl _, ⟨.inr rfl, trivial, .inr rfl⟩, trivial⟩, Wv.refl _, trivial⟩ (by simp [pureA, pureL, pureR, inA, inL, inR, inO, idsIn, encs_pure, enxs_pure, enys_pure, valC_pure, exC_pure, tyC_pure])
                      · replace hr := cnd_f h47 hr
                        refine AW.skip ?_
                        refine AW.seq ?_
                        refine AW.seq ?_
                        refine AW.region (M := fun _ => true) ?_
                        refine AL.v good (d := 123) (v := .sl .ro 5 (encs a2)) rfl rfl rfl rfl ?_
                        obtain ⟨x54, h55, hr⟩ := bnd1 hr
                        refine AL.ix good (d := 124) (r := [.int .i64 x54.kind, .int .i64 x54.i, .bool x54.b, .str x54.s, .sl .ro 5 (encs x54.t)]) rfl rfl rfl rfl rfl rfl rfl (by decide) (encs_get h55) ?_
                        refine AL.v good (d := 125) (v := .ep [.int .i64 x54.i, .bool x54.b, .str x54.s, .sl .ro 5 (encs x54.t)]) rfl rfl rfl rfl ?_
                        refine AL.v good (d := 126) (v := .int .i64 x54.i) rfl rfl rfl rfl ?_
                        refine AL.v good (d := 127) (v := .bool (x54.i == 0)) rfl rfl rfl rfl ?_
                        refine AW.if rfl (fun h56 => ?_) (fun h56 => ?_)
                        · replace hr := cnd_t h56 hr
                          refine AW.seq ?_
                          refine AW.region (M := fun _ => true) ?_
                          refine AL.bld good (d := 128) (l := [.int .i64 0, .int .i64 0, .bool false, .str ⟨#[]⟩, .sl .nil 0 []]) rfl rfl rfl rfl rfl rfl rfl ?_
                          refine AL.st2 good (c2 := [.int .i64 0, .int .i64 0, .bool false, .str ⟨#[]⟩, .sl .nil 0 []]) rfl rfl rfl rfl rfl rfl rfl rfl rfl rfl rfl rfl ?_
                          refine AL.v good (d := 7) (v := .int .i64 8) rfl rfl rfl rfl ?_
                          refine AW.ret ?_
                          obtain rfl := Option.some.inj hr
                          exact RetQ.w good (.inr rfl) rfl rfl ⟨⟨Wv.refl _, Wv.refl _, Wv.refl _, Wv.refl _, ⟨.inr rfl, trivial, .inr rfl⟩, trivial⟩, Wv.refl _, trivial⟩ (by simp [pureA, pureL, pureR, inA, inL, inR, inO, idsIn, encs_pure, enxs_pure, enys_pure, valC_pure, exC_pure, tyC_pure])
                        · replace hr := cnd_f h56 hr
                          refine AW.skip ?_
                          refine AW.seq ?_
                          refine AW.seq ?_
                          refine AW.region (M := fun _ => true) ?_
                          refine AL.v good (d := 129) (v := .sl .ro 5 (encs a2)) rfl rfl rfl rfl ?_
                          obtain ⟨x57, h58, hr⟩ := bnd1 hr
                          refine AL.ix good (d := 130) (r := [.int .i64 x57.kind, .int .i64 x57.i, .bool x57.b, .str x57.s, .sl .ro 5 (encs x57.t)]) rfl rfl rfl rfl rfl rfl rfl (by decide) (encs_get h58) ?_
                          refine AL.v good (d := 131) (v := .ep [.int .i64 x57.i, .bool x57.b, .str x57.s, .sl .ro 5 (encs x57.t)]) rfl rfl rfl rfl ?_
                          refine AL.v good (d := 132) (v := .int .i64 x57.i) rfl rfl rfl rfl ?_
                          refine AL.v good (d := 133) (v := .bool (x57.i == (-1))) rfl rfl rfl rfl ?_
                          refine AW.if rfl (fun h59 => ?_) (fun h59 => ?_)
                          · replace hr := cnd_t h59 hr
                            refine AW.seq ?_
                            refine AW.seq ?_
                            refine AW.region (M := fun _ => true) ?_
                            refine AL.v good (d := 134) (v := .str a0) rfl rfl rfl rfl ?_
                            refine AL.sb good (d := 135) (b := (a0.data.toList == [100, 105, 118])) rfl rfl rfl rfl rfl rfl rfl ?_
                            refine AW.if rfl (fun h60 => ?_) (fun h60 => ?_)
                            · replace hr := cnd_t h60 hr
                              refine AW.seq ?_
                              refine AW.region (M := fun _ => true) ?_
                              refine AL.v good (d := 136) (v := .sl .ro 5 (encs a2)) rfl rfl rfl rfl ?_
                              obtain ⟨x61, h62, hr⟩ := bnd1 hr
                              refine AL.ix good (d := 137) (r := [.int .i64 x61.kind, .int .i64 x61.i, .bool x61.b, .str x61.s, .sl .ro 5 (encs x61.t)]) rfl rfl rfl rfl rfl rfl rfl (by decide) (encs_get h62) ?_
                              refine AL.v good (d := 138) (v := .ep [.int .i64 x61.i, .bool x61.b, .str x61.s, .sl .ro 5 (encs x61.t)]) rfl rfl rfl rfl ?_
                              refine AL.v good (d := 139) (v := .int .i64 x61.i) rfl rfl rfl rfl ?_
                              refine AL.v good (d := 140) (v := .int .i64 (IntKind.i64.wrap (0 - x61.i))) rfl rfl rfl rfl ?_
                              refine AL.cw good (d := 141) (xs := [.int .i64 (IntKind.i64.wrap (0 - x61.i))]) (res := .agg [.int .i64 1, .int .i64 (IntKind.i64.wrap (0 - x61.i)), .bool false, .str ⟨#[]⟩, .sl .ro 5 (encs [])]) rfl rfl rfl rfl rfl rfl rfl (w_f53 (IntKind.i64.wrap (0 - x61.i))) ⟨(Wv.refl _), trivial⟩ (by simp [pureA, pureL, pureR, inA, inL, inR, inO, idsIn, encs_pure, enxs_pure, enys_pure, valC_pure, exC_pure, tyC_pure]) ?_
                              refine AL.st2 good (c2 := [.int .i64 1, .int .i64 (IntKind.i64.wrap (0 - x61.i)), .bool false, .str ⟨#[]⟩, .sl .ro 5 (encs [])]) rfl rfl rfl rfl rfl rfl rfl rfl rfl rfl rfl rfl ?_
                              refine AL.v good (d := 7) (v := .int .i64 0) rfl rfl rfl rfl ?_
                              refine AW.ret ?_
                              obtain rfl := Option.some.inj hr
                              exact RetQ.w good (.inr rfl) rfl rfl (Wv.refl _) (by simp [pureA, pureL, pureR, inA, inL, inR, inO, idsIn, encs_pure, enxs_pure, enys_pure, valC_pure, exC_pure, tyC_pure])
                            · replace hr := cnd_f h60 hr
                              refine AW.skip ?_
                              refine AW.seq ?_
                              refine AW.region (M := fun _ => true) ?_
                              refine AL.cw good (d := 142) (xs := [.int .i64 0]) (res := .agg [.int .i64 1, .int .i64 0, .bool false, .str ⟨#[]⟩, .sl .ro 5 (encs [])]) rfl rfl rfl rfl rfl rfl rfl (w_f53 0) ⟨(Wv.refl _), trivial⟩ (by simp [pureA, pureL, pureR, inA, inL, inR, inO, idsIn, encs_pure, enxs_pure, enys_pure, valC_pure, exC_pure, tyC_pure]) ?_
                              refine AL.st2 good (c2 := [.int .i64 1, .int .i64 0, .bool false, .str ⟨#[]⟩, .sl .ro 5 (encs [])]) rfl rfl rfl rfl rfl rfl rfl rfl rfl rfl rfl rfl ?_
                              refine AL.v good (d := 7) (v := .int .i64 0) rfl rfl rfl rfl ?_
                              refine AW.ret ?_
                              obtain rfl := Option.some.inj hr
                              exact RetQ.w good (.inr rfl) rfl rfl (Wv.refl _) (by simp [pureA, pureL, pureR, inA, inL, inR, inO, idsIn, encs_pure, enxs_pure, enys_pure, valC_pure, exC_pure, tyC_pure])
                          · replace hr := cnd_f h59 hr
                            refine AW.skip ?_
                            refine AW.seq ?_
                            refine AW.seq ?_
                            refine AW.region (M := fun _ => true) ?_
                            refine AL.v good (d := 143) (v := .str a0) rfl rfl rfl rfl ?_
                            refine AL.sb good (d := 144) (b := (a0.data.toList == [100, 105, 118])) rfl rfl rfl rfl rfl rfl rfl ?_
                            refine AW.if rfl (fun h63 => ?_) (fun h63 => ?_)
                            · replace hr := cnd_t h63 hr
                              refine AW.seq ?_
                              refine AW.drawc (M := fun i => ⟨Nat.beq i 10, bif Nat.beq i 3 then some { ids := [] } else bif Nat.beq i 7 then some { ids := [] } else bif Nat.beq i 10 then some { ids := [0] } else none⟩) good.wide (by kernel_rfl) ?_
                              refine AL.v (nc := ⟨rfl⟩) good (d := 145) (v := .sl .ro 5 (encs a2)) rfl rfl rfl rfl ?_
                              obtain ⟨x64, h65, hr⟩ := bnd1 hr
                              refine AL.ix (nc := ⟨rfl⟩) good (d := 146) (r := [.int .i64 x64.kind, .int .i64 x64.i, .bool x64.b, .str x64.s, .sl .ro 5 (encs x64.t)]) rfl rfl rfl rfl rfl rfl rfl (by decide) (encs_get h65) ?_
                              refine AL.v (nc := ⟨rfl⟩) good (d := 147) (v := .ep [.int .i64 x64.i, .bool x64.b, .str x64.s, .sl .ro 5 (encs x64.t)]) rfl rfl rfl rfl ?_
                              refine AL.vc good (d := 148) (v := .int .i64 x64.i) rfl rfl rfl rfl rfl rfl (fun _ h => by cases h) ?_
                              refine AL.v (nc := ⟨rfl⟩) good (d := 149) (v := .sl .ro 5 (encs a2)) rfl rfl rfl rfl ?_
                              obtain ⟨x66, h67, hr⟩ := bnd1 hr
                              refine AL.ix (nc := ⟨rfl⟩) good (d := 150) (r := [.int .i64 x66.kind, .int .i64 x66.i, .bool x66.b, .str x66.s, .sl .ro 5 (encs x66.t)]) rfl rfl rfl rfl rfl rfl rfl (by decide) (encs_get h67) ?_
                              refine AL.v (nc := ⟨rfl⟩) good (d := 151) (v := .ep [.int .i64 x66.i, .bool x66.b, .str x66.s, .sl .ro 5 (encs x66.t)]) rfl rfl rfl rfl ?_
                              refine AL.vc good (d := 152) (v := .int .i64 x66.i) rfl rfl rfl rfl rfl rfl (fun _ h => by cases h) ?_
                              obtain ⟨h68, hr⟩ := grd hr
                              refine AL.v (nc := ⟨rfl⟩) good (d := 153) (v := .int .i64 (IntKind.i64.wrap (x64.i.tdiv x66.i))) rfl rfl rfl (by simp only [aval]; exact avq_quo h68) ?_
                              refine AL.cw (nc := ⟨rfl⟩) good (d := 154) (xs := [.int .i64 (IntKind.i64.wrap (x64.i.tdiv x66.i))]) (res := .agg [.int .i64 1, .int .i64 (IntKind.i64.wrap (x64.i.tdiv x66.i)), .bool false, .str ⟨#[]⟩, .sl .ro 5 (encs [])]) rfl rfl rfl rfl rfl rfl rfl (w_f53 (IntKind.i64.wrap (x64.i.tdiv x66.i))) ⟨(Wv.refl _), trivial⟩ (by simp [pureA, pureL, pureR, inA, inL, inR, inO, idsIn, encs_pure, enxs_pure, enys_pure, valC_pure, exC_pure, tyC_pure]) ?_
                              refine AL.st2c good (c2 := [.int .i64 1, .int .i64 (IntKind.i64.wrap (x64.i.tdiv x66.i)), .bool false, .str ⟨#[]⟩, .sl .ro 5 (encs [])]) rfl rfl rfl rfl rfl rfl rfl rfl rfl rfl rfl rfl rfl ?_
                              refine AL.v (nc := ⟨rfl⟩) good (d := 7) (v := .int .i64 0) rfl rfl rfl rfl ?_
                              refine AW.ret ?_
                              obtain rfl := Option.some.inj hr
                              exact RetQ.w good (.inr rfl) rfl rfl (Wv.refl _) (by simp [pureA, pureL, pureR, inA, inL, inR, inO, idsIn, encs_pure, enxs_pure, enys_pure, valC_pure, exC_pure, tyC_pure])
                            · replace hr := cnd_f h63 hr
                              refine AW.skip ?_
                              refine AW.seq ?_
                              refine AW.drawc (M := fun i => ⟨Nat.beq i 10, bif Nat.beq i 3 then some { ids := [] } else bif Nat.beq i 7 then some { ids := [] } else bif Nat.beq i 10 then some { ids := [0] } else none⟩) good.wide (by kernel_rfl) ?_
                              refine AL.v (nc := ⟨rfl⟩) good (d := 155) (v := .sl .ro 5 (encs a2)) rfl rfl rfl rfl ?_
                              obtain ⟨x69, h70, hr⟩ := bnd1 hr
                              refine AL.ix (nc := ⟨rfl⟩) good (d := 156) (r := [.int .i64 x69.kind, .int .i64 x69.i, .bool x69.b, .str x69.s, .sl .ro 5 (encs x69.t)]) rfl rfl rfl rfl rfl rfl rfl (by decide) (encs_get h70) ?_
                              refine AL.v (nc := ⟨rfl⟩) good (d := 157) (v := .ep [.int .i64 x69.i, .bool x69.b, .str x69.s, .sl .ro 5 (encs x69.t)]) rfl rfl rfl rfl ?_
                              refine AL.vc good (d := 158) (v := .int .i64 x69.i) rfl rfl rfl rfl rfl rfl (fun _ h => by cases h) ?_
                              refine AL.v (nc := ⟨rfl⟩) good (d := 159) (v := .sl .ro 5 (encs a2)) rfl rfl rfl rfl ?_
                              obtain ⟨x71, h72, hr⟩ := bnd1 hr
                              refine AL.ix (nc := ⟨rfl⟩) good (d := 160) (r := [.int .i64 x71.kind, .int .i64 x71.i, .bool x71.b, .str x71.s, .sl .ro 5 (encs x71.t)]) rfl rfl rfl rfl rfl rfl rfl (by decide) (encs_get h72) ?_
                              refine AL.v (nc := ⟨rfl⟩) good (d := 161) (v := .ep [.int .i64 x71.i, .bool x71.b, .str x71.s, .sl .ro 5 (encs x71.t)]) rfl rfl rfl rfl ?_
                              refine AL.vc good (d := 162) (v := .int .i64 x71.i) rfl rfl rfl rfl rfl rfl (fun _ h => by cases h) ?_
                              obtain ⟨h73, hr⟩ := grd hr
                              refine AL.v (nc := ⟨rfl⟩) good (d := 163) (v := .int .i64 (x69.i.tmod x71.i)) rfl rfl rfl (by simp only [aval]; exact avq_rem h73) ?_
                              refine AL.cw (nc := ⟨rfl⟩) good (d := 164) (xs := [.int .i64 (x69.i.tmod x71.i)]) (res := .agg [.int .i64 1, .int .i64 (x69.i.tmod x71.i), .bool false, .str ⟨#[]⟩, .sl .ro 5 (encs [])]) rfl rfl rfl rfl rfl rfl rfl (w_f53 (x69.i.tmod x71.i)) ⟨(Wv.refl _), trivial⟩ (by simp [pureA, pureL, pureR, inA, inL, inR, inO, idsIn, encs_pure, enxs_pure, enys_pure, valC_pure, exC_pure, tyC_pure]) ?_
                              refine AL.st2c good (c2 := [.int .i64 1, .int .i64 (x69.i.tmod x71.i), .bool false, .str ⟨#[]⟩, .sl .ro 5 (encs [])]) rfl rfl rfl rfl rfl rfl rfl rfl rfl rfl rfl rfl rfl ?_
                              refine AL.v (nc := ⟨rfl⟩) good (d := 7) (v := .int .i64 0) rfl rfl rfl rfl ?_
                              refine AW.ret ?_
                              obtain rfl := Option.some.inj hr
                              exact RetQ.w good (.inr rfl) rfl rfl (Wv.refl _) (by simp [pureA, pureL, pureR, inA, inL, inR, inO, idsIn, encs_pure, enxs_pure, enys_pure, valC_pure, exC_pure, tyC_pure])

mutual
def s_f24 : Nat → Ex → Val → Option (Val × Int)
  | 0, _, _ => none
  | n + 1, a0, a1 => (bif (a0.op.data.toList == [108, 105, 116]) then some (a0.v, 0) else (bif (a0.op.data.toList == [120]) then some (a1, 0) else ((a0.a[0]?).bind fun x3 => ((s_f24 n x3 a1).bind fun q5 => (bif (q5.2 != 0) then some ((Val.mk 0 0 false ⟨#[]⟩ []), q5.2) else (bif (a0.op.data.toList == [97, 110, 100]) then (bif (!q5.1.b) then some (q5.1, 0) else ((a0.a[1]?).bind fun x10 => ((s_f24 n x10 a1).bind fun q12 => some (q12.1, q12.2)))) else (bif (a0.op.data.toList == [111, 114]) then (bif q5.1.b then some (q5.1, 0) else ((a0.a[1]?).bind fun x16 => ((s_f24 n x16 a1).bind fun q18 => some (q18.1, q18.2)))) else (bif (a0.op.data.toList == [105, 102]) then (bif q5.1.b then ((a0.a[1]?).bind fun x22 => ((s_f24 n x22 a1).bind fun q24 => some (q24.1, q24.2))) else ((a0.a[2]?).bind fun x26 => ((s_f24 n x26 a1).bind fun q28 => some (q28.1, q28.2)))) else (s_f24_l1 n a0 a1 [q5.1] 1)))))))))
def s_f24_l1 : Nat → Ex → Val → (List Val) → Nat → Option (Val × Int)
  | 0, _, _, _, _ => none
  | n + 1, a0, a1, v1_1, v1_2 => (bif (decide ((v1_2 : Int) < (a0.a.length : Int))) then ((a0.a[v1_2]?).bind fun x40 => ((s_f24 n x40 a1).bind fun q42 => (bif (q42.2 != 0) then some ((Val.mk 0 0 false ⟨#[]⟩ []), q42.2) else (if v1_1.length + 1 ≤ 1000000 then (s_f24_l1 n a0 a1 (v1_1 ++ [q42.1]) (v1_2 + 1)) else none)))) else ((s_f63 n a0.op a0.n v1_1).bind fun q46 => some (q46.1, q46.2)))
end

theorem w_f24_a (n : Nat) (ih : ∀ (m : Nat) (a0 : Ex) (a1 : Val) (r : Val × Int), s_f24 m a0 a1 = some r → m < n → ACall Try.prog 24 [.agg (exC a0), .agg (valC a1)] (.tup [.agg (valC r.1), .int .i64 r.2])) (a0 : Ex) (a1 : Val) (r : Val × Int) (hr : s_f24 n a0 a1 = some r) : ACall Try.prog 24 [.agg (exC a0), .agg (valC a1)] (.tup [.agg (valC r.1), .int .i64 r.2]) := by
  refine ACall.go [(0, .agg (exC a0)), (1, .agg (valC a1))] Try.func24 rfl Try.ntmps24 rfl rfl (by simp [pureA, pureL, pureR, inA, inL, inR, inO, idsIn, encs_pure, enxs_pure, enys_pure, valC_pure, exC_pure, tyC_pure]) ?_
  cases n with
  | zero => rw [s_f24] at hr; cases hr
  | succ n =>
    rw [s_f24] at hr
    refine AW.seq ?_
    refine AW.region (M := fun _ => true) ?_
    refine AL.bx good (d := 2) (l := [.str a0.op, .int .i64 a0.v.kind, .int .i64 a0.v.i, .bool a0.v.b, .str a0.v.s, .sl .ro 5 (encs a0.v.t), .int .i64 a0.n, .sl .ro 8 (enxs a0.a)]) rfl rfl rfl rfl rfl rfl 0 rfl ?_
    refine AL.bx good (d := 3) (l := [.int .i64 a1.kind, .int .i64 a1.i, .bool a1.b, .str a1.s, .sl .ro 5 (encs a1.t)]) rfl rfl rfl rfl rfl rfl 1 rfl ?_
    refine AL.alc good (d := 4) rfl rfl rfl rfl rfl 2 rfl ?_
    refine AL.v good (d := 5) (v := .int .i64 0) rfl rfl rfl rfl ?_
    refine AW.seq ?_
    refine AW.seq ?_
    refine AW.region (M := fun _ => true) ?_
    refine AL.v good (d := 12) (v := .ptr 0 0) rfl rfl rfl rfl ?_
    refine AL.v good (d := 13) (v := .str a0.op) rfl rfl rfl rfl ?_
    refine AW.block ?_
    refine AW.seq ?_
    refine AW.region (M := fun _ => true) ?_
    refine AL.sb good (d := 15) (b := (a0.op.data.toList == [108, 105, 116])) rfl rfl rfl rfl rfl rfl rfl ?_
    refine AL.v good (d := 14) (v := .bool (a0.op.data.toList == [108, 105, 116])) rfl rfl rfl rfl ?_
    refine AW.if rfl (fun h1 => ?_) (fun h1 => ?_)
    · replace hr := cnd_t h1 hr
      refine AW.seq ?_
      refine AW.region (M := fun _ => true) ?_
      refine AL.v good (d := 16) (v := .ptr 0 1) rfl rfl rfl rfl ?_
      refine AL.v good (d := 17) (v := .agg [.int .i64 a0.v.kind, .int .i64 a0.v.i, .bool a0.v.b, .str a0.v.s, .sl .ro 5 (encs a0.v.t)]) rfl rfl rfl rfl ?_
      refine AL.st2 good (c2 := [.int .i64 a0.v.kind, .int .i64 a0.v.i, .bool a0.v.b, .str a0.v.s, .sl .ro 5 (encs a0.v.t)]) rfl rfl rfl rfl rfl rfl rfl rfl rfl rfl rfl rfl ?_
      refine AL.v good (d := 5) (v := .int .i64 0) rfl rfl rfl rfl ?_
      refine AW.ret ?_
      obtain rfl := Option.some.inj hr
      exact RetQ.w good (.inr rfl) rfl rfl (Wv.refl _) (by simp [pureA, pureL, pureR, inA, inL, inR, inO, idsIn, encs_pure, enxs_pure, enys_pure, valC_pure, exC_pure, tyC_pure])
    · replace hr := cnd_f h1 hr
      refine AW.seq ?_
      refine AW.region (M := fun _ => true) ?_
      refine AL.sb good (d := 19) (b := (a0.op.data.toList == [120])) rfl rfl rfl rfl rfl rfl rfl ?_
      refine AL.v good (d := 18) (v := .bool (a0.op.data.toList == [120])) rfl rfl rfl rfl ?_
      refine AW.if rfl (fun h2 => ?_) (fun h2 => ?_)
      · replace hr := cnd_t h2 hr
        refine AW.seq ?_
        refine AW.region (M := fun _ => true) ?_
        refine AL.v good (d := 20) (v := .agg [.int .i64 a1.kind, .int .i64 a1.i, .bool a1.b, .str a1.s, .sl .ro 5 (encs a1.t)]) rfl rfl rfl rfl ?_
        refine AL.st2 good (c2 := [.int .i64 a1.kind, .int .i64 a1.i, .bool a1.b, .str a1.s, .sl .ro 5 (encs a1.t)]) rfl rfl rfl rfl rfl rfl rfl rfl rfl rfl rfl rfl ?_
        refine AL.v good (d := 5) (v := .int .i64 0) rfl rfl rfl rfl ?_
        refine AW.ret ?_
        obtain rfl := Option.some.inj hr
        exact RetQ.w good (.inr rfl) rfl rfl (Wv.refl _) (by simp [pureA, pureL, pureR, inA, inL, inR, inO, idsIn, encs_pure, enxs_pure, enys_pure, valC_pure, exC_pure, tyC_pure])
      · replace hr := cnd_f h2 hr
        refine AW.skip ?_
        refine AW.seq ?_
        refine AW.drawc (M := fun i => ⟨Nat.beq i 10, bif Nat.beq i 1 then some { ids := [0] } else bif Nat.beq i 3 then some { ids := [] } else bif Nat.beq i 4 then some { ids := [1] } else bif Nat.beq i 9 then some { ids := [3] } else bif Nat.beq i 10 then some { ids := [3] } else none⟩) good.wide (by kernel_rfl) ?_
        refine AL.v (nc := ⟨rfl⟩) good (d := 22) (v := .ptr 0 7) rfl rfl rfl rfl ?_
        refine AL.vc good (d := 23) (v := .sl .ro 8 (enxs a0.a)) rfl rfl rfl rfl rfl rfl (List.forall_mem_cons.2 ⟨.head _, (fun _ h => by cases h)⟩) ?_
        obtain ⟨x3, h4, hr⟩ := bnd1 hr
        refine AL.ix (nc := ⟨rfl⟩) good (d := 24) (r := [.str x3.op, .int .i64 x3.v.kind, .int .i64 x3.v.i, .bool x3.v.b, .str x3.v.s, .sl .ro 5 (encs x3.v.t), .int .i64 x3.n, .sl .ro 8 (enxs x3.a)]) rfl rfl rfl rfl rfl rfl rfl (by decide) (enxs_get h4) ?_
        refine AL.vc good (d := 25) (v := .agg [.str x3.op, .int .i64 x3.v.kind, .int .i64 x3.v.i, .bool x3.v.b, .str x3.v.s, .sl .ro 5 (encs x3.v.t), .int .i64 x3.n, .sl .ro 8 (enxs x3.a)]) rfl rfl rfl rfl rfl rfl (fun _ h => by cases h) ?_
        refine AL.vc good (d := 26) (v := .agg [.int .i64 a1.kind, .int .i64 a1.i, .bool a1.b, .str a1.s, .sl .ro 5 (encs a1.t)]) rfl rfl rfl rfl rfl rfl (List.forall_mem_cons.2 ⟨.head _, (fun _ h => by cases h)⟩) ?_
        obtain ⟨q5, h6, hr⟩ := bnd1 hr
        refine AL.cw (nc := ⟨rfl⟩) good (d := 27) (xs := [.agg (exC x3), .agg (valC a1)]) (res := .tup [.agg [.int .i64 q5.1.kind, .int .i64 q5.1.i, .bool q5.1.b, .str q5.1.s, .sl .ro 5 (encs q5.1.t)], .int .i64 q5.2]) rfl rfl rfl rfl rfl rfl rfl (ih _ _ _ _ h6 (by omega)) ⟨(Wv.refl _), (Wv.refl _), trivial⟩ (by simp [pureA, pureL, pureR, inA, inL, inR, inO, idsIn, encs_pure, enxs_pure, enys_pure, valC_pure, exC_pure, tyC_pure]) ?_
        refine AL.v (nc := ⟨rfl⟩) good (d := 21) (v := .tup [.agg [.int .i64 q5.1.kind, .int .i64 q5.1.i, .bool q5.1.b, .str q5.1.s, .sl .ro 5 (encs q5.1.t)], .int .i64 q5.2]) rfl rfl rfl rfl ?_
        refine AL.v (nc := ⟨rfl⟩) good (d := 28) (v := .agg [.int .i64 q5.1.kind, .int .i64 q5.1.i, .bool q5.1.b, .str q5.1.s, .sl .ro 5 (encs q5.1.t)]) rfl rfl rfl rfl ?_
        refine AL.v (nc := ⟨rfl⟩) good (d := 29) (v := .int .i64 q5.2) rfl rfl rfl rfl ?_
        refine AL.alcC good (d := 6) rfl rfl rfl rfl rfl 3 rfl (ColN.mk rfl rfl (fun _ h => by cases h) (List.forall_mem_cons.2 ⟨.head _, (fun _ h => by cases h)⟩) (fun _ h => by cases h)) ?_
        refine AL.st2c good (c2 := [.int .i64 q5.1.kind, .int .i64 q5.1.i, .bool q5.1.b, .str q5.1.s, .sl .ro 5 (encs q5.1.t)]) rfl rfl rfl rfl rfl rfl rfl rfl rfl rfl rfl rfl rfl ?_
        refine AL.v (nc := ⟨rfl⟩) good (d := 7) (v := .int .i64 q5.2) rfl rfl rfl rfl ?_
        refine AW.seq ?_
        refine AW.seq ?_
        refine AW.region (M := fun _ => true) ?_
        refine AL.v good (d := 30) (v := .int .i64 q5.2) rfl rfl rfl rfl ?_
        refine AL.v good (d := 31) (v := .bool (q5.2 != 0)) rfl rfl rfl rfl ?_
        refine AW.if rfl (fun h7 => ?_) (fun h7 => ?_)
        · replace hr := cnd_t h7 hr
          refine AW.seq ?_
          refine AW.region (M := fun _ => true) ?_
          refine AL.bld good (d := 32) (l := [.int .i64 0, .int .i64 0, .bool false, .str ⟨#[]⟩, .sl .nil 0 []]) rfl rfl rfl rfl rfl rfl rfl ?_
          refine AL.v good (d := 33) (v := .int .i64 q5.2) rfl rfl rfl rfl ?_
          refine AL.st2 good (c2 := [.int .i64 0, .int .i64 0, .bool false, .str ⟨#[]⟩, .sl .nil 0 []]) rfl rfl rfl rfl rfl rfl rfl rfl rfl rfl rfl rfl ?_
          refine AL.v good (d := 5) (v := .int .i64 q5.2) rfl rfl rfl rfl ?_
          refine AW.ret ?_
          obtain rfl := Option.some.inj hr
          exact RetQ.w good (.inr rfl) rfl rfl ⟨⟨Wv.refl _, Wv.refl _, Wv.refl _, Wv.refl _, ⟨.inr rfl, trivial, .inr rfl⟩, trivial⟩, Wv.refl _, trivial⟩ (by simp [pureA, pureL, pureR, inA, inL, inR, inO, idsIn, encs_pure, enxs_pure, enys_pure, valC_pure, exC_pure, tyC_pure])
        · replace hr := cnd_f h7 hr
          refine AW.skip ?_
          refine AW.seq ?_
          refine AW.seq ?_
          refine AW.region (M := fun _ => true) ?_
          refine AL.v good (d := 34) (v := .ptr 0 0) rfl rfl rfl rfl ?_
          refine AL.v good (d := 35) (v := .str a0.op) rfl rfl rfl rfl ?_
          refine AW.block ?_
          refine AW.seq ?_
          refine AW.region (M := fun _ => true) ?_
          refine AL.sb good (d := 37) (b := (a0.op.data.toList == [97, 110, 100])) rfl rfl rfl rfl rfl rfl rfl ?_
          refine AL.v good (d := 36) (v := .bool (a0.op.data.toList == [97, 110, 100])) rfl rfl rfl rfl ?_
          refine AW.if rfl (fun h8 => ?_) (fun h8 => ?_)
          · replace hr := cnd_t h8 hr
            refine AW.seq ?_
            refine AW.seq ?_
            refine AW.region (M := fun _ => true) ?_
            refine AL.v good (d := 38) (v := .ptr 3 2) rfl rfl rfl rfl ?_
            refine AL.v good (d := 39) (v := .bool q5.1.b) rfl rfl rfl rfl ?_
            refine AL.v good (d := 40) (v := .bool (!q5.1.b)) rfl rfl rfl rfl ?_
            refine AW.if rfl (fun h9 => ?_) (fun h9 => ?_)
            · replace hr := cnd_t h9 hr
              refine AW.seq ?_
              refine AW.region (M := fun _ => true) ?_
              refine AL.v good (d := 41) (v := .agg [.int .i64 q5.1.kind, .int .i64 q5.1.i, .bool q5.1.b, .str q5.1.s, .sl .ro 5 (encs q5.1.t)]) rfl rfl rfl rfl ?_
              refine AL.st2 good (c2 := [.int .i64 q5.1.kind, .int .i64 q5.1.i, .bool q5.1.b, .str q5.1.s, .sl .ro 5 (encs q5.1.t)]) rfl rfl rfl rfl rfl rfl rfl rfl rfl rfl rfl rfl ?_
              refine AL.v good (d := 5) (v := .int .i64 0) rfl rfl rfl rfl ?_
              refine AW.ret ?_
              obtain rfl := Option.some.inj hr
              exact RetQ.w good (.inr rfl) rfl rfl (Wv.refl _) (by simp [pureA, pureL, pureR, inA, inL, inR, inO, idsIn, encs_pure, enxs_pure, enys_pure, valC_pure, exC_pure, tyC_pure])
            · replace hr := cnd_f h9 hr
              refine AW.skip ?_
              refine AW.seq ?_
              refine AW.drawc (M := fun i => ⟨Nat.beq i 8, bif Nat.beq i 1 then some { ids := [0] } else bif Nat.beq i 3 then some { ids := [] } else bif Nat.beq i 4 then some { ids := [1] } else bif Nat.beq i 8 then some { ids := [2] } else none⟩) good.wide (by kernel_rfl) ?_
              refine AL.v (nc := ⟨rfl⟩) good (d := 42) (v := .ptr 0 7) rfl rfl rfl rfl ?_
              refine AL.vc good (d := 43) (v := .sl .ro 8 (enxs a0.a)) rfl rfl rfl rfl rfl rfl (List.forall_mem_cons.2 ⟨.head _, (fun _ h => by cases h)⟩) ?_
              obtain ⟨x10, h11, hr⟩ := bnd1 hr
              refine AL.ix (nc := ⟨rfl⟩) good (d := 44) (r := [.str x10.op, .int .i64 x10.v.kind, .int .i64 x10.v.i, .bool x10.v.b, .str x10.v.s, .sl .ro 5 (encs x10.v.t), .int .i64 x10.n, .sl .ro 8 (enxs x10.a)]) rfl rfl rfl rfl rfl rfl rfl (by decide) (enxs_get h11) ?_
              refine AL.vc good (d := 45) (v := .agg [.str x10.op, .int .i64 x10.v.kind, .int .i64 x10.v.i, .bool x10.v.b, .str x10.v.s, .sl .ro 5 (encs x10.v.t), .int .i64 x10.n, .sl .ro 8 (enxs x10.a)]) rfl rfl rfl rfl rfl rfl (fun _ h => by cases h) ?_
              refine AL.vc good (d := 46) (v := .agg [.int .i64 a1.kind, .int .i64 a1.i, .bool a1.b, .str a1.s, .sl .ro 5 (encs a1.t)]) rfl rfl rfl rfl rfl rfl (List.forall_mem_cons.2 ⟨.head _, (fun _ h => by cases h)⟩) ?_
              obtain ⟨q12, h13, hr⟩ := bnd1 hr
              refine AL.cw (nc := ⟨rfl⟩) good (d := 47) (xs := [.agg (exC x10), .agg (valC a1)]) (res := .tup [.agg [.int .i64 q12.1.kind, .int .i64 q12.1.i, .bool q12.1.b, .str q12.1.s, .sl .ro 5 (encs q12.1.t)], .int .i64 q12.2]) rfl rfl rfl rfl rfl rfl rfl (ih _ _ _ _ h13 (by omega)) ⟨(Wv.refl _), (Wv.refl _), trivial⟩ (by simp [pureA, pureL, pureR, inA, inL, inR, inO, idsIn, encs_pure, enxs_pure, enys_pure, valC_pure, exC_pure, tyC_pure]) ?_
              refine AL.v (nc := ⟨rfl⟩) good (d := 48) (v := .agg [.int .i64 q12.1.kind, .int .i64 q12.1.i, .bool q12.1.b, .str q12.1.s, .sl .ro 5 (encs q12.1.t)]) rfl rfl rfl rfl ?_
              refine AL.v (nc := ⟨rfl⟩) good (d := 49) (v := .int .i64 q12.2) rfl rfl rfl rfl ?_
              refine AL.st2c good (c2 := [.int .i64 q12.1.kind, .int .i64 q12.1.i, .bool q12.1.b, .str q12.1.s, .sl .ro 5 (encs q12.1.t)]) rfl rfl rfl rfl rfl rfl rfl rfl rfl rfl rfl rfl rfl ?_
              refine AL.v (nc := ⟨rfl⟩) good (d := 5) (v := .int .i64 q12.2) rfl rfl rfl rfl ?_
              refine AW.ret ?_
              obtain rfl := Option.some.inj hr
              exact RetQ.w good (.inr rfl) rfl rfl (Wv.refl _) (by simp [pureA, pureL, pureR, inA, inL, inR, inO, idsIn, encs_pure, enxs_pure, enys_pure, valC_pure, exC_pure, tyC_pure])
          · replace hr := cnd_f h8 hr
            refine AW.seq ?_
            refine AW.region (M := fun _ => true) ?_
            refine AL.sb good (d := 51) (b := (a0.op.data.toList == [111, 114])) rfl rfl rfl rfl rfl rfl rfl ?_
            refine AL.v good (d := 50) (v := .bool (a0.op.data.toList == [111, 114])) rfl rfl rfl rfl ?_
            refine AW.if rfl (fun h14 => ?_) (fun h14 => ?_)
            · replace hr := cnd_t h14 hr
              refine AW.seq ?_
              refine AW.seq ?_
              refine AW.region (M := fun _ => true) ?_
              refine AL.v good (d := 52) (v := .ptr 3 2) rfl rfl rfl rfl ?_
              refine AL.v good (d := 53) (v := .bool q5.1.b) rfl rfl rfl rfl ?_
              refine AW.if rfl (fun h15 => ?_) (fun h15 => ?_)
              · replace hr := cnd_t h15 hr
                refine AW.seq ?_
                refine AW.region (M := fun _ => true) ?_
                refine AL.v good (d := 54) (v := .agg [.int .i64 q5.1.kind, .int .i64 q5.1.i, .bool q5.1.b, .str q5.1.s, .sl .ro 5 (encs q5.1.t)]) rfl rfl rfl rfl ?_
                refine AL.st2 good (c2 := [.int .i64 q5.1.kind, .int .i64 q5.1.i, .bool q5.1.b, .str q5.1.s, .sl .ro 5 (encs q5.1.t)]) rfl rfl rfl rfl rfl rfl rfl rfl rfl rfl rfl rfl ?_
                refine AL.v good (d := 5) (v := .int .i64 0) rfl rfl rfl rfl ?_
                refine AW.ret ?_
                obtain rfl := Option.some.inj hr
                exact RetQ.w good (.inr rfl) rfl rfl (Wv.refl _) (by simp [pureA, pureL, pureR, inA, inL, inR, inO, idsIn, encs_pure, enxs_pure, enys_pure, valC_pure, exC_pure, tyC_pure])
              · replace hr := cnd_f h15 hr
                refine AW.skip ?_
                refine AW.seq ?_
                refine AW.drawc (M := fun i => ⟨Nat.beq i 8, bif Nat.beq i 1 then some { ids := [0] } else bif Nat.beq i 3 then some { ids := [] } else bif Nat.beq i 4 then some { ids := [1] } else bif Nat.beq i 8 then some { ids := [2] } else none⟩) good.wide (by kernel_rfl) ?_
                refine AL.v (nc := ⟨rfl⟩) good (d := 55) (v := .ptr 0 7) rfl rfl rfl rfl ?_
                refine AL.vc good (d := 56) (v := .sl .ro 8 (enxs a0.a)) rfl rfl rfl rfl rfl rfl (List.forall_mem_cons.2 ⟨.head _, (fun _ h => by cases h)⟩) ?_
                obtain ⟨x16, h17, hr⟩ := bnd1 hr
                refine AL.ix (nc := ⟨rfl⟩) good (d := 57) (r := [.str x16.op, .int .i64 x16.v.kind, .int .i64 x16.v.i, .bool x16.v.b, .str x16.v.s, .sl .ro 5 (encs x16.v.t), .int .i64 x16.n, .sl .ro 8 (enxs x16.a)]) rfl rfl rfl rfl rfl rfl rfl (by decide) (enxs_get h17) ?_
                refine AL.vc good (d := 58) (v := .agg [.str x16.op, .int .i64 x16.v.kind, .int .i64 x16.v.i, .bool x16.v.b, .str x16.v.s, .sl .ro 5 (encs x16.v.t), .int .i64 x16.n, .sl .ro 8 (enxs x16.a)]) rfl rfl rfl rfl rfl rfl (fun _ h => by cases h) ?_
                refine AL.vc good (d := 59) (v := .agg [.int .i64 a1.kind, .int .i64 a1.i, .bool a1.b, .str a1.s, .sl .ro 5 (encs a1.t)]) rfl rfl rfl rfl rfl rfl (List.forall_mem_cons.2 ⟨.head _, (fun _ h => by cases h)⟩) ?_
                obtain ⟨q18, h19, hr⟩ := bnd1 hr
                refine AL.cw (nc := ⟨rfl⟩) good (d := 60) (xs := [.agg (exC x16), .agg (valC a1)]) (res := .tup [.agg [.int .i64 q18.1.kind, .int .i64 q18.1.i, .bool q18.1.b, .str q18.1.s, .sl .ro 5 (encs q18.1.t)], .int .i64 q18.2]) rfl rfl rfl rfl rfl rfl rfl (ih _ _ _ _ h19 (by omega)) ⟨(Wv.refl _), (Wv.refl _), trivial⟩ (by simp [pureA, pureL, pureR, inA, inL, inR, inO, idsIn, encs_pure, enxs_pure, enys_pure, valC_pure, exC_pure, tyC_pure]) ?_
                refine AL.v (nc := ⟨rfl⟩) good (d := 61) (v := .agg [.int .i64 q18.1.kind, .int .i64 q18.1.i, .bool q18.1.b, .str q18.1.s, .sl .ro 5 (encs q18.1.t)]) rfl rfl rfl rfl ?_
                refine AL.v (nc := ⟨rfl⟩) good (d := 62) (v := .int .i64 q18.2) rfl rfl rfl rfl ?_
                refine AL.st2c good (c2 := [.int .i64 q18.1.kind, .int .i64 q18.1.i, .bool q18.1.b, .str q18.1.s, .sl .ro 5 (encs q18.1.t)]) rfl rfl rfl rfl rfl rfl rfl rfl rfl rfl rfl rfl rfl ?_
                refine AL.v (nc := ⟨rfl⟩) good (d := 5) (v := .int .i64 q18.2) rfl rfl rfl rfl ?_
                refine AW.ret ?_
                obtain rfl := Option.some.inj hr
                exact RetQ.w good (.inr rfl) rfl rfl (Wv.refl _) (by simp [pureA, pureL, pureR, inA, inL, inR, inO, idsIn, encs_pure, enxs_pure, enys_pure, valC_pure, exC_pure, tyC_pure])
            · replace hr := cnd_f h14 hr
              refine AW.seq ?_
              refine AW.region (M := fun _ => true) ?_
              refine AL.sb good (d := 64) (b := (a0.op.data.toList == [105, 102])) rfl rfl rfl rfl rfl rfl rfl ?_
              refine AL.v good (d := 63) (v := .bool (a0.op.data.toList == [105, 102])) rfl rfl rfl rfl ?_
              refine AW.if rfl (fun h20 => ?_) (fun h20 => ?_)
              · replace hr := cnd_t h20 hr
                refine AW.seq ?_
                refine AW.seq ?_
                refine AW.region (M := fun _ => true) ?_
                refine AL.v good (d := 65) (v := .ptr 3 2) rfl rfl rfl rfl ?_
                refine AL.v good (d := 66) (v := .bool q5.1.b) rfl rfl rfl rfl ?_
                refine AW.if rfl (fun h21 => ?_) (fun h21 => ?_)
                · replace hr := cnd_t h21 hr
                  refine AW.seq ?_
                  refine AW.drawc (M := fun i => ⟨Nat.beq i 8, bif Nat.beq i 1 then some { ids := [0] } else bif Nat.beq i 3 then some { ids := [] } else bif Nat.beq i 4 then some { ids := [1] } else bif Nat.beq i 8 then some { ids := [2] } else none⟩) good.wide (by kernel_rfl) ?_
                  refine AL.v (nc := ⟨rfl⟩) good (d := 67) (v := .ptr 0 7) rfl rfl rfl rfl ?_
                  refine AL.vc good (d := 68) (v := .sl .ro 8 (enxs a0.a)) rfl rfl rfl rfl rfl rfl (List.forall_mem_cons.2 ⟨.head _, (fun _ h => by cases h)⟩) ?_
                  obtain ⟨x22, h23, hr⟩ := bnd1 hr
                  refine AL.ix (nc := ⟨rfl⟩) good (d := 69) (r := [.str x22.op, .int .i64 x22.v.kind, .int .i64 x22.v.i, .bool x22.v.b, .str x22.v.s, .sl .ro 5 (encs x22.v.t), .int .i64 x22.n, .sl .ro 8 (enxs x22.a)]) rfl rfl rfl rfl rfl rfl rfl (by decide) (enxs_get h23) ?_
                  refine AL.vc good (d := 70) (v := .agg [.str x22.op, .int .i64 x22.v.kind, .int .i64 x22.v.i, .bool x22.v.b, .str x22.v.s, .sl .ro 5 (encs x22.v.t), .int .i64 x22.n, .sl .ro 8 (enxs x22.a)]) rfl rfl rfl rfl rfl rfl (fun _ h => by cases h) ?_
                  refine AL.vc good (d := 71) (v := .agg [.int .i64 a1.kind, .int .i64 a1.i, .bool a1.b, .str a1.s, .sl .ro 5 (encs a1.t)]) rfl rfl rfl rfl rfl rfl (List.forall_mem_cons.2 ⟨.head _, (fun _ h => by cases h)⟩) ?_
                  obtain ⟨q24, h25, hr⟩ := bnd1 hr
                  refine AL.cw (nc := ⟨rfl⟩) good (d := 72) (xs := [.agg (exC x22), .agg (valC a1)]) (res := .tup [.agg [.int .i64 q24.1.kind, .int .i64 q24.1.i, .bool q24.1.b, .str q24.1.s, .sl .ro 5 (encs q24.1.t)], .int .i64 q24.2]) rfl rfl rfl rfl rfl rfl rfl (ih _ _ _ _ h25 (by omega)) ⟨(Wv.refl _), (Wv.refl _), trivial⟩ (by simp [pureA, pureL, pureR, inA, inL, inR, inO, idsIn, encs_pure, enxs_pure, enys_pure, valC_pure, exC_pure, tyC_pure]) ?_
                  refine AL.v (nc := ⟨rfl⟩) good (d := 73) (v := .agg [.int .i64 q24.1.kind, .int .i64 q24.1.i, .bool q24.1.b, .str q24.1.s, .sl .ro 5 (encs q24.1.t)]) rfl rfl rfl rfl ?_
                  refine AL.v (nc := ⟨rfl⟩) good (d := 74) (v := .int .i64 q24.2) rfl rfl rfl rfl ?_
                  refine AL.st2c good (c2 := [.int .i64 q24.1.kind, .int .i64 q24.1.i, .bool q24.1.b, .str q24.1.s, .sl .ro 5 (encs q24.1.t)]) rfl rfl rfl rfl rfl rfl rfl rfl rfl rfl rfl rfl rfl ?_
                  refine AL.v (nc := ⟨rfl⟩) good (d := 5) (v := .int .i64 q24.2) rfl rfl rfl rfl ?_
                  refine AW.ret ?_
                  obtain rfl := Option.some.inj hr
                  exact RetQ.w good (.inr rfl) rfl rfl (Wv.refl _) (by simp [pureA, pureL, pureR, inA, inL, inR, inO, idsIn, encs_pure, enxs_pure, enys_pure, valC_pure, exC_pure, tyC_pure])
                · replace hr := cnd_f h21 hr
                  refine AW.skip ?_
                  refine AW.seq ?_
                  refine AW.drawc (M := fun i => ⟨Nat.beq i 8, bif Nat.beq i 1 then some { ids := [0] } else bif Nat.beq i 3 then some { ids := [] } else bif Nat.beq i 4 then some { ids := [1] } else bif Nat.beq i 8 then some { ids := [2] } else none⟩) good.wide (by kernel_rfl) ?_
                  refine AL.v (nc := ⟨rfl⟩) good (d := 75) (v := .ptr 0 7) rfl rfl rfl rfl ?_
                  refine AL.vc good (d := 76) (v := .sl .ro 8 (enxs a0.a)) rfl rfl rfl rfl rfl rfl (List.forall_mem_cons.2 ⟨.head _, (fun _ h => by cases h)⟩) ?_
                  obtain ⟨x26, h27, hr⟩ := bnd1 hr
                  refine AL.ix (nc := ⟨rfl⟩) good (d := 77) (r := [.str x26.op, .int .i64 x26.v.kind, .int .i64 x26.v.i, .bool x26.v.b, .str x26.v.s, .sl .ro 5 (encs x26.v.t), .int .i64 x26.n, .sl .ro 8 (enxs x26.a)]) rfl rfl rfl rfl rfl rfl rfl (by decide) (enxs_get h27) ?_
                  refine AL.vc good (d := 78) (v := .agg [.str x26.op, .int .i64 x26.v.kind, .int .i64 x26.v.i, .bool x26.v.b, .str x26.v.s, .sl .ro 5 (encs x26.v.t), .int .i64 x26.n, .sl .ro 8 (enxs x26.a)]) rfl rfl rfl rfl rfl rfl (fun _ h => by cases h) ?_
                  refine AL.vc good (d := 79) (v := .agg [.int .i64 a1.kind, .int .i64 a1.i, .bool a1.b, .str a1.s, .sl .ro 5 (encs a1.t)]) rfl rfl rfl rfl rfl rfl (List.forall_mem_cons.2 ⟨.head _, (fun _ h => by cases h)⟩) ?_
                  obtain ⟨q28, h29, hr⟩ := bnd1 hr
                  refine AL.cw (nc := ⟨rfl⟩) good (d := 80) (xs := [.agg (exC x26), .agg (valC a1)]) (res := .tup [.agg [.int .i64 q28.1.kind, .int .i64 q28.1.i, .bool q28.1.b, .str q28.1.s, .sl .ro 5 (encs q28.1.t)], .int .i64 q28.2]) rfl rfl rfl rfl rfl rfl rfl (ih _ _ _ _ h29 (by omega)) ⟨(Wv.refl _), (Wv.refl _), trivial⟩ (by simp [pureA, pureL, pureR, inA, inL, inR, inO, idsIn, encs_pure, enxs_pure, enys_pure, valC_pure, exC_pure, tyC_pure]) ?_
                  refine AL.v (nc := ⟨rfl⟩) good (d := 81) (v := .agg [.int .i64 q28.1.kind, .int .i64 q28.1.i, .bool q28.1.b, .str q28.1.s, .sl .ro 5 (encs q28.1.t)]) rfl rfl rfl rfl ?_
                  refine AL.v (nc := ⟨rfl⟩) good (d := 82) (v := .int .i64 q28.2) rfl rfl rfl rfl ?_
                  refine AL.st2c good (c2 := [.int .i64 q28.1.kind, .int .i64 q28.1.i, .bool q28.1.b, .str q28.1.s, .sl .ro 5 (encs q28.1.t)]) rfl rfl rfl rfl rfl rfl rfl rfl rfl rfl rfl rfl rfl ?_
                  refine AL.v (nc := ⟨rfl⟩) good (d := 5) (v := .int .i64 q28.2) rfl rfl rfl rfl ?_
                  refine AW.ret ?_
                  obtain rfl := Option.some.inj hr
                  exact RetQ.w good (.inr rfl) rfl rfl (Wv.refl _) (by simp [pureA, pureL, pureR, inA, inL, inR, inO, idsIn, encs_pure, enxs_pure, enys_pure, valC_pure, exC_pure, tyC_pure])
              · replace hr := cnd_f h20 hr
                refine AW.skip ?_
                refine AW.seq ?_
                refine AW.region (M := fun _ => true) ?_
                refine AL.v good (d := 83) (v := .agg [.int .i64 q5.1.kind, .int .i64 q5.1.i, .bool q5.1.b, .str q5.1.s, .sl .ro 5 (encs q5.1.t)]) rfl rfl rfl rfl ?_
                refine AL.lit good (d := 84) (rows := [[.int .i64 q5.1.kind, .int .i64 q5.1.i, .bool q5.1.b, .str q5.1.s, .sl .ro 5 (encs q5.1.t)]]) rfl rfl rfl rfl rfl rfl rfl rfl rfl 4 rfl ?_
                refine AL.v good (d := 8) (v := .sl (.own 4) 5 [[.int .i64 q5.1.kind, .int .i64 q5.1.i, .bool q5.1.b, .str q5.1.s, .sl .ro 5 (encs q5.1.t)]]) rfl rfl rfl rfl ?_
                refine AW.seq ?_
                refine AW.seq ?_
                refine AW.region (M := fun _ => true) ?_
                refine AL.v good (d := 9) (v := .int .i64 1) rfl rfl rfl rfl ?_
                refine AW.block ?_
                refine AW.lensB 0 rfl (fun hl38 => ?_)
                replace hl38 : a0.a.length ≤ 9223372036854775807 := by rw [← enxs_length a0.a]; exact hl38.2.2.2.2.2.2.2.1
                refine AW.lpw (fun x : Nat × (List Val) × Nat => [(2, .ptr 0 0), (3, .ptr 1 0), (4, .ptr 2 0), (8, .sl (.own 4) 5 (encs x.2.1)), (9, .int .i64 (x.2.2 : Int))]) (fun x => [(0, .box 36 [.str a0.op, .int .i64 a0.v.kind, .int .i64 a0.v.i, .bool a0.v.b, .str a0.v.s, .sl .ro 5 (encs a0.v.t), .int .i64 a0.n, .sl .ro 8 (enxs a0.a)]), (1, .box 33 [.int .i64 a1.kind, .int .i64 a1.i, .bool a1.b, .str a1.s, .sl .ro 5 (encs a1.t)]), (2, .box 33 [.int .i64 0, .int .i64 0, .bool false, .str ⟨#[]⟩, .sl .nil 0 []]), (4, .row 33 5 (encs x.2.1).length)]) (fun x => s_f24_l1 x.1 a0 a1 x.2.1 x.2.2 = some r ∧ x.1 ≤ n) (fun x => x.1) (n, [q5.1], 1) ⟨(fun _ h => by cases h), List.forall_mem_cons.2 ⟨⟨⟨_, rfl, Wv.refl _⟩, (by simp [pureA, pureL, pureR, inA, inL, inR, inO, idsIn, encs_pure, enxs_pure, enys_pure, valC_pure, exC_pure, tyC_pure])⟩, List.forall_mem_cons.2 ⟨⟨⟨_, rfl, Wv.refl _⟩, (by simp [pureA, pureL, pureR, inA, inL, inR, inO, idsIn, encs_pure, enxs_pure, enys_pure, valC_pure, exC_pure, tyC_pure])⟩, List.forall_mem_cons.2 ⟨⟨⟨_, rfl, Wv.refl _⟩, (by simp [pureA, pureL, pureR, inA, inL, inR, inO, idsIn, encs_pure, enxs_pure, enys_pure, valC_pure, exC_pure, tyC_pure])⟩, List.forall_mem_cons.2 ⟨⟨⟨_, rfl, ⟨.inl rfl, (WvR_encs ⟨⟨Wv.refl _, Wv.refl _, Wv.refl _, Wv.refl _, Wv.refl _, trivial⟩, trivial⟩), .inl rfl⟩⟩, (by simp [pureA, pureL, pureR, inA, inL, inR, inO, idsIn, encs_pure, enxs_pure, enys_pure, valC_pure, exC_pure, tyC_pure])⟩, List.forall_mem_cons.2 ⟨⟨⟨_, rfl, Wv.refl _⟩, (by simp [pureA, pureL, pureR, inA, inL, inR, inO, idsIn, encs_pure, enxs_pure, enys_pure, valC_pure, exC_pure, tyC_pure])⟩, (fun _ h => by cases h)⟩⟩⟩⟩⟩, List.forall_mem_cons.2 ⟨⟨⟨_, rfl, ⟨rfl, ⟨Wv.refl _, Wv.refl _, Wv.refl _, Wv.refl _, Wv.refl _, Wv.refl _, Wv.refl _, Wv.refl _, trivial⟩⟩⟩, (by simp [pureA, pureL, pureR, inA, inL, inR, inO, idsIn, encs_pure, enxs_pure, enys_pure, valC_pure, exC_pure, tyC_pure])⟩, List.forall_mem_cons.2 ⟨⟨⟨_, rfl, ⟨rfl, ⟨Wv.refl _, Wv.refl _, Wv.refl _, Wv.refl _, Wv.refl _, trivial⟩⟩⟩, (by simp [pureA, pureL, pureR, inA, inL, inR, inO, idsIn, encs_pure, enxs_pure, enys_pure, valC_pure, exC_pure, tyC_pure])⟩, List.forall_mem_cons.2 ⟨⟨⟨_, rfl, ⟨rfl, ⟨Wv.refl _, Wv.refl _, Wv.refl _, Wv.refl _, Wv.refl _, trivial⟩⟩⟩, (by simp [pureA, pureL, pureR, inA, inL, inR, inO, idsIn, encs_pure, enxs_pure, enys_pure, valC_pure, exC_pure, tyC_pure])⟩, List.forall_mem_cons.2 ⟨⟨⟨_, rfl, ⟨rfl, rfl, rfl⟩⟩, (by simp [pureA, pureL, pureR, inA, inL, inR, inO, idsIn, encs_pure, enxs_pure, enys_pure, valC_pure, exC_pure, tyC_pure])⟩, (fun _ h => by cases h)⟩⟩⟩⟩⟩ ⟨hr, Nat.le_refl _⟩ (fun ⟨m, v1_1, v1_2⟩ hx => ?_)
                obtain ⟨hr, hm⟩ := hx
                try dsimp only at hr hm
                cases m with
                | zero => rw [s_f24_l1] at hr; cases hr
                | succ m =>
                  rw [s_f24_l1] at hr
                  show AW Try.prog _ _ _ (mkS 118 [(2, .ptr 0 0), (3, .ptr 1 0), (4, .ptr 2 0), (8, .sl (.own 4) 5 (encs v1_1)), (9, .int .i64 (v1_2 : Int))] [(0, .box 36 [.str a0.op, .int .i64 a0.v.kind, .int .i64 a0.v.i, .bool a0.v.b, .str a0.v.s, .sl .ro 5 (encs a0.v.t), .int .i64 a0.n, .sl .ro 8 (enxs a0.a)]), (1, .box 33 [.int .i64 a1.kind, .int .i64 a1.i, .bool a1.b, .str a1.s, .sl .ro 5 (encs a1.t)]), (2, .box 33 [.int .i64 0, .int .i64 0, .bool false, .str ⟨#[]⟩, .sl .nil 0 []]), (4, .row 33 5 (encs v1_1).length)])
                  refine AW.seq ?_
                  refine AW.seq ?_
                  refine AW.region (M := fun _ => true) ?_
                  refine AL.v good (d := 85) (v := .int .i64 (v1_2 : Int)) rfl rfl rfl rfl ?_
                  refine AL.v good (d := 86) (v := .ptr 0 7) rfl rfl rfl rfl ?_
                  refine AL.v good (d := 87) (v := .sl .ro 8 (enxs a0.a)) rfl rfl rfl rfl ?_
                  refine AL.ln good (d := 88) (m := a0.a.length) rfl rfl rfl rfl rfl rfl (enxs_length _) ?_
                  refine AL.v good (d := 89) (v := .bool (decide ((v1_2 : Int) < (a0.a.length : Int)))) rfl rfl rfl rfl ?_
                  refine AW.if rfl (fun h39 => ?_) (fun h39 => ?_)
                  · replace hr := cnd_t h39 hr
                    refine AW.skip ?_
                    refine AW.seq ?_
                    refine AW.block ?_
                    refine AW.seq ?_
                    refine AW.drawc (M := fun i => ⟨Nat.beq i 11, bif Nat.beq i 1 then some { ids := [0] } else bif Nat.beq i 4 then some { ids := [] } else bif Nat.beq i 5 then some { ids := [1] } else bif Nat.beq i 10 then some { ids := [5] } else bif Nat.beq i 11 then some { ids := [5] } else none⟩) good.wide (by kernel_rfl) ?_
                    refine AL.v (nc := ⟨rfl⟩) good (d := 93) (v := .ptr 0 7) rfl rfl rfl rfl ?_
                    refine AL.vc good (d := 94) (v := .sl .ro 8 (enxs a0.a)) rfl rfl rfl rfl rfl rfl (List.forall_mem_cons.2 ⟨.head _, (fun _ h => by cases h)⟩) ?_
                    refine AL.v (nc := ⟨rfl⟩) good (d := 95) (v := .int .i64 (v1_2 : Int)) rfl rfl rfl rfl ?_
                    obtain ⟨x40, h41, hr⟩ := bnd1 hr
                    refine AL.ix (nc := ⟨rfl⟩) good (d := 96) (r := [.str x40.op, .int .i64 x40.v.kind, .int .i64 x40.v.i, .bool x40.v.b, .str x40.v.s, .sl .ro 5 (encs x40.v.t), .int .i64 x40.n, .sl .ro 8 (enxs x40.a)]) rfl rfl rfl rfl rfl rfl rfl (Int.natCast_nonneg _) (enxs_get h41) ?_
                    refine AL.vc good (d := 97) (v := .agg [.str x40.op, .int .i64 x40.v.kind, .int .i64 x40.v.i, .bool x40.v.b, .str x40.v.s, .sl .ro 5 (encs x40.v.t), .int .i64 x40.n, .sl .ro 8 (enxs x40.a)]) rfl rfl rfl rfl rfl rfl (fun _ h => by cases h) ?_
                    refine AL.vc good (d := 98) (v := .agg [.int .i64 a1.kind, .int .i64 a1.i, .bool a1.b, .str a1.s, .sl .ro 5 (encs a1.t)]) rfl rfl rfl rfl rfl rfl (List.forall_mem_cons.2 ⟨.head _, (fun _ h => by cases h)⟩) ?_
                    obtain ⟨q42, h43, hr⟩ := bnd1 hr
                    refine AL.cw (nc := ⟨rfl⟩) good (d := 99) (xs := [.agg (exC x40), .agg (valC a1)]) (res := .tup [.agg [.int .i64 q42.1.kind, .int .i64 q42.1.i, .bool q42.1.b, .str q42.1.s, .sl .ro 5 (encs q42.1.t)], .int .i64 q42.2]) rfl rfl rfl rfl rfl rfl rfl (ih _ _ _ _ h43 (by omega)) ⟨(Wv.refl _), (Wv.refl _), trivial⟩ (by simp [pureA, pureL, pureR, inA, inL, inR, inO, idsIn, encs_pure, enxs_pure, enys_pure, valC_pure, exC_pure, tyC_pure]) ?_
                    refine AL.v (nc := ⟨rfl⟩) good (d := 92) (v := .tup [.agg [.int .i64 q42.1.kind, .int .i64 q42.1.i, .bool q42.1.b, .str q42.1.s, .sl .ro 5 (encs q42.1.t)], .int .i64 q42.2]) rfl rfl rfl rfl ?_
                    refine AL.v (nc := ⟨rfl⟩) good (d := 100) (v := .agg [.int .i64 q42.1.kind, .int .i64 q42.1.i, .bool q42.1.b, .str q42.1.s, .sl .ro 5 (encs q42.1.t)]) rfl rfl rfl rfl ?_
                    refine AL.v (nc := ⟨rfl⟩) good (d := 101) (v := .int .i64 q42.2) rfl rfl rfl rfl ?_
                    refine AL.alcC good (d := 10) rfl rfl rfl rfl rfl 5 rfl (ColN.mk rfl rfl (fun _ h => by cases h) (List.forall_mem_cons.2 ⟨.head _, (fun _ h => by cases h)⟩) (fun _ h => by cases h)) ?_
                    refine AL.st2c good (c2 := [.int .i64 q42.1.kind, .int .i64 q42.1.i, .bool q42.1.b, .str q42.1.s, .sl .ro 5 (encs q42.1.t)]) rfl rfl rfl rfl rfl rfl rfl rfl rfl rfl rfl rfl rfl ?_
                    refine AL.v (nc := ⟨rfl⟩) good (d := 11) (v := .int .i64 q42.2) rfl rfl rfl rfl ?_
                    refine AW.seq ?_
                    refine AW.seq ?_
                    refine AW.region (M := fun _ => true) ?_
                    refine AL.v good (d := 102) (v := .int .i64 q42.2) rfl rfl rfl rfl ?_
                    refine AL.v good (d := 103) (v := .bool (q42.2 != 0)) rfl rfl rfl rfl ?_
                    refine AW.if rfl (fun h44 => ?_) (fun h44 => ?_)
                    · replace hr := cnd_t h44 hr
                      refine AW.seq ?_
                      refine AW.region (M := fun _ => true) ?_
                      refine AL.bld good (d := 104) (l := [.int .i64 0, .int .i64 0, .bool false, .str ⟨#[]⟩, .sl .nil 0 []]) rfl rfl rfl rfl rfl rfl rfl ?_
                      refine AL.v good (d := 105) (v := .int .i64 q42.2) rfl rfl rfl rfl ?_
                      refine AL.st2 good (c2 := [.int .i64 0, .int .i64 0, .bool false, .str ⟨#[]⟩, .sl .nil 0 []]) rfl rfl rfl rfl rfl rfl rfl rfl rfl rfl rfl rfl ?_
                      refine AL.v good (d := 5) (v := .int .i64 q42.2) rfl rfl rfl rfl ?_
                      refine AW.ret ?_
                      obtain rfl := Option.some.inj hr
                      exact RetQ.w good (.inr rfl) rfl rfl ⟨⟨Wv.refl _, Wv.refl _, Wv.refl _, Wv.refl _, ⟨.inr rfl, trivial, .inr rfl⟩, trivial⟩, Wv.refl _, trivial⟩ (by simp [pureA, pureL, pureR, inA, inL, inR, inO, idsIn, encs_pure, enxs_pure, enys_pure, valC_pure, exC_pure, tyC_pure])
                    · replace hr := cnd_f h44 hr
                      refine AW.skip ?_
                      refine AW.region (M := fun _ => true) ?_
                      refine AL.v good (d := 106) (v := .sl (.own 4) 5 (encs v1_1)) rfl rfl rfl rfl ?_
                      refine AL.v good (d := 107) (v := .agg [.int .i64 q42.1.kind, .int .i64 q42.1.i, .bool q42.1.b, .str q42.1.s, .sl .ro 5 (encs q42.1.t)]) rfl rfl rfl rfl ?_
                      refine AL.lit good (d := 108) (rows := [[.int .i64 q42.1.kind, .int .i64 q42.1.i, .bool q42.1.b, .str q42.1.s, .sl .ro 5 (encs q42.1.t)]]) rfl rfl rfl rfl rfl rfl rfl rfl rfl 6 rfl ?_
                      obtain ⟨h45, hr⟩ := grd hr
                      refine AL.aw2 good (d := 109) (rows := encs v1_1) (news := [(valC q42.1)]) (rows2 := encs (v1_1 ++ [q42.1])) rfl rfl rfl rfl rfl rfl rfl rfl rfl (by simp) rfl rfl rfl ⟨⟨Wv.refl _, Wv.refl _, Wv.refl _, Wv.refl _, Wv.refl _, trivial⟩, trivial⟩ (by simp [encs_map]) (by rw [encs_length, List.length_append]; exact h45) rfl ?_
                      refine AL.v good (d := 8) (v := .sl (.own 4) 5 (encs (v1_1 ++ [q42.1]))) rfl rfl rfl rfl ?_
                      refine AW.region (M := fun _ => true) ?_
                      refine AL.v good (d := 90) (v := .int .i64 (v1_2 : Int)) rfl rfl rfl rfl ?_
                      refine AL.v good (d := 91) (v := .int .i64 (IntKind.i64.wrap ((v1_2 : Int) + 1))) rfl rfl rfl rfl ?_
                      refine AL.v good (d := 9) (v := .int .i64 (IntKind.i64.wrap ((v1_2 : Int) + 1))) rfl rfl rfl rfl ?_
                      exact ⟨(m, (v1_1 ++ [q42.1]), (v1_2 + 1)), _, _, rfl, ⟨(fun _ h => by cases h), List.forall_mem_cons.2 ⟨⟨⟨_, rfl, Wv.refl _⟩, (by simp [pureA, pureL, pureR, inA, inL, inR, inO, idsIn, encs_pure, enxs_pure, enys_pure, valC_pure, exC_pure, tyC_pure])⟩, List.forall_mem_cons.2 ⟨⟨⟨_, rfl, Wv.refl _⟩, (by simp [pureA, pureL, pureR, inA, inL, inR, inO, idsIn, encs_pure, enxs_pure, enys_pure, valC_pure, exC_pure, tyC_pure])⟩, List.forall_mem_cons.2 ⟨⟨⟨_, rfl, Wv.refl _⟩, (by simp [pureA, pureL, pureR, inA, inL, inR, inO, idsIn, encs_pure, enxs_pure, enys_pure, valC_pure, exC_pure, tyC_pure])⟩, List.forall_mem_cons.2 ⟨⟨⟨_, rfl, Wv.refl _⟩, (by simp [pureA, pureL, pureR, inA, inL, inR, inO, idsIn, encs_pure, enxs_pure, enys_pure, valC_pure, exC_pure, tyC_pure])⟩, List.forall_mem_cons.2 ⟨⟨⟨_, rfl, (wnx h39 hl38)⟩, (by simp [pureA, pureL, pureR, inA, inL, inR, inO, idsIn, encs_pure, enxs_pure, enys_pure, valC_pure, exC_pure, tyC_pure])⟩, (fun _ h => by cases h)⟩⟩⟩⟩⟩, List.forall_mem_cons.2 ⟨⟨⟨_, rfl, ⟨rfl, ⟨Wv.refl _, Wv.refl _, Wv.refl _, Wv.refl _, Wv.refl _, Wv.refl _, Wv.refl _, Wv.refl _, trivial⟩⟩⟩, (by simp [pureA, pureL, pureR, inA, inL, inR, inO, idsIn, encs_pure, enxs_pure, enys_pure, valC_pure, exC_pure, tyC_pure])⟩, List.forall_mem_cons.2 ⟨⟨⟨_, rfl, ⟨rfl, ⟨Wv.refl _, Wv.refl _, Wv.refl _, Wv.refl _, Wv.refl _, trivial⟩⟩⟩, (by simp [pureA, pureL, pureR, inA, inL, inR, inO, idsIn, encs_pure, enxs_pure, enys_pure, valC_pure, exC_pure, tyC_pure])⟩, List.forall_mem_cons.2 ⟨⟨⟨_, rfl, ⟨rfl, ⟨Wv.refl _, Wv.refl _, Wv.refl _, Wv.refl _, Wv.refl _, trivial⟩⟩⟩, (by simp [pureA, pureL, pureR, inA, inL, inR, inO, idsIn, encs_pure, enxs_pure, enys_pure, valC_pure, exC_pure, tyC_pure])⟩, List.forall_mem_cons.2 ⟨⟨⟨_, rfl, ⟨rfl, rfl, rfl⟩⟩, (by simp [pureA, pureL, pureR, inA, inL, inR, inO, idsIn, encs_pure, enxs_pure, enys_pure, valC_pure, exC_pure, tyC_pure])⟩, (fun _ h => by cases h)⟩⟩⟩⟩⟩, ⟨hr, Nat.le_of_succ_le hm⟩, Nat.lt_succ_self _⟩
                  · replace hr := cnd_f h39 hr
                    refine AW.exit ?_
                    refine AW.seq ?_
                    refine AW.region (M := fun _ => true) ?_
                    refine AL.v good (d := 110) (v := .ptr 0 0) rfl rfl rfl rfl ?_
                    refine AL.v good (d := 111) (v := .str a0.op) rfl rfl rfl rfl ?_
                    refine AL.v good (d := 112) (v := .ptr 0 6) rfl rfl rfl rfl ?_
                    refine AL.v good (d := 113) (v := .int .i64 a0.n) rfl rfl rfl rfl ?_
                    refine AL.v good (d := 114) (v := .sl (.own 4) 5 (encs v1_1)) rfl rfl rfl rfl ?_
                    obtain ⟨q46, h47, hr⟩ := bnd1 hr
                    refine AL.cw good (d := 115) (xs := [.str a0.op, .int .i64 a0.n, .sl .ro 5 (encs v1_1)]) (res := .tup [.agg [.int .i64 q46.1.kind, .int .i64 q46.1.i, .bool q46.1.b, .str q46.1.s, .sl .ro 5 (encs q46.1.t)], .int .i64 q46.2]) rfl rfl rfl rfl rfl rfl rfl (w_f63 _ _ _ _ _ h47) ⟨(Wv.refl _), (Wv.refl _), ⟨.inr rfl, WvR.refl _, .inl rfl⟩, trivial⟩ (by simp [pureA, pureL, pureR, inA, inL, inR, inO, idsIn, encs_pure, enxs_pure, enys_pure, valC_pure, exC_pure, tyC_pure]) ?_
                    refine AL.v good (d := 116) (v := .agg [.int .i64 q46.1.kind, .int .i64 q46.1.i, .bool q46.1.b, .str q46.1.s, .sl .ro 5 (encs q46.1.t)]) rfl rfl rfl rfl ?_
                    refine AL.v good (d := 117) (v := .int .i64 q46.2) rfl rfl rfl rfl ?_
                    refine AL.st2 good (c2 := [.int .i64 q46.1.kind, .int .i64 q46.1.i, .bool q46.1.b, .str q46.1.s, .sl .ro 5 (encs q46.1.t)]) rfl rfl rfl rfl rfl rfl rfl rfl rfl rfl rfl rfl ?_
                    refine AL.v good (d := 5) (v := .int .i64 q46.2) rfl rfl rfl rfl ?_
                    refine AW.ret ?_
                    obtain rfl := Option.some.inj hr
                    exact RetQ.w good (.inr rfl) rfl rfl (Wv.refl _) (by simp [pureA, pureL, pureR, inA, inL, inR, inO, idsIn, encs_pure, enxs_pure, enys_pure, valC_pure, exC_pure, tyC_pure])
theorem w_f24 (n : Nat) : ∀ (a0 : Ex) (a1 : Val) (r : Val × Int) (hr : s_f24 n a0 a1 = some r), ACall Try.prog 24 [.agg (exC a0), .agg (valC a1)] (.tup [.agg (valC r.1), .int .i64 r.2]) := by
  induction n using Nat.strongRecOn with
  | _ n ih =>
    intro a0 a1 r hr
    exact w_f24_a n (fun m a0 a1 r h hm => ih m hm a0 a1 r h) a0 a1 r hr

end Go.Proofs.Ytbcjcekoonebiaa.Tl

set_option linter.unusedVariables false
set_option linter.unusedSimpArgs false
namespace Go.Proofs.Ytbcjcekoonebiaa.Tl
open Go Go.RowKit
theorem w_f86 (a0 : ByteArray) (a1 : Int) : ACall Try.prog 86 [.str a0, .int .i64 a1] (.agg [.str a0, .int .i64 0, .int .i64 0, .bool false, .str ⟨#[]⟩, .sl .ro 5 (encs []), .int .i64 a1]) := by
  refine ACall.go [(0, .str a0), (1, .int .i64 a1)] Try.func86 rfl Try.ntmps86 rfl rfl (by simp [pureA, pureL, pureR, inA, inL, inR, inO, idsIn, encs_pure, enxs_pure, enys_pure, valC_pure, exC_pure, tyC_pure, r_int_u8_pure, r_st_GInst_pure, r_sl_st_GInst_pure, r_st_GMiss_pure]) ?_
  refine AW.seq ?_
  refine AW.region (M := fun _ => true) ?_
  refine AL.alc good (d := 4) rfl rfl rfl rfl rfl 0 rfl ?_
  refine AW.seq ?_
  refine AW.region (M := fun _ => true) ?_
  refine AL.v good (d := 5) (v := .str a0) rfl rfl rfl rfl ?_
  refine AL.v good (d := 6) (v := .int .i64 a1) rfl rfl rfl rfl ?_
  refine AL.bld good (d := 7) (l := [.str a0, .int .i64 0, .int .i64 0, .bool false, .str ⟨#[]⟩, .sl .nil 0 [], .int .i64 a1]) rfl rfl rfl rfl rfl rfl rfl ?_
  refine AL.st2 good (c2 := [.str a0, .int .i64 0, .int .i64 0, .bool false, .str ⟨#[]⟩, .sl .nil 0 [], .int .i64 a1]) rfl rfl rfl rfl rfl rfl rfl rfl rfl rfl rfl rfl ?_
  refine AW.ret ?_
  exact RetQ.w good (.inr rfl) rfl rfl ⟨Wv.refl _, Wv.refl _, Wv.refl _, Wv.refl _, Wv.refl _, ⟨.inr rfl, trivial, .inr rfl⟩, Wv.refl _, trivial⟩ (by simp [pureA, pureL, pureR, inA, inL, inR, inO, idsIn, encs_pure, enxs_pure, enys_pure, valC_pure, exC_pure, tyC_pure, r_int_u8_pure, r_st_GInst_pure, r_sl_st_GInst_pure, r_st_GMiss_pure])


theorem w_f88 (a0 : Bool) : ACall Try.prog 88 [.bool a0] (.agg [.str ⟨#[112, 117, 115, 104]⟩, .int .i64 2, .int .i64 0, .bool a0, .str ⟨#[]⟩, .sl .ro 5 (encs []), .int .i64 0]) := by
  refine ACall.go [(0, .bool a0)] Try.func88 rfl Try.ntmps88 rfl rfl (by simp [pureA, pureL, pureR, inA, inL, inR, inO, idsIn, encs_pure, enxs_pure, enys_pure, valC_pure, exC_pure, tyC_pure, r_int_u8_pure, r_st_GInst_pure, r_sl_st_GInst_pure, r_st_GMiss_pure]) ?_
  refine AW.seq ?_
  refine AW.region (M := fun _ => true) ?_
  refine AL.alc good (d := 2) rfl rfl rfl rfl rfl 0 rfl ?_
  refine AW.seq ?_
  refine AW.region (M := fun _ => true) ?_
  refine AL.v good (d := 3) (v := .bool a0) rfl rfl rfl rfl ?_
  refine AL.cw good (d := 4) (xs := [.bool a0]) (res := .agg [.int .i64 2, .int .i64 0, .bool a0, .str ⟨#[]⟩, .sl .ro 5 (encs [])]) rfl rfl rfl rfl rfl rfl rfl (w_f99 a0) ⟨(Wv.refl _), trivial⟩ (by simp [pureA, pureL, pureR, inA, inL, inR, inO, idsIn, encs_pure, enxs_pure, enys_pure, valC_pure, exC_pure, tyC_pure, r_int_u8_pure, r_st_GInst_pure, r_sl_st_GInst_pure, r_st_GMiss_pure]) ?_
  refine AL.bld good (d := 5) (l := [.str ⟨#[112, 117, 115, 104]⟩, .int .i64 2, .int .i64 0, .bool a0, .str ⟨#[]⟩, .sl .ro 5 (encs []), .int .i64 0]) rfl rfl rfl rfl rfl rfl rfl ?_
  refine AL.st2 good (c2 := [.str ⟨#[112, 117, 115, 104]⟩, .int .i64 2, .int .i64 0, .bool a0, .str ⟨#[]⟩, .sl .ro 5 (encs []), .int .i64 0]) rfl rfl rfl rfl rfl rfl rfl rfl rfl rfl rfl rfl ?_
  refine AW.ret ?_
  exact RetQ.w good (.inr rfl) rfl rfl (Wv.refl _) (by simp [pureA, pureL, pureR, inA, inL, inR, inO, idsIn, encs_pure, enxs_pure, enys_pure, valC_pure, exC_pure, tyC_pure, r_int_u8_pure, r_st_GInst_pure, r_sl_st_GInst_pure, r_st_GMiss_pure])

mutual
def s_f85 : Nat → Val → Option Val
  | 0, _ => none
  | n + 1, a0 => (s_f85_l1 n a0 0 [])
def s_f85_l1 : Nat → Val → Nat → (List Val) → Option Val
  | 0, _, _, _ => none
  | n + 1, a0, v1_1, v1_2 => (bif (decide ((v1_1 : Int) < (a0.t.length : Int))) then ((a0.t[v1_1]?).bind fun x10 => ((s_f85 n x10).bind fun q12 => (if v1_2.length + 1 ≤ 1000000 then (s_f85_l1 n a0 (v1_1 + 1) (v1_2 ++ [q12])) else none))) else some (Val.mk a0.kind a0.i a0.b a0.s v1_2))
end

theorem w_f85_a (n : Nat) (ih : ∀ (m : Nat) (a0 : Val) (r : Val), s_f85 m a0 = some r → m < n → ACall Try.prog 85 [.agg (valC a0)] (.agg (valC r))) (a0 : Val) (r : Val) (hr : s_f85 n a0 = some r) : ACall Try.prog 85 [.agg (valC a0)] (.agg (valC r)) := by
  refine ACall.go [(0, .agg (valC a0))] Try.func85 rfl Try.ntmps85 rfl rfl (by simp [pureA, pureL, pureR, inA, inL, inR, inO, idsIn, encs_pure, enxs_pure, enys_pure, valC_pure, exC_pure, tyC_pure, r_int_u8_pure, r_st_GInst_pure, r_sl_st_GInst_pure, r_st_GMiss_pure]) ?_
  cases n with
  | zero => rw [s_f85] at hr; cases hr
  | succ n =>
    rw [s_f85] at hr
    refine AW.seq ?_
    refine AW.region (M := fun _ => true) ?_
    refine AL.bx good (d := 1) (l := [.int .i64 a0.kind, .int .i64 a0.i, .bool a0.b, .str a0.s, .sl .ro 5 (encs a0.t)]) rfl rfl rfl rfl rfl rfl 0 rfl ?_
    refine AL.alc good (d := 2) rfl rfl rfl rfl rfl 1 rfl ?_
    refine AW.seq ?_
    refine AW.region (M := fun _ => true) ?_
    refine AL.v good (d := 5) (v := .ptr 0 0) rfl rfl rfl rfl ?_
    refine AL.v good (d := 6) (v := .int .i64 a0.kind) rfl rfl rfl rfl ?_
    refine AL.v good (d := 7) (v := .ptr 0 1) rfl rfl rfl rfl ?_
    refine AL.v good (d := 8) (v := .int .i64 a0.i) rfl rfl rfl rfl ?_
    refine AL.v good (d := 9) (v := .ptr 0 2) rfl rfl rfl rfl ?_
    refine AL.v good (d := 10) (v := .bool a0.b) rfl rfl rfl rfl ?_
    refine AL.v good (d := 11) (v := .ptr 0 3) rfl rfl rfl rfl ?_
    refine AL.v good (d := 12) (v := .str a0.s) rfl rfl rfl rfl ?_
    refine AL.bld good (d := 13) (l := [.int .i64 a0.kind, .int .i64 a0.i, .bool a0.b, .str a0.s, .sl .nil 0 []]) rfl rfl rfl rfl rfl rfl rfl ?_
    refine AL.alc good (d := 3) rfl rfl rfl rfl rfl 2 rfl ?_
    refine AL.st2 good (c2 := [.int .i64 a0.kind, .int .i64 a0.i, .bool a0.b, .str a0.s, .sl .nil 0 []]) rfl rfl rfl rfl rfl rfl rfl rfl rfl rfl rfl rfl ?_
    refine AW.seq ?_
    refine AW.seq ?_
    refine AW.region (M := fun _ => true) ?_
    refine AL.v good (d := 4) (v := .int .i64 0) rfl rfl rfl rfl ?_
    refine AW.block ?_
    refine AW.adoptB 2 rfl 4 rfl 3 5 24 rfl rfl ?_
    refine AW.lensB 0 rfl (fun hl8 => ?_)
    replace hl8 : a0.t.length ≤ 9223372036854775807 := by rw [← encs_length a0.t]; exact hl8.2.2.2.2.1
    refine AW.lpw (fun x : Nat × Nat × (List Val) => [(1, .ptr 0 0), (2, .ptr 1 0), (3, .ptr 2 0), (4, .int .i64 (x.2.1 : Int))]) (fun x => [(0, .box 33 [.int .i64 a0.kind, .int .i64 a0.i, .bool a0.b, .str a0.s, .sl .ro 5 (encs a0.t)]), (1, .box 24 [.int .i64 0, .int .i64 0, .bool false, .str ⟨#[]⟩, .sl .nil 0 []]), (2, .box 24 [.int .i64 a0.kind, .int .i64 a0.i, .bool a0.b, .str a0.s, .sl (.own 3) 5 (encs x.2.2)]), (3, .row 24 5 (encs x.2.2).length)]) (fun x => s_f85_l1 x.1 a0 x.2.1 x.2.2 = some r ∧ x.1 ≤ n) (fun x => x.1) (n, 0, []) ⟨(fun _ h => by cases h), List.forall_mem_cons.2 ⟨⟨⟨_, rfl, Wv.refl _⟩, (by simp [pureA, pureL, pureR, inA, inL, inR, inO, idsIn, encs_pure, enxs_pure, enys_pure, valC_pure, exC_pure, tyC_pure, r_int_u8_pure, r_st_GInst_pure, r_sl_st_GInst_pure, r_st_GMiss_pure])⟩, List.forall_mem_cons.2 ⟨⟨⟨_, rfl, Wv.refl _⟩, (by simp [pureA, pureL, pureR, inA, inL, inR, inO, idsIn, encs_pure, enxs_pure, enys_pure, valC_pure, exC_pure, tyC_pure, r_int_u8_pure, r_st_GInst_pure, r_sl_st_GInst_pure, r_st_GMiss_pure])⟩, List.forall_mem_cons.2 ⟨⟨⟨_, rfl, Wv.refl _⟩, (by simp [pureA, pureL, pureR, inA, inL, inR, inO, idsIn, encs_pure, enxs_pure, enys_pure, valC_pure, exC_pure, tyC_pure, r_int_u8_pure, r_st_GInst_pure, r_sl_st_GInst_pure, r_st_GMiss_pure])⟩, List.forall_mem_cons.2 ⟨⟨⟨_, rfl, Wv.refl _⟩, (by simp [pureA, pureL, pureR, inA, inL, inR, inO, idsIn, encs_pure, enxs_pure, enys_pure, valC_pure, exC_pure, tyC_pure, r_int_u8_pure, r_st_GInst_pure, r_sl_st_GInst_pure, r_st_GMiss_pure])⟩, (fun _ h => by cases h)⟩⟩⟩⟩, List.forall_mem_cons.2 ⟨⟨⟨_, rfl, ⟨rfl, ⟨Wv.refl _, Wv.refl _, Wv.refl _, Wv.refl _, Wv.refl _, trivial⟩⟩⟩, (by simp [pureA, pureL, pureR, inA, inL, inR, inO, idsIn, encs_pure, enxs_pure, enys_pure, valC_pure, exC_pure, tyC_pure, r_int_u8_pure, r_st_GInst_pure, r_sl_st_GInst_pure, r_st_GMiss_pure])⟩, List.forall_mem_cons.2 ⟨⟨⟨_, rfl, ⟨rfl, ⟨Wv.refl _, Wv.refl _, Wv.refl _, Wv.refl _, Wv.refl _, trivial⟩⟩⟩, (by simp [pureA, pureL, pureR, inA, inL, inR, inO, idsIn, encs_pure, enxs_pure, enys_pure, valC_pure, exC_pure, tyC_pure, r_int_u8_pure, r_st_GInst_pure, r_sl_st_GInst_pure, r_st_GMiss_pure])⟩, List.forall_mem_cons.2 ⟨⟨⟨_, rfl, ⟨rfl, ⟨Wv.refl _, Wv.refl _, Wv.refl _, Wv.refl _, Wv.refl _, trivial⟩⟩⟩, (by simp [pureA, pureL, pureR, inA, inL, inR, inO, idsIn, encs_pure, enxs_pure, enys_pure, valC_pure, exC_pure, tyC_pure, r_int_u8_pure, r_st_GInst_pure, r_sl_st_GInst_pure, r_st_GMiss_pure])⟩, List.forall_mem_cons.2 ⟨⟨⟨_, rfl, ⟨rfl, rfl, rfl⟩⟩, (by simp [pureA, pureL, pureR, inA, inL, inR, inO, idsIn, encs_pure, enxs_pure, enys_pure, valC_pure, exC_pure, tyC_pure, r_int_u8_pure, r_st_GInst_pure, r_sl_st_GInst_pure, r_st_GMiss_pure])⟩, (fun _ h => by cases h)⟩⟩⟩⟩⟩ ⟨hr, Nat.le_refl _⟩ (fun ⟨m, v1_1, v1_2⟩ hx => ?_)
    obtain ⟨hr, hm⟩ := hx
    try dsimp only at hr hm
    cases m with
    | zero => rw [s_f85_l1] at hr; cases hr
    | succ m =>
      rw [s_f85_l1] at hr
      show AW Try.prog _ _ _ (mkS 33 [(1, .ptr 0 0), (2, .ptr 1 0), (3, .ptr 2 0), (4, .int .i64 (v1_1 : Int))] [(0, .box 33 [.int .i64 a0.kind, .int .i64 a0.i, .bool a0.b, .str a0.s, .sl .ro 5 (encs a0.t)]), (1, .box 24 [.int .i64 0, .int .i64 0, .bool false, .str ⟨#[]⟩, .sl .nil 0 []]), (2, .box 24 [.int .i64 a0.kind, .int .i64 a0.i, .bool a0.b, .str a0.s, .sl (.own 3) 5 (encs v1_2)]), (3, .row 24 5 (encs v1_2).length)])
      refine AW.seq ?_
      refine AW.seq ?_
      refine AW.region (M := fun _ => true) ?_
      refine AL.v good (d := 14) (v := .int .i64 (v1_1 : Int)) rfl rfl rfl rfl ?_
      refine AL.v good (d := 15) (v := .ptr 0 4) rfl rfl rfl rfl ?_
      refine AL.v good (d := 16) (v := .sl .ro 5 (encs a0.t)) rfl rfl rfl rfl ?_
      refine AL.ln good (d := 17) (m := a0.t.length) rfl rfl rfl rfl rfl rfl (encs_length _) ?_
      refine AL.v good (d := 18) (v := .bool (decide ((v1_1 : Int) < (a0.t.length : Int)))) rfl rfl rfl rfl ?_
      refine AW.if rfl (fun h9 => ?_) (fun h9 => ?_)
      · replace hr := cnd_t h9 hr
        refine AW.skip ?_
        refine AW.seq ?_
        refine AW.block ?_
        refine AW.drawc (M := fun i => ⟨Nat.beq i 9 || Nat.beq i 11, bif Nat.beq i 1 then some { ids := [2] } else bif Nat.beq i 3 then some { ids := [0] } else bif Nat.beq i 6 then some { ids := [] } else bif Nat.beq i 8 then some { ids := [4] } else bif Nat.beq i 9 then some { ids := [3] } else bif Nat.beq i 11 then some { ids := [2] } else none⟩) good.wide (by kernel_rfl) ?_
        refine AL.v (nc := ⟨rfl⟩) good (d := 21) (v := .ptr 2 4) rfl rfl rfl rfl ?_
        refine AL.vc good (d := 22) (v := .sl (.own 3) 5 (encs v1_2)) rfl rfl rfl rfl rfl rfl (List.forall_mem_cons.2 ⟨.head _, (fun _ h => by cases h)⟩) ?_
        refine AL.v (nc := ⟨rfl⟩) good (d := 23) (v := .ptr 0 4) rfl rfl rfl rfl ?_
        refine AL.vc good (d := 24) (v := .sl .ro 5 (encs a0.t)) rfl rfl rfl rfl rfl rfl (List.forall_mem_cons.2 ⟨.head _, (fun _ h => by cases h)⟩) ?_
        refine AL.v (nc := ⟨rfl⟩) good (d := 25) (v := .int .i64 (v1_1 : Int)) rfl rfl rfl rfl ?_
        obtain ⟨x10, h11, hr⟩ := bnd1 hr
        refine AL.ix (nc := ⟨rfl⟩) good (d := 26) (r := [.int .i64 x10.kind, .int .i64 x10.i, .bool x10.b, .str x10.s, .sl .ro 5 (encs x10.t)]) rfl rfl rfl rfl rfl rfl rfl (Int.natCast_nonneg _) (encs_get h11) ?_
        refine AL.vc good (d := 27) (v := .agg [.int .i64 x10.kind, .int .i64 x10.i, .bool x10.b, .str x10.s, .sl .ro 5 (encs x10.t)]) rfl rfl rfl rfl rfl rfl (fun _ h => by cases h) ?_
        obtain ⟨q12, h13, hr⟩ := bnd1 hr
        refine AL.cw (nc := ⟨rfl⟩) good (d := 28) (xs := [.agg (valC x10)]) (res := .agg [.int .i64 q12.kind, .int .i64 q12.i, .bool q12.b, .str q12.s, .sl .ro 5 (encs q12.t)]) rfl rfl rfl rfl rfl rfl rfl (ih _ _ _ h13 (by omega)) ⟨(Wv.refl _), trivial⟩ (by simp [pureA, pureL, pureR, inA, inL, inR, inO, idsIn, encs_pure, enxs_pure, enys_pure, valC_pure, exC_pure, tyC_pure, r_int_u8_pure, r_st_GInst_pure, r_sl_st_GInst_pure, r_st_GMiss_pure]) ?_
        refine AL.litC good (d := 29) (rows := [[.int .i64 q12.kind, .int .i64 q12.i, .bool q12.b, .str q12.s, .sl .ro 5 (encs q12.t)]]) rfl rfl rfl rfl rfl rfl rfl rfl rfl 4 rfl (ColN.mk rfl rfl (fun _ h => by cases h) (List.forall_mem_cons.2 ⟨.head _, (fun _ h => by cases h)⟩) (fun _ h => by cases h)) ?_
        obtain ⟨h14, hr⟩ := grd hr
        refine AL.aw2c good (d := 30) (rows := encs v1_2) (news := [(valC q12)]) (rows2 := encs (v1_2 ++ [q12])) rfl rfl rfl rfl rfl rfl rfl rfl rfl (by simp) rfl rfl rfl rfl ⟨⟨Wv.refl _, Wv.refl _, Wv.refl _, Wv.refl _, Wv.refl _, trivial⟩, trivial⟩ (by simp [encs_map]) (by rw [encs_length, List.length_append]; exact h14) rfl ?_
        refine AL.v (nc := ⟨rfl⟩) good (d := 31) (v := .ptr 2 4) rfl rfl rfl rfl ?_
        refine AL.st2c good (c2 := [.int .i64 a0.kind, .int .i64 a0.i, .bool a0.b, .str a0.s, .sl (.own 3) 5 (encs (v1_2 ++ [q12]))]) rfl rfl rfl rfl rfl rfl rfl rfl rfl rfl rfl rfl rfl ?_
        refine AW.region (M := fun _ => true) ?_
        refine AL.v good (d := 19) (v := .int .i64 (v1_1 : Int)) rfl rfl rfl rfl ?_
        refine AL.v good (d := 20) (v := .int .i64 (IntKind.i64.wrap ((v1_1 : Int) + 1))) rfl rfl rfl rfl ?_
        refine AL.v good (d := 4) (v := .int .i64 (IntKind.i64.wrap ((v1_1 : Int) + 1))) rfl rfl rfl rfl ?_
        exact ⟨(m, (v1_1 + 1), (v1_2 ++ [q12])), _, _, rfl, ⟨(fun _ h => by cases h), List.forall_mem_cons.2 ⟨⟨⟨_, rfl, Wv.refl _⟩, (by simp [pureA, pureL, pureR, inA, inL, inR, inO, idsIn, encs_pure, enxs_pure, enys_pure, valC_pure, exC_pure, tyC_pure, r_int_u8_pure, r_st_GInst_pure, r_sl_st_GInst_pure, r_st_GMiss_pure])⟩, List.forall_mem_cons.2 ⟨⟨⟨_, rfl, Wv.refl _⟩, (by simp [pureA, pureL, pureR, inA, inL, inR, inO, idsIn, encs_pure, enxs_pure, enys_pure, valC_pure, exC_pure, tyC_pure, r_int_u8_pure, r_st_GInst_pure, r_sl_st_GInst_pure, r_st_GMiss_pure])⟩, List.forall_mem_cons.2 ⟨⟨⟨_, rfl, Wv.refl _⟩, (by simp [pureA, pureL, pureR, inA, inL, inR, inO, idsIn, encs_pure, enxs_pure, enys_pure, valC_pure, exC_pure, tyC_pure, r_int_u8_pure, r_st_GInst_pure, r_sl_st_GInst_pure, r_st_GMiss_pure])⟩, List.forall_mem_cons.2 ⟨⟨⟨_, rfl, (wnx h9 hl8)⟩, (by simp [pureA, pureL, pureR, inA, inL, inR, inO, idsIn, encs_pure, enxs_pure, enys_pure, valC_pure, exC_pure, tyC_pure, r_int_u8_pure, r_st_GInst_pure, r_sl_st_GInst_pure, r_st_GMiss_pure])⟩, (fun _ h => by cases h)⟩⟩⟩⟩, List.forall_mem_cons.2 ⟨⟨⟨_, rfl, ⟨rfl, ⟨Wv.refl _, Wv.refl _, Wv.refl _, Wv.refl _, Wv.refl _, trivial⟩⟩⟩, (by simp [pureA, pureL, pureR, inA, inL, inR, inO, idsIn, encs_pure, enxs_pure, enys_pure, valC_pure, exC_pure, tyC_pure, r_int_u8_pure, r_st_GInst_pure, r_sl_st_GInst_pure, r_st_GMiss_pure])⟩, List.forall_mem_cons.2 ⟨⟨⟨_, rfl, ⟨rfl, ⟨Wv.refl _, Wv.refl _, Wv.refl _, Wv.refl _, Wv.refl _, trivial⟩⟩⟩, (by simp [pureA, pureL, pureR, inA, inL, inR, inO, idsIn, encs_pure, enxs_pure, enys_pure, valC_pure, exC_pure, tyC_pure, r_int_u8_pure, r_st_GInst_pure, r_sl_st_GInst_pure, r_st_GMiss_pure])⟩, List.forall_mem_cons.2 ⟨⟨⟨_, rfl, ⟨rfl, ⟨Wv.refl _, Wv.refl _, Wv.refl _, Wv.refl _, Wv.refl _, trivial⟩⟩⟩, (by simp [pureA, pureL, pureR, inA, inL, inR, inO, idsIn, encs_pure, enxs_pure, enys_pure, valC_pure, exC_pure, tyC_pure, r_int_u8_pure, r_st_GInst_pure, r_sl_st_GInst_pure, r_st_GMiss_pure])⟩, List.forall_mem_cons.2 ⟨⟨⟨_, rfl, ⟨rfl, rfl, rfl⟩⟩, (by simp [pureA, pureL, pureR, inA, inL, inR, inO, idsIn, encs_pure, enxs_pure, enys_pure, valC_pure, exC_pure, tyC_pure, r_int_u8_pure, r_st_GInst_pure, r_sl_st_GInst_pure, r_st_GMiss_pure])⟩, (fun _ h => by cases h)⟩⟩⟩⟩⟩, ⟨hr, Nat.le_of_succ_le hm⟩, Nat.lt_succ_self _⟩
      · replace hr := cnd_f h9 hr
        refine AW.exit ?_
        refine AW.seq ?_
        refine AW.region (M := fun _ => true) ?_
        refine AL.v good (d := 32) (v := .agg [.int .i64 a0.kind, .int .i64 a0.i, .bool a0.b, .str a0.s, .sl (.own 3) 5 (encs v1_2)]) rfl rfl rfl rfl ?_
        refine AL.st2 good (c2 := [.int .i64 a0.kind, .int .i64 a0.i, .bool a0.b, .str a0.s, .sl (.own 3) 5 (encs v1_2)]) rfl rfl rfl rfl rfl rfl rfl rfl rfl rfl rfl rfl ?_
        refine AW.ret ?_
        obtain rfl := Option.some.inj hr
        exact RetQ.w good (.inr rfl) rfl rfl ⟨Wv.refl _, Wv.refl _, Wv.refl _, Wv.refl _, ⟨.inr rfl, WvR.refl _, .inl rfl⟩, trivial⟩ (by simp [pureA, pureL, pureR, inA, inL, inR, inO, idsIn, encs_pure, enxs_pure, enys_pure, valC_pure, exC_pure, tyC_pure, r_int_u8_pure, r_st_GInst_pure, r_sl_st_GInst_pure, r_st_GMiss_pure])
theorem w_f85 (n : Nat) : ∀ (a0 : Val) (r : Val) (hr : s_f85 n a0 = some r), ACall Try.prog 85 [.agg (valC a0)] (.agg (valC r)) := by
  induction n using Nat.strongRecOn with
  | _ n ih =>
    intro a0 r hr
    exact w_f85_a n (fun m a0 r h hm => ih m hm a0 r h) a0 r hr

mutual
def s_f51_l1 : Nat → (List GInst) → (List GInst) → Nat → Option (List GInst)
  | 0, _, _, _ => none
  | n + 1, a0, v1_1, v1_2 => (bif (decide ((v1_2 : Int) < (a0.length : Int))) then ((a0[v1_2]?).bind fun x16 => ((a0[v1_2]?).bind fun x18 => ((s_f85 n x18.f1).bind fun q20 => ((a0[v1_2]?).bind fun x22 => (if v1_1.length + 1 ≤ 1000000 then (s_f51_l1 n a0 (v1_1 ++ [(GInst.mk x16.f0 q20 x22.f2)]) (v1_2 + 1)) else none))))) else some v1_1)
end
def s_f51 (n : Nat) (a0 : List GInst) : Option (List GInst) :=
  (s_f51_l1 n a0 [] 0)

theorem w_f51 (n : Nat) (a0 : List GInst) (r : List GInst) (hr : s_f51 n a0 = some r) (id : Nat) : ACallN Try.prog 51 [.sl .ro 7 (r_st_GInst a0)] id (.row 109 7 (r_st_GInst r).length) (.sl (.own id) 7 (r_st_GInst r)) := by
  refine ACallN.go (rows := r_st_GInst r) [(0, .sl .ro 7 (r_st_GInst a0))] Try.func51 rfl Try.ntmps51 rfl rfl (by simp [pureA, pureL, pureR, inA, inL, inR, inO, idsIn, encs_pure, enxs_pure, enys_pure, valC_pure, exC_pure, tyC_pure, r_int_u8_pure, r_st_GInst_pure, r_sl_st_GInst_pure, r_st_GMiss_pure]) (by simp [pureA, pureL, pureR, inA, inL, inR, inO, idsIn, encs_pure, enxs_pure, enys_pure, valC_pure, exC_pure, tyC_pure, r_int_u8_pure, r_st_GInst_pure, r_sl_st_GInst_pure, r_st_GMiss_pure]) ?_ id
  rw [s_f51] at hr
  refine AW.seq ?_
  refine AW.region (M := fun _ => true) ?_
  refine AL.v good (d := 2) (v := .sl .nil 0 []) rfl rfl rfl rfl ?_
  refine AW.seq ?_
  refine AW.region (M := fun _ => true) ?_
  refine AL.v good (d := 3) (v := .sl .nil 0 []) rfl rfl rfl rfl ?_
  refine AW.seq ?_
  refine AW.seq ?_
  refine AW.region (M := fun _ => true) ?_
  refine AL.v good (d := 4) (v := .int .i64 0) rfl rfl rfl rfl ?_
  refine AW.block ?_
  refine AW.adopt 3 rfl 0 7 109 rfl rfl ?_
  refine AW.lens 0 rfl (fun hl14 => ?_)
  replace hl14 : a0.length ≤ 9223372036854775807 := by rw [← r_st_GInst_length a0]; exact hl14
  refine AW.lpw (fun x : Nat × (List GInst) × Nat => [(0, .sl .ro 7 (r_st_GInst a0)), (3, .sl (.own 0) 7 (r_st_GInst x.2.1)), (4, .int .i64 (x.2.2 : Int))]) (fun x => [(0, .row 109 7 (r_st_GInst x.2.1).length)]) (fun x => s_f51_l1 x.1 a0 x.2.1 x.2.2 = some r ∧ x.1 ≤ n) (fun x => x.1) (n, [], 0) ⟨(fun _ h => by cases h), List.forall_mem_cons.2 ⟨⟨⟨_, rfl, Wv.refl _⟩, (by simp [pureA, pureL, pureR, inA, inL, inR, inO, idsIn, encs_pure, enxs_pure, enys_pure, valC_pure, exC_pure, tyC_pure, r_int_u8_pure, r_st_GInst_pure, r_sl_st_GInst_pure, r_st_GMiss_pure])⟩, List.forall_mem_cons.2 ⟨⟨⟨_, rfl, Wv.refl _⟩, (by simp [pureA, pureL, pureR, inA, inL, inR, inO, idsIn, encs_pure, enxs_pure, enys_pure, valC_pure, exC_pure, tyC_pure, r_int_u8_pure, r_st_GInst_pure, r_sl_st_GInst_pure, r_st_GMiss_pure])⟩, List.forall_mem_cons.2 ⟨⟨⟨_, rfl, Wv.refl _⟩, (by simp [pureA, pureL, pureR, inA, inL, inR, inO, idsIn, encs_pure, enxs_pure, enys_pure, valC_pure, exC_pure, tyC_pure, r_int_u8_pure, r_st_GInst_pure, r_sl_st_GInst_pure, r_st_GMiss_pure])⟩, (fun _ h => by cases h)⟩⟩⟩, List.forall_mem_cons.2 ⟨⟨⟨_, rfl, ⟨rfl, rfl, rfl⟩⟩, (by simp [pureA, pureL, pureR, inA, inL, inR, inO, idsIn, encs_pure, enxs_pure, enys_pure, valC_pure, exC_pure, tyC_pure, r_int_u8_pure, r_st_GInst_pure, r_sl_st_GInst_pure, r_st_GMiss_pure])⟩, (fun _ h => by cases h)⟩⟩ ⟨hr, Nat.le_refl _⟩ (fun ⟨m, v1_1, v1_2⟩ hx => ?_)
  obtain ⟨hr, hm⟩ := hx
  try dsimp only at hr hm
  cases m with
  | zero => rw [s_f51_l1] at hr; cases hr
  | succ m =>
    rw [s_f51_l1] at hr
    show AW Try.prog _ _ _ (mkS 32 [(0, .sl .ro 7 (r_st_GInst a0)), (3, .sl (.own 0) 7 (r_st_GInst v1_1)), (4, .int .i64 (v1_2 : Int))] [(0, .row 109 7 (r_st_GInst v1_1).length)])
    refine AW.seq ?_
    refine AW.seq ?_
    refine AW.region (M := fun _ => true) ?_
    refine AL.v good (d := 5) (v := .int .i64 (v1_2 : Int)) rfl rfl rfl rfl ?_
    refine AL.v good (d := 6) (v := .sl .ro 7 (r_st_GInst a0)) rfl rfl rfl rfl ?_
    refine AL.ln good (d := 7) (m := a0.length) rfl rfl rfl rfl rfl rfl (r_st_GInst_length _) ?_
    refine AL.v good (d := 8) (v := .bool (decide ((v1_2 : Int) < (a0.length : Int)))) rfl rfl rfl rfl ?_
    refine AW.if rfl (fun h15 => ?_) (fun h15 => ?_)
    · replace hr := cnd_t h15 hr
      refine AW.skip ?_
      refine AW.seq ?_
      refine AW.block ?_
      refine AW.drawc (M := fun i => ⟨Nat.beq i 19, bif Nat.beq i 5 then some { ids := [] } else bif Nat.beq i 10 then some { ids := [] } else bif Nat.beq i 16 then some { ids := [] } else bif Nat.beq i 18 then some { ids := [1] } else bif Nat.beq i 19 then some { ids := [0] } else none⟩) good.wide (by kernel_rfl) ?_
      refine AL.v (nc := ⟨rfl⟩) good (d := 11) (v := .sl (.own 0) 7 (r_st_GInst v1_1)) rfl rfl rfl rfl ?_
      refine AL.v (nc := ⟨rfl⟩) good (d := 12) (v := .sl .ro 7 (r_st_GInst a0)) rfl rfl rfl rfl ?_
      refine AL.v (nc := ⟨rfl⟩) good (d := 13) (v := .int .i64 (v1_2 : Int)) rfl rfl rfl rfl ?_
      obtain ⟨x16, h17, hr⟩ := bnd1 hr
      refine AL.ix (nc := ⟨rfl⟩) good (d := 14) (r := [.str x16.f0, .int .i64 x16.f1.kind, .int .i64 x16.f1.i, .bool x16.f1.b, .str x16.f1.s, .sl .ro 5 (encs x16.f1.t), .int .i64 x16.f2]) rfl rfl rfl rfl rfl rfl rfl (Int.natCast_nonneg _) (r_st_GInst_get h17) ?_
      refine AL.v (nc := ⟨rfl⟩) good (d := 15) (v := .ep [.str x16.f0, .int .i64 x16.f1.kind, .int .i64 x16.f1.i, .bool x16.f1.b, .str x16.f1.s, .sl .ro 5 (encs x16.f1.t), .int .i64 x16.f2]) rfl rfl rfl rfl ?_
      refine AL.vc good (d := 16) (v := .str x16.f0) rfl rfl rfl rfl rfl rfl (fun _ h => by cases h) ?_
      refine AL.v (nc := ⟨rfl⟩) good (d := 17) (v := .sl .ro 7 (r_st_GInst a0)) rfl rfl rfl rfl ?_
      refine AL.v (nc := ⟨rfl⟩) good (d := 18) (v := .int .i64 (v1_2 : Int)) rfl rfl rfl rfl ?_
      obtain ⟨x18, h19, hr⟩ := bnd1 hr
      refine AL.ix (nc := ⟨rfl⟩) good (d := 19) (r := [.str x18.f0, .int .i64 x18.f1.kind, .int .i64 x18.f1.i, .bool x18.f1.b, .str x18.f1.s, .sl .ro 5 (encs x18.f1.t), .int .i64 x18.f2]) rfl rfl rfl rfl rfl rfl rfl (Int.natCast_nonneg _) (r_st_GInst_get h19) ?_
      refine AL.v (nc := ⟨rfl⟩) good (d := 20) (v := .ep [.int .i64 x18.f1.kind, .int .i64 x18.f1.i, .bool x18.f1.b, .str x18.f1.s, .sl .ro 5 (encs x18.f1.t), .int .i64 x18.f2]) rfl rfl rfl rfl ?_
      refine AL.vc good (d := 21) (v := .agg [.int .i64 x18.f1.kind, .int .i64 x18.f1.i, .bool x18.f1.b, .str x18.f1.s, .sl .ro 5 (encs x18.f1.t)]) rfl rfl rfl rfl rfl rfl (fun _ h => by cases h) ?_
      obtain ⟨q20, h21, hr⟩ := bnd1 hr
      refine AL.cw (nc := ⟨rfl⟩) good (d := 22) (xs := [.agg (valC x18.f1)]) (res := .agg [.int .i64 q20.kind, .int .i64 q20.i, .bool q20.b, .str q20.s, .sl .ro 5 (encs q20.t)]) rfl rfl rfl rfl rfl rfl rfl (w_f85 _ _ _ h21) ⟨(Wv.refl _), trivial⟩ (by simp [pureA, pureL, pureR, inA, inL, inR, inO, idsIn, encs_pure, enxs_pure, enys_pure, valC_pure, exC_pure, tyC_pure, r_int_u8_pure, r_st_GInst_pure, r_sl_st_GInst_pure, r_st_GMiss_pure]) ?_
      refine AL.v (nc := ⟨rfl⟩) good (d := 23) (v := .sl .ro 7 (r_st_GInst a0)) rfl rfl rfl rfl ?_
      refine AL.v (nc := ⟨rfl⟩) good (d := 24) (v := .int .i64 (v1_2 : Int)) rfl rfl rfl rfl ?_
      obtain ⟨x22, h23, hr⟩ := bnd1 hr
      refine AL.ix (nc := ⟨rfl⟩) good (d := 25) (r := [.str x22.f0, .int .i64 x22.f1.kind, .int .i64 x22.f1.i, .bool x22.f1.b, .str x22.f1.s, .sl .ro 5 (encs x22.f1.t), .int .i64 x22.f2]) rfl rfl rfl rfl rfl rfl rfl (Int.natCast_nonneg _) (r_st_GInst_get h23) ?_
      refine AL.v (nc := ⟨rfl⟩) good (d := 26) (v := .ep [.int .i64 x22.f2]) rfl rfl rfl rfl ?_
      refine AL.vc good (d := 27) (v := .int .i64 x22.f2) rfl rfl rfl rfl rfl rfl (fun _ h => by cases h) ?_
      refine AL.bld (nc := ⟨rfl⟩) good (d := 28) (l := [.str x16.f0, .int .i64 q20.kind, .int .i64 q20.i, .bool q20.b, .str q20.s, .sl .ro 5 (encs q20.t), .int .i64 x22.f2]) rfl rfl rfl rfl rfl rfl rfl ?_
      refine AL.litC good (d := 29) (rows := [[.str x16.f0, .int .i64 q20.kind, .int .i64 q20.i, .bool q20.b, .str q20.s, .sl .ro 5 (encs q20.t), .int .i64 x22.f2]]) rfl rfl rfl rfl rfl rfl rfl rfl rfl 1 rfl (ColN.mk rfl rfl (fun _ h => by cases h) (List.forall_mem_cons.2 ⟨.head _, (fun _ h => by cases h)⟩) (fun _ h => by cases h)) ?_
      obtain ⟨h24, hr⟩ := grd hr
      refine AL.aw2c good (d := 30) (rows := r_st_GInst v1_1) (news := [[.str (((GInst.mk x16.f0 q20 x22.f2)).f0), .int .i64 ((((GInst.mk x16.f0 q20 x22.f2)).f1).kind), .int .i64 ((((GInst.mk x16.f0 q20 x22.f2)).f1).i), .bool ((((GInst.mk x16.f0 q20 x22.f2)).f1).b), .str ((((GInst.mk x16.f0 q20 x22.f2)).f1).s), .sl .ro 5 (encs ((((GInst.mk x16.f0 q20 x22.f2)).f1).t)), .int .i64 (((GInst.mk x16.f0 q20 x22.f2)).f2)]]) (rows2 := r_st_GInst (v1_1 ++ [(GInst.mk x16.f0 q20 x22.f2)])) rfl rfl rfl rfl rfl rfl rfl rfl rfl (by simp) rfl rfl rfl rfl ⟨⟨Wv.refl _, Wv.refl _, Wv.refl _, Wv.refl _, Wv.refl _, Wv.refl _, Wv.refl _, trivial⟩, trivial⟩ (by simp [r_st_GInst, rowF]) (by rw [r_st_GInst_length, List.length_append]; exact h24) rfl ?_
      refine AL.v (nc := ⟨rfl⟩) good (d := 3) (v := .sl (.own 0) 7 (r_st_GInst (v1_1 ++ [(GInst.mk x16.f0 q20 x22.f2)]))) rfl rfl rfl rfl ?_
      refine AW.region (M := fun _ => true) ?_
      refine AL.v good (d := 9) (v := .int .i64 (v1_2 : Int)) rfl rfl rfl rfl ?_
      refine AL.v good (d := 10) (v := .int .i64 (IntKind.i64.wrap ((v1_2 : Int) + 1))) rfl rfl rfl rfl ?_
      refine AL.v good (d := 4) (v := .int .i64 (IntKind.i64.wrap ((v1_2 : Int) + 1))) rfl rfl rfl rfl ?_
      exact ⟨(m, (v1_1 ++ [(GInst.mk x16.f0 q20 x22.f2)]), (v1_2 + 1)), _, _, rfl, ⟨(fun _ h => by cases h), List.forall_mem_cons.2 ⟨⟨⟨_, rfl, Wv.refl _⟩, (by simp [pureA, pureL, pureR, inA, inL, inR, inO, idsIn, encs_pure, enxs_pure, enys_pure, valC_pure, exC_pure, tyC_pure, r_int_u8_pure, r_st_GInst_pure, r_sl_st_GInst_pure, r_st_GMiss_pure])⟩, List.forall_mem_cons.2 ⟨⟨⟨_, rfl, Wv.refl _⟩, (by simp [pureA, pureL, pureR, inA, inL, inR, inO, idsIn, encs_pure, enxs_pure, enys_pure, valC_pure, exC_pure, tyC_pure, r_int_u8_pure, r_st_GInst_pure, r_sl_st_GInst_pure, r_st_GMiss_pure])⟩, List.forall_mem_cons.2 ⟨⟨⟨_, rfl, (wnx h15 hl14)⟩, (by simp [pureA, pureL, pureR, inA, inL, inR, inO, idsIn, encs_pure, enxs_pure, enys_pure, valC_pure, exC_pure, tyC_pure, r_int_u8_pure, r_st_GInst_pure, r_sl_st_GInst_pure, r_st_GMiss_pure])⟩, (fun _ h => by cases h)⟩⟩⟩, List.forall_mem_cons.2 ⟨⟨⟨_, rfl, ⟨rfl, rfl, rfl⟩⟩, (by simp [pureA, pureL, pureR, inA, inL, inR, inO, idsIn, encs_pure, enxs_pure, enys_pure, valC_pure, exC_pure, tyC_pure, r_int_u8_pure, r_st_GInst_pure, r_sl_st_GInst_pure, r_st_GMiss_pure])⟩, (fun _ h => by cases h)⟩⟩, ⟨hr, Nat.le_of_succ_le hm⟩, Nat.lt_succ_self _⟩
    · replace hr := cnd_f h15 hr
      refine AW.exit ?_
      refine AW.seq ?_
      refine AW.region (M := fun _ => true) ?_
      refine AL.v good (d := 31) (v := .sl (.own 0) 7 (r_st_GInst v1_1)) rfl rfl rfl rfl ?_
      refine AL.v good (d := 2) (v := .sl (.own 0) 7 (r_st_GInst v1_1)) rfl rfl rfl rfl ?_
      refine AW.ret ?_
      obtain rfl := Option.some.inj hr
      exact RetN.w good (.inr rfl) rfl rfl (WvR.refl _) rfl

mutual
def s_f120_l1 : Nat → (List GInst) → Int → (List GInst) → Nat → Option (List GInst)
  | 0, _, _, _, _ => none
  | n + 1, a0, a1, v1_1, v1_2 => (bif (decide ((v1_2 : Int) < (a0.length : Int))) then ((a0[v1_2]?).bind fun x12 => (bif ((x12.f0.data.toList == [106, 109, 112]) || (x12.f0.data.toList == [106, 102])) then (if v1_1.length + 1 ≤ 1000000 then (s_f120_l1 n a0 a1 (v1_1 ++ [(GInst.mk x12.f0 x12.f1 (IntKind.i64.wrap (x12.f2 + a1)))]) (v1_2 + 1)) else none) else (if v1_1.length + 1 ≤ 1000000 then (s_f120_l1 n a0 a1 (v1_1 ++ [x12]) (v1_2 + 1)) else none))) else some v1_1)
end
def s_f120 (n : Nat) (a0 : List GInst) (a1 : Int) : Option (List GInst) :=
  (s_f120_l1 n a0 a1 [] 0)

theorem w_f120 (n : Nat) (a0 : List GInst) (a1 : Int) (r : List GInst) (hr : s_f120 n a0 a1 = some r) (id : Nat) : ACallN Try.prog 120 [.sl .ro 7 (r_st_GInst a0), .int .i64 a1] id (.row 132 7 (r_st_GInst r).length) (.sl (.own id) 7 (r_st_GInst r)) := by
  refine ACallN.go (rows := r_st_GInst r) [(0, .sl .ro 7 (r_st_GInst a0)), (1, .int .i64 a1)] Try.func120 rfl Try.ntmps120 rfl rfl (by simp [pureA, pureL, pureR, inA, inL, inR, inO, idsIn, encs_pure, enxs_pure, enys_pure, valC_pure, exC_pure, tyC_pure, r_int_u8_pure, r_st_GInst_pure, r_sl_st_GInst_pure, r_st_GMiss_pure]) (by simp [pureA, pureL, pureR, inA, inL, inR, inO, idsIn, encs_pure, enxs_pure, enys_pure, valC_pure, exC_pure, tyC_pure, r_int_u8_pure, r_st_GInst_pure, r_sl_st_GInst_pure, r_st_GMiss_pure]) ?_ id
  rw [s_f120] at hr
  refine AW.seq ?_
  refine AW.region (M := fun _ => true) ?_
  refine AL.v good (d := 4) (v := .sl .nil 0 []) rfl rfl rfl rfl ?_
  refine AW.seq ?_
  refine AW.region (M := fun _ => true) ?_
  refine AL.v good (d := 5) (v := .sl .nil 0 []) rfl rfl rfl rfl ?_
  refine AW.seq ?_
  refine AW.seq ?_
  refine AW.region (M := fun _ => true) ?_
  refine AL.v good (d := 6) (v := .int .i64 0) rfl rfl rfl rfl ?_
  refine AW.block ?_
  refine AW.adopt 5 rfl 0 7 132 rfl rfl ?_
  refine AW.lens 0 rfl (fun hl10 => ?_)
  replace hl10 : a0.length ≤ 9223372036854775807 := by rw [← r_st_GInst_length a0]; exact hl10
  refine AW.lpw (fun x : Nat × (List GInst) × Nat => [(0, .sl .ro 7 (r_st_GInst a0)), (1, .int .i64 a1), (5, .sl (.own 0) 7 (r_st_GInst x.2.1)), (6, .int .i64 (x.2.2 : Int))]) (fun x => [(0, .row 132 7 (r_st_GInst x.2.1).length)]) (fun x => s_f120_l1 x.1 a0 a1 x.2.1 x.2.2 = some r ∧ x.1 ≤ n) (fun x => x.1) (n, [], 0) ⟨(fun _ h => by cases h), List.forall_mem_cons.2 ⟨⟨⟨_, rfl, Wv.refl _⟩, (by simp [pureA, pureL, pureR, inA, inL, inR, inO, idsIn, encs_pure, enxs_pure, enys_pure, valC_pure, exC_pure, tyC_pure, r_int_u8_pure, r_st_GInst_pure, r_sl_st_GInst_pure, r_st_GMiss_pure])⟩, List.forall_mem_cons.2 ⟨⟨⟨_, rfl, Wv.refl _⟩, (by simp [pureA, pureL, pureR, inA, inL, inR, inO, idsIn, encs_pure, enxs_pure, enys_pure, valC_pure, exC_pure, tyC_pure, r_int_u8_pure, r_st_GInst_pure, r_sl_st_GInst_pure, r_st_GMiss_pure])⟩, List.forall_mem_cons.2 ⟨⟨⟨_, rfl, Wv.refl _⟩, (by simp [pureA, pureL, pureR, inA, inL, inR, inO, idsIn, encs_pure, enxs_pure, enys_pure, valC_pure, exC_pure, tyC_pure, r_int_u8_pure, r_st_GInst_pure, r_sl_st_GInst_pure, r_st_GMiss_pure])⟩, List.forall_mem_cons.2 ⟨⟨⟨_, rfl, Wv.refl _⟩, (by simp [pureA, pureL, pureR, inA, inL, inR, inO, idsIn, encs_pure, enxs_pure, enys_pure, valC_pure, exC_pure, tyC_pure, r_int_u8_pure, r_st_GInst_pure, r_sl_st_GInst_pure, r_st_GMiss_pure])⟩, (fun _ h => by cases h)⟩⟩⟩⟩, List.forall_mem_cons.2 ⟨⟨⟨_, rfl, ⟨rfl, rfl, rfl⟩⟩, (by simp [pureA, pureL, pureR, inA, inL, inR, inO, idsIn, encs_pure, enxs_pure, enys_pure, valC_pure, exC_pure, tyC_pure, r_int_u8_pure, r_st_GInst_pure, r_sl_st_GInst_pure, r_st_GMiss_pure])⟩, (fun _ h => by cases h)⟩⟩ ⟨hr, Nat.le_refl _⟩ (fun ⟨m, v1_1, v1_2⟩ hx => ?_)
  obtain ⟨hr, hm⟩ := hx
  try dsimp only at hr hm
  cases m with
  | zero => rw [s_f120_l1] at hr; cases hr
  | succ m =>
    rw [s_f120_l1] at hr
    show AW Try.prog _ _ _ (mkS 36 [(0, .sl .ro 7 (r_st_GInst a0)), (1, .int .i64 a1), (5, .sl (.own 0) 7 (r_st_GInst v1_1)), (6, .int .i64 (v1_2 : Int))] [(0, .row 132 7 (r_st_GInst v1_1).length)])
    refine AW.seq ?_
    refine AW.seq ?_
    refine AW.region (M := fun _ => true) ?_
    refine AL.v good (d := 8) (v := .int .i64 (v1_2 : Int)) rfl rfl rfl rfl ?_
    refine AL.v good (d := 9) (v := .sl .ro 7 (r_st_GInst a0)) rfl rfl rfl rfl ?_
    refine AL.ln good (d := 10) (m := a0.length) rfl rfl rfl rfl rfl rfl (r_st_GInst_length _) ?_
    refine AL.v good (d := 11) (v := .bool (decide ((v1_2 : Int) < (a0.length : Int)))) rfl rfl rfl rfl ?_
    refine AW.if rfl (fun h11 => ?_) (fun h11 => ?_)
    · replace hr := cnd_t h11 hr
      refine AW.skip ?_
      refine AW.seq ?_
      refine AW.block ?_
      refine AW.seq ?_
      refine AW.region (M := fun _ => true) ?_
      refine AL.v good (d := 14) (v := .sl .ro 7 (r_st_GInst a0)) rfl rfl rfl rfl ?_
      refine AL.v good (d := 15) (v := .int .i64 (v1_2 : Int)) rfl rfl rfl rfl ?_
      obtain ⟨x12, h13, hr⟩ := bnd1 hr
      refine AL.ix good (d := 16) (r := [.str x12.f0, .int .i64 x12.f1.kind, .int .i64 x12.f1.i, .bool x12.f1.b, .str x12.f1.s, .sl .ro 5 (encs x12.f1.t), .int .i64 x12.f2]) rfl rfl rfl rfl rfl rfl rfl (Int.natCast_nonneg _) (r_st_GInst_get h13) ?_
      refine AL.v good (d := 17) (v := .agg [.str x12.f0, .int .i64 x12.f1.kind, .int .i64 x12.f1.i, .bool x12.f1.b, .str x12.f1.s, .sl .ro 5 (encs x12.f1.t), .int .i64 x12.f2]) rfl rfl rfl rfl ?_
      refine AL.alc good (d := 7) rfl rfl rfl rfl rfl 1 rfl ?_
      refine AL.st2 good (c2 := [.str x12.f0, .int .i64 x12.f1.kind, .int .i64 x12.f1.i, .bool x12.f1.b, .str x12.f1.s, .sl .ro 5 (encs x12.f1.t), .int .i64 x12.f2]) rfl rfl rfl rfl rfl rfl rfl rfl rfl rfl rfl rfl ?_
      refine AW.seq ?_
      refine AW.seq ?_
      refine AW.region (M := fun _ => true) ?_
      refine AL.v good (d := 18) (v := .ptr 1 0) rfl rfl rfl rfl ?_
      refine AL.v good (d := 19) (v := .str x12.f0) rfl rfl rfl rfl ?_
      refine AL.sb good (d := 20) (b := (x12.f0.data.toList == [106, 109, 112])) rfl rfl rfl rfl rfl rfl rfl ?_
      refine AL.vb good (d := 21) (b := (x12.f0.data.toList == [106, 109, 112])) rfl rfl rfl rfl (fun g14 h15 => ?_)
      refine AL.gv good (d := 22) (c := (!g14)) (v := .ptr 1 0) (rd := []) rfl rfl (by cases g14 <;> rfl) (fun h => by cases g14 <;> first | rfl | exact absurd h (by decide)) ?_
      refine AL.gv good (d := 23) (c := (!g14)) (v := .str x12.f0) (rd := [(1, .box 132 [.str x12.f0, .int .i64 x12.f1.kind, .int .i64 x12.f1.i, .bool x12.f1.b, .str x12.f1.s, .sl .ro 5 (encs x12.f1.t), .int .i64 x12.f2])]) rfl rfl (by cases g14 <;> rfl) (fun h => by cases g14 <;> first | rfl | exact absurd h (by decide)) ?_
      refine AL.gsb good (d := 24) (c := (!g14)) (b := (x12.f0.data.toList == [106, 102])) rfl rfl (by cases g14 <;> rfl) rfl (fun h => by cases g14 <;> first | rfl | exact absurd h (by decide)) (fun h => by cases g14 <;> first | rfl | exact absurd h (by decide)) rfl ?_
      refine AL.v good (d := 25) (v := .bool (g14 || (x12.f0.data.toList == [106, 102]))) (rd := []) rfl rfl rfl (by cases g14 <;> rfl) ?_
      subst h15
      refine AW.if rfl (fun h16 => ?_) (fun h16 => ?_)
      · replace hr := cnd_t h16 hr
        refine AW.region (M := fun _ => true) ?_
        refine AL.v good (d := 26) (v := .ptr 1 6) rfl rfl rfl rfl ?_
        refine AL.v good (d := 27) (v := .int .i64 x12.f2) rfl rfl rfl rfl ?_
        refine AL.v good (d := 28) (v := .int .i64 a1) rfl rfl rfl rfl ?_
        refine AL.v good (d := 29) (v := .int .i64 (IntKind.i64.wrap (x12.f2 + a1))) rfl rfl rfl rfl ?_
        refine AL.v good (d := 30) (v := .ptr 1 6) rfl rfl rfl rfl ?_
        refine AL.st2 good (c2 := [.str x12.f0, .int .i64 x12.f1.kind, .int .i64 x12.f1.i, .bool x12.f1.b, .str x12.f1.s, .sl .ro 5 (encs x12.f1.t), .int .i64 (IntKind.i64.wrap (x12.f2 + a1))]) rfl rfl rfl rfl rfl rfl rfl rfl rfl rfl rfl rfl ?_
        refine AW.region (M := fun _ => true) ?_
        refine AL.v good (d := 31) (v := .sl (.own 0) 7 (r_st_GInst v1_1)) rfl rfl rfl rfl ?_
        refine AL.v good (d := 32) (v := .agg [.str x12.f0, .int .i64 x12.f1.kind, .int .i64 x12.f1.i, .bool x12.f1.b, .str x12.f1.s, .sl .ro 5 (encs x12.f1.t), .int .i64 (IntKind.i64.wrap (x12.f2 + a1))]) rfl rfl rfl rfl ?_
        refine AL.lit good (d := 33) (rows := [[.str x12.f0, .int .i64 x12.f1.kind, .int .i64 x12.f1.i, .bool x12.f1.b, .str x12.f1.s, .sl .ro 5 (encs x12.f1.t), .int .i64 (IntKind.i64.wrap (x12.f2 + a1))]]) rfl rfl rfl rfl rfl rfl rfl rfl rfl 2 rfl ?_
        obtain ⟨h17, hr⟩ := grd hr
        refine AL.aw2 good (d := 34) (rows := r_st_GInst v1_1) (news := [[.str (((GInst.mk x12.f0 x12.f1 (IntKind.i64.wrap (x12.f2 + a1)))).f0), .int .i64 ((((GInst.mk x12.f0 x12.f1 (IntKind.i64.wrap (x12.f2 + a1)))).f1).kind), .int .i64 ((((GInst.mk x12.f0 x12.f1 (IntKind.i64.wrap (x12.f2 + a1)))).f1).i), .bool ((((GInst.mk x12.f0 x12.f1 (IntKind.i64.wrap (x12.f2 + a1)))).f1).b), .str ((((GInst.mk x12.f0 x12.f1 (IntKind.i64.wrap (x12.f2 + a1)))).f1).s), .sl .ro 5 (encs ((((GInst.mk x12.f0 x12.f1 (IntKind.i64.wrap (x12.f2 + a1)))).f1).t)), .int .i64 (((GInst.mk x12.f0 x12.f1 (IntKind.i64.wrap (x12.f2 + a1)))).f2)]]) (rows2 := r_st_GInst (v1_1 ++ [(GInst.mk x12.f0 x12.f1 (IntKind.i64.wrap (x12.f2 + a1)))])) rfl rfl rfl rfl rfl rfl rfl rfl rfl (by simp) rfl rfl rfl ⟨⟨Wv.refl _, Wv.refl _, Wv.refl _, Wv.refl _, Wv.refl _, Wv.refl _, Wv.refl _, trivial⟩, trivial⟩ (by simp [r_st_GInst, rowF]) (by rw [r_st_GInst_length, List.length_append]; exact h17) rfl ?_
        refine AL.v good (d := 5) (v := .sl (.own 0) 7 (r_st_GInst (v1_1 ++ [(GInst.mk x12.f0 x12.f1 (IntKind.i64.wrap (x12.f2 + a1)))]))) rfl rfl rfl rfl ?_
        refine AW.region (M := fun _ => true) ?_
        refine AL.v good (d := 12) (v := .int .i64 (v1_2 : Int)) rfl rfl rfl rfl ?_
        refine AL.v good (d := 13) (v := .int .i64 (IntKind.i64.wrap ((v1_2 : Int) + 1))) rfl rfl rfl rfl ?_
        refine AL.v good (d := 6) (v := .int .i64 (IntKind.i64.wrap ((v1_2 : Int) + 1))) rfl rfl rfl rfl ?_
        exact ⟨(m, (v1_1 ++ [(GInst.mk x12.f0 x12.f1 (IntKind.i64.wrap (x12.f2 + a1)))]), (v1_2 + 1)), _, _, rfl, ⟨(fun _ h => by cases h), List.forall_mem_cons.2 ⟨⟨⟨_, rfl, Wv.refl _⟩, (by simp [pureA, pureL, pureR, inA, inL, inR, inO, idsIn, encs_pure, enxs_pure, enys_pure, valC_pure, exC_pure, tyC_pure, r_int_u8_pure, r_st_GInst_pure, r_sl_st_GInst_pure, r_st_GMiss_pure])⟩, List.forall_mem_cons.2 ⟨⟨⟨_, rfl, Wv.refl _⟩, (by simp [pureA, pureL, pureR, inA, inL, inR, inO, idsIn, encs_pure, enxs_pure, enys_pure, valC_pure, exC_pure, tyC_pure, r_int_u8_pure, r_st_GInst_pure, r_sl_st_GInst_pure, r_st_GMiss_pure])⟩, List.forall_mem_cons.2 ⟨⟨⟨_, rfl, Wv.refl _⟩, (by simp [pureA, pureL, pureR, inA, inL, inR, inO, idsIn, encs_pure, enxs_pure, enys_pure, valC_pure, exC_pure, tyC_pure, r_int_u8_pure, r_st_GInst_pure, r_sl_st_GInst_pure, r_st_GMiss_pure])⟩, List.forall_mem_cons.2 ⟨⟨⟨_, rfl, (wnx h11 hl10)⟩, (by simp [pureA, pureL, pureR, inA, inL, inR, inO, idsIn, encs_pure, enxs_pure, enys_pure, valC_pure, exC_pure, tyC_pure, r_int_u8_pure, r_st_GInst_pure, r_sl_st_GInst_pure, r_st_GMiss_pure])⟩, (fun _ h => by cases h)⟩⟩⟩⟩, List.forall_mem_cons.2 ⟨⟨⟨_, rfl, ⟨rfl, rfl, rfl⟩⟩, (by simp [pureA, pureL, pureR, inA, inL, inR, inO, idsIn, encs_pure, enxs_pure, enys_pure, valC_pure, exC_pure, tyC_pure, r_int_u8_pure, r_st_GInst_pure, r_sl_st_GInst_pure, r_st_GMiss_pure])⟩, (fun _ h => by cases h)⟩⟩, ⟨hr, Nat.le_of_succ_le hm⟩, Nat.lt_succ_self _⟩
      · replace hr := cnd_f h16 hr
        refine AW.skip ?_
        refine AW.region (M := fun _ => true) ?_
        refine AL.v good (d := 31) (v := .sl (.own 0) 7 (r_st_GInst v1_1)) rfl rfl rfl rfl ?_
        refine AL.v good (d := 32) (v := .agg [.str x12.f0, .int .i64 x12.f1.kind, .int .i64 x12.f1.i, .bool x12.f1.b, .str x12.f1.s, .sl .ro 5 (encs x12.f1.t), .int .i64 x12.f2]) rfl rfl rfl rfl ?_
        refine AL.lit good (d := 33) (rows := [[.str x12.f0, .int .i64 x12.f1.kind, .int .i64 x12.f1.i, .bool x12.f1.b, .str x12.f1.s, .sl .ro 5 (encs x12.f1.t), .int .i64 x12.f2]]) rfl rfl rfl rfl rfl rfl rfl rfl rfl 2 rfl ?_
        obtain ⟨h18, hr⟩ := grd hr
        refine AL.aw2 good (d := 34) (rows := r_st_GInst v1_1) (news := [[.str x12.f0, .int .i64 x12.f1.kind, .int .i64 x12.f1.i, .bool x12.f1.b, .str x12.f1.s, .sl .ro 5 (encs x12.f1.t), .int .i64 x12.f2]]) (rows2 := r_st_GInst (v1_1 ++ [x12])) rfl rfl rfl rfl rfl rfl rfl rfl rfl (by simp) rfl rfl rfl ⟨⟨Wv.refl _, Wv.refl _, Wv.refl _, Wv.refl _, Wv.refl _, Wv.refl _, Wv.refl _, trivial⟩, trivial⟩ (by simp [r_st_GInst, rowF]) (by rw [r_st_GInst_length, List.length_append]; exact h18) rfl ?_
        refine AL.v good (d := 5) (v := .sl (.own 0) 7 (r_st_GInst (v1_1 ++ [x12]))) rfl rfl rfl rfl ?_
        refine AW.region (M := fun _ => true) ?_
        refine AL.v good (d := 12) (v := .int .i64 (v1_2 : Int)) rfl rfl rfl rfl ?_
        refine AL.v good (d := 13) (v := .int .i64 (IntKind.i64.wrap ((v1_2 : Int) + 1))) rfl rfl rfl rfl ?_
        refine AL.v good (d := 6) (v := .int .i64 (IntKind.i64.wrap ((v1_2 : Int) + 1))) rfl rfl rfl rfl ?_
        exact ⟨(m, (v1_1 ++ [x12]), (v1_2 + 1)), _, _, rfl, ⟨(fun _ h => by cases h), List.forall_mem_cons.2 ⟨⟨⟨_, rfl, Wv.refl _⟩, (by simp [pureA, pureL, pureR, inA, inL, inR, inO, idsIn, encs_pure, enxs_pure, enys_pure, valC_pure, exC_pure, tyC_pure, r_int_u8_pure, r_st_GInst_pure, r_sl_st_GInst_pure, r_st_GMiss_pure])⟩, List.forall_mem_cons.2 ⟨⟨⟨_, rfl, Wv.refl _⟩, (by simp [pureA, pureL, pureR, inA, inL, inR, inO, idsIn, encs_pure, enxs_pure, enys_pure, valC_pure, exC_pure, tyC_pure, r_int_u8_pure, r_st_GInst_pure, r_sl_st_GInst_pure, r_st_GMiss_pure])⟩, List.forall_mem_cons.2 ⟨⟨⟨_, rfl, Wv.refl _⟩, (by simp [pureA, pureL, pureR, inA, inL, inR, inO, idsIn, encs_pure, enxs_pure, enys_pure, valC_pure, exC_pure, tyC_pure, r_int_u8_pure, r_st_GInst_pure, r_sl_st_GInst_pure, r_st_GMiss_pure])⟩, List.forall_mem_cons.2 ⟨⟨⟨_, rfl, (wnx h11 hl10)⟩, (by simp [pureA, pureL, pureR, inA, inL, inR, inO, idsIn, encs_pure, enxs_pure, enys_pure, valC_pure, exC_pure, tyC_pure, r_int_u8_pure, r_st_GInst_pure, r_sl_st_GInst_pure, r_st_GMiss_pure])⟩, (fun _ h => by cases h)⟩⟩⟩⟩, List.forall_mem_cons.2 ⟨⟨⟨_, rfl, ⟨rfl, rfl, rfl⟩⟩, (by simp [pureA, pureL, pureR, inA, inL, inR, inO, idsIn, encs_pure, enxs_pure, enys_pure, valC_pure, exC_pure, tyC_pure, r_int_u8_pure, r_st_GInst_pure, r_sl_st_GInst_pure, r_st_GMiss_pure])⟩, (fun _ h => by cases h)⟩⟩, ⟨hr, Nat.le_of_succ_le hm⟩, Nat.lt_succ_self _⟩
    · replace hr := cnd_f h11 hr
      refine AW.exit ?_
      refine AW.seq ?_
      refine AW.region (M := fun _ => true) ?_
      refine AL.v good (d := 35) (v := .sl (.own 0) 7 (r_st_GInst v1_1)) rfl rfl rfl rfl ?_
      refine AL.v good (d := 4) (v := .sl (.own 0) 7 (r_st_GInst v1_1)) rfl rfl rfl rfl ?_
      refine AW.ret ?_
      obtain rfl := Option.some.inj hr
      exact RetN.w good (.inr rfl) rfl rfl (WvR.refl _) rfl

def s_f89 (n : Nat) (a0 : List GInst) (a1 : List GInst) : Option (List GInst) :=
  (if a0.length ≤ 1000000 then ((s_f120 n a1 (a0.length : Int)).bind fun q2 => (if a0.length + q2.length ≤ 1000000 then some (a0 ++ q2) else none)) else none)

theorem w_f89 (n : Nat) (a0 : List GInst) (a1 : List GInst) (r : List GInst) (hr : s_f89 n a0 a1 = some r) (id : Nat) : ACallN Try.prog 89 [.sl .ro 7 (r_st_GInst a0), .sl .ro 7 (r_st_GInst a1)] id (.row 132 7 (r_st_GInst r).length) (.sl (.own id) 7 (r_st_GInst r)) := by
  refine ACallN.go (rows := r_st_GInst r) [(0, .sl .ro 7 (r_st_GInst a0)), (1, .sl .ro 7 (r_st_GInst a1))] Try.func89 rfl Try.ntmps89 rfl rfl (by simp [pureA, pureL, pureR, inA, inL, inR, inO, idsIn, encs_pure, enxs_pure, enys_pure, valC_pure, exC_pure, tyC_pure, r_int_u8_pure, r_st_GInst_pure, r_sl_st_GInst_pure, r_st_GMiss_pure]) (by simp [pureA, pureL, pureR, inA, inL, inR, inO, idsIn, encs_pure, enxs_pure, enys_pure, valC_pure, exC_pure, tyC_pure, r_int_u8_pure, r_st_GInst_pure, r_sl_st_GInst_pure, r_st_GMiss_pure]) ?_ id
  rw [s_f89] at hr
  refine AW.seq ?_
  refine AW.region (M := fun _ => true) ?_
  refine AL.v good (d := 4) (v := .sl .nil 0 []) rfl rfl rfl rfl ?_
  refine AW.seq ?_
  refine AW.region (M := fun _ => true) ?_
  refine AL.lit good (d := 5) (rows := []) rfl rfl rfl rfl rfl rfl rfl rfl rfl 0 rfl ?_
  refine AL.v good (d := 6) (v := .sl .ro 7 (r_st_GInst a0)) rfl rfl rfl rfl ?_
  obtain ⟨h1, hr⟩ := grd hr
  refine AL.aw2 good (d := 7) (rows := r_st_GInst []) (news := r_st_GInst a0) (rows2 := r_st_GInst a0) rfl rfl rfl rfl rfl rfl rfl rfl rfl (by simp) rfl rfl rfl (WvR.refl _) (by simp [r_st_GInst, rowF]) (by rw [r_st_GInst_length]; exact h1) rfl ?_
  refine AL.v good (d := 8) (v := .sl .ro 7 (r_st_GInst a1)) rfl rfl rfl rfl ?_
  refine AL.v good (d := 9) (v := .sl .ro 7 (r_st_GInst a0)) rfl rfl rfl rfl ?_
  refine AL.ln good (d := 10) (m := a0.length) rfl rfl rfl rfl rfl rfl (r_st_GInst_length _) ?_
  obtain ⟨q2, h3, hr⟩ := bnd1 hr
  refine AL.clF good (d := 11) (xs := [.sl .ro 7 (r_st_GInst a1), .int .i64 (a0.length : Int)]) (ob := .row 132 7 (r_st_GInst q2).length) (res := .sl (.own 1) 7 (r_st_GInst q2)) rfl rfl rfl rfl rfl rfl rfl 1 rfl (w_f120 _ _ _ _ h3 1) ⟨(Wv.refl _), (Wv.refl _), trivial⟩ rfl ColN.no ?_
  obtain ⟨h4, hr⟩ := grd hr
  refine AL.aw2 good (d := 12) (rows := r_st_GInst a0) (news := r_st_GInst q2) (rows2 := r_st_GInst (a0 ++ q2)) rfl rfl rfl rfl rfl rfl rfl rfl rfl (by simp) rfl rfl rfl (WvR.refl _) (by simp [r_st_GInst, rowF]) (by rw [r_st_GInst_length, List.length_append]; exact h4) rfl ?_
  refine AL.v good (d := 4) (v := .sl (.own 0) 7 (r_st_GInst (a0 ++ q2))) rfl rfl rfl rfl ?_
  refine AW.ret ?_
  obtain rfl := Option.some.inj hr
  exact RetN.w good (.inr rfl) rfl rfl (WvR.refl _) rfl

def s_f87 (n : Nat) (a0 : List GInst) (a1 : List GInst) (a2 : List GInst) : Option (List GInst) :=
  (if a0.length ≤ 1000000 then (if a0.length + 1 ≤ 1000000 then ((s_f89 n (a0 ++ [(GInst.mk ⟨#[106, 102]⟩ (Val.mk 0 0 false ⟨#[]⟩ []) (IntKind.i64.wrap ((IntKind.i64.wrap ((IntKind.i64.wrap ((a0.length : Int) + 1)) + (a1.length : Int))) + 1)))]) a1).bind fun q3 => (if q3.length + 1 ≤ 1000000 then ((s_f89 n (q3 ++ [(GInst.mk ⟨#[106, 109, 112]⟩ (Val.mk 0 0 false ⟨#[]⟩ []) (IntKind.i64.wrap ((IntKind.i64.wrap ((IntKind.i64.wrap ((IntKind.i64.wrap ((a0.length : Int) + 1)) + (a1.length : Int))) + 1)) + (a2.length : Int))))]) a2).bind fun q6 => some q6) else none)) else none) else none)

theorem w_f87 (n : Nat) (a0 : List GInst) (a1 : List GInst) (a2 : List GInst) (r : List GInst) (hr : s_f87 n a0 a1 a2 = some r) (id : Nat) : ACallN Try.prog 87 [.sl .ro 7 (r_st_GInst a0), .sl .ro 7 (r_st_GInst a1), .sl .ro 7 (r_st_GInst a2)] id (.row 132 7 (r_st_GInst r).length) (.sl (.own id) 7 (r_st_GInst r)) := by
  refine ACallN.go (rows := r_st_GInst r) [(0, .sl .ro 7 (r_st_GInst a0)), (1, .sl .ro 7 (r_st_GInst a1)), (2, .sl .ro 7 (r_st_GInst a2))] Try.func87 rfl Try.ntmps87 rfl rfl (by simp [pureA, pureL, pureR, inA, inL, inR, inO, idsIn, encs_pure, enxs_pure, enys_pure, valC_pure, exC_pure, tyC_pure, r_int_u8_pure, r_st_GInst_pure, r_sl_st_GInst_pure, r_st_GMiss_pure]) (by simp [pureA, pureL, pureR, inA, inL, inR, inO, idsIn, encs_pure, enxs_pure, enys_pure, valC_pure, exC_pure, tyC_pure, r_int_u8_pure, r_st_GInst_pure, r_sl_st_GInst_pure, r_st_GMiss_pure]) ?_ id
  rw [s_f87] at hr
  refine AW.seq ?_
  refine AW.region (M := fun _ => true) ?_
  refine AL.v good (d := 6) (v := .sl .nil 0 []) rfl rfl rfl rfl ?_
  refine AW.seq ?_
  refine AW.region (M := fun _ => true) ?_
  refine AL.v good (d := 9) (v := .sl .ro 7 (r_st_GInst a0)) rfl rfl rfl rfl ?_
  refine AL.ln good (d := 10) (m := a0.length) rfl rfl rfl rfl rfl rfl (r_st_GInst_length _) ?_
  refine AL.v good (d := 11) (v := .int .i64 (IntKind.i64.wrap ((a0.length : Int) + 1))) rfl rfl rfl rfl ?_
  refine AL.v good (d := 12) (v := .sl .ro 7 (r_st_GInst a1)) rfl rfl rfl rfl ?_
  refine AL.ln good (d := 13) (m := a1.length) rfl rfl rfl rfl rfl rfl (r_st_GInst_length _) ?_
  refine AL.v good (d := 14) (v := .int .i64 (IntKind.i64.wrap ((IntKind.i64.wrap ((a0.length : Int) + 1)) + (a1.length : Int)))) rfl rfl rfl rfl ?_
  refine AL.v good (d := 15) (v := .int .i64 (IntKind.i64.wrap ((IntKind.i64.wrap ((IntKind.i64.wrap ((a0.length : Int) + 1)) + (a1.length : Int))) + 1))) rfl rfl rfl rfl ?_
  refine AL.v good (d := 7) (v := .int .i64 (IntKind.i64.wrap ((IntKind.i64.wrap ((IntKind.i64.wrap ((a0.length : Int) + 1)) + (a1.length : Int))) + 1))) rfl rfl rfl rfl ?_
  refine AW.seq ?_
  refine AW.region (M := fun _ => true) ?_
  refine AL.lit good (d := 16) (rows := []) rfl rfl rfl rfl rfl rfl rfl rfl rfl 0 rfl ?_
  refine AL.v good (d := 17) (v := .sl .ro 7 (r_st_GInst a0)) rfl rfl rfl rfl ?_
  obtain ⟨h1, hr⟩ := grd hr
  refine AL.aw2 good (d := 18) (rows := r_st_GInst []) (news := r_st_GInst a0) (rows2 := r_st_GInst a0) rfl rfl rfl rfl rfl rfl rfl rfl rfl (by simp) rfl rfl rfl (WvR.refl _) (by simp [r_st_GInst, rowF]) (by rw [r_st_GInst_length]; exact h1) rfl ?_
  refine AL.v good (d := 19) (v := .int .i64 (IntKind.i64.wrap ((IntKind.i64.wrap ((IntKind.i64.wrap ((a0.length : Int) + 1)) + (a1.length : Int))) + 1))) rfl rfl rfl rfl ?_
  refine AL.cw good (d := 20) (xs := [.str ⟨#[106, 102]⟩, .int .i64 (IntKind.i64.wrap ((IntKind.i64.wrap ((IntKind.i64.wrap ((a0.length : Int) + 1)) + (a1.length : Int))) + 1))]) (res := .agg [.str ⟨#[106, 102]⟩, .int .i64 0, .int .i64 0, .bool false, .str ⟨#[]⟩, .sl .ro 5 (encs []), .int .i64 (IntKind.i64.wrap ((IntKind.i64.wrap ((IntKind.i64.wrap ((a0.length : Int) + 1)) + (a1.length : Int))) + 1))]) rfl rfl rfl rfl rfl rfl rfl (w_f86 ⟨#[106, 102]⟩ (IntKind.i64.wrap ((IntKind.i64.wrap ((IntKind.i64.wrap ((a0.length : Int) + 1)) + (a1.length : Int))) + 1))) ⟨(Wv.refl _), (Wv.refl _), trivial⟩ (by simp [pureA, pureL, pureR, inA, inL, inR, inO, idsIn, encs_pure, enxs_pure, enys_pure, valC_pure, exC_pure, tyC_pure, r_int_u8_pure, r_st_GInst_pure, r_sl_st_GInst_pure, r_st_GMiss_pure]) ?_
  refine AL.lit good (d := 21) (rows := [[.str ⟨#[106, 102]⟩, .int .i64 0, .int .i64 0, .bool false, .str ⟨#[]⟩, .sl .ro 5 (encs []), .int .i64 (IntKind.i64.wrap ((IntKind.i64.wrap ((IntKind.i64.wrap ((a0.length : Int) + 1)) + (a1.length : Int))) + 1))]]) rfl rfl rfl rfl rfl rfl rfl rfl rfl 1 rfl ?_
  obtain ⟨h2, hr⟩ := grd hr
  refine AL.aw2 good (d := 22) (rows := r_st_GInst a0) (news := [[.str (((GInst.mk ⟨#[106, 102]⟩ (Val.mk 0 0 false ⟨#[]⟩ []) (IntKind.i64.wrap ((IntKind.i64.wrap ((IntKind.i64.wrap ((a0.length : Int) + 1)) + (a1.length : Int))) + 1)))).f0), .int .i64 ((((GInst.mk ⟨#[106, 102]⟩ (Val.mk 0 0 false ⟨#[]⟩ []) (IntKind.i64.wrap ((IntKind.i64.wrap ((IntKind.i64.wrap ((a0.length : Int) + 1)) + (a1.length : Int))) + 1)))).f1).kind), .int .i64 ((((GInst.mk ⟨#[106, 102]⟩ (Val.mk 0 0 false ⟨#[]⟩ []) (IntKind.i64.wrap ((IntKind.i64.wrap ((IntKind.i64.wrap ((a0.length : Int) + 1)) + (a1.length : Int))) + 1)))).f1).i), .bool ((((GInst.mk ⟨#[106, 102]⟩ (Val.mk 0 0 false ⟨#[]⟩ []) (IntKind.i64.wrap ((IntKind.i64.wrap ((IntKind.i64.wrap ((a0.length : Int) + 1)) + (a1.length : Int))) + 1)))).f1).b), .str ((((GInst.mk ⟨#[106, 102]⟩ (Val.mk 0 0 false ⟨#[]⟩ []) (IntKind.i64.wrap ((IntKind.i64.wrap ((IntKind.i64.wrap ((a0.length : Int) + 1)) + (a1.length : Int))) + 1)))).f1).s), .sl .ro 5 (encs ((((GInst.mk ⟨#[106, 102]⟩ (Val.mk 0 0 false ⟨#[]⟩ []) (IntKind.i64.wrap ((IntKind.i64.wrap ((IntKind.i64.wrap ((a0.length : Int) + 1)) + (a1.length : Int))) + 1)))).f1).t)), .int .i64 (((GInst.mk ⟨#[106, 102]⟩ (Val.mk 0 0 false ⟨#[]⟩ []) (IntKind.i64.wrap ((IntKind.i64.wrap ((IntKind.i64.wrap ((a0.length : Int) + 1)) + (a1.length : Int))) + 1)))).f2)]]) (rows2 := r_st_GInst (a0 ++ [(GInst.mk ⟨#[106, 102]⟩ (Val.mk 0 0 false ⟨#[]⟩ []) (IntKind.i64.wrap ((IntKind.i64.wrap ((IntKind.i64.wrap ((a0.length : Int) + 1)) + (a1.length : Int))) + 1)))])) rfl rfl rfl rfl rfl rfl rfl rfl rfl (by simp) rfl rfl rfl ⟨⟨Wv.refl _, Wv.refl _, Wv.refl _, Wv.refl _, Wv.refl _, Wv.refl _, Wv.refl _, trivial⟩, trivial⟩ (by simp [r_st_GInst, rowF]) (by rw [r_st_GInst_length, List.length_append]; exact h2) rfl ?_
  refine AL.v good (d := 8) (v := .sl (.own 0) 7 (r_st_GInst (a0 ++ [(GInst.mk ⟨#[106, 102]⟩ (Val.mk 0 0 false ⟨#[]⟩ []) (IntKind.i64.wrap ((IntKind.i64.wrap ((IntKind.i64.wrap ((a0.length : Int) + 1)) + (a1.length : Int))) + 1)))]))) rfl rfl rfl rfl ?_
  refine AW.seq ?_
  refine AW.region (M := fun _ => true) ?_
  refine AL.v good (d := 23) (v := .sl (.own 0) 7 (r_st_GInst (a0 ++ [(GInst.mk ⟨#[106, 102]⟩ (Val.mk 0 0 false ⟨#[]⟩ []) (IntKind.i64.wrap ((IntKind.i64.wrap ((IntKind.i64.wrap ((a0.length : Int) + 1)) + (a1.length : Int))) + 1)))]))) rfl rfl rfl rfl ?_
  refine AL.v good (d := 24) (v := .sl .ro 7 (r_st_GInst a1)) rfl rfl rfl rfl ?_
  obtain ⟨q3, h4, hr⟩ := bnd1 hr
  refine AL.clF good (d := 25) (xs := [.sl .ro 7 (r_st_GInst (a0 ++ [(GInst.mk ⟨#[106, 102]⟩ (Val.mk 0 0 false ⟨#[]⟩ []) (IntKind.i64.wrap ((IntKind.i64.wrap ((IntKind.i64.wrap ((a0.length : Int) + 1)) + (a1.length : Int))) + 1)))])), .sl .ro 7 (r_st_GInst a1)]) (ob := .row 132 7 (r_st_GInst q3).length) (res := .sl (.own 2) 7 (r_st_GInst q3)) rfl rfl rfl rfl rfl rfl rfl 2 rfl (w_f89 _ _ _ _ h4 2) ⟨⟨.inr rfl, WvR.refl _, .inl rfl⟩, (Wv.refl _), trivial⟩ rfl ColN.no ?_
  refine AL.v good (d := 8) (v := .sl (.own 2) 7 (r_st_GInst q3)) rfl rfl rfl rfl ?_
  refine AW.ren 2 0 8 rfl rfl [(2, .sl .ro 7 (r_st_GInst a2)), (7, .int .i64 (IntKind.i64.wrap ((IntKind.i64.wrap ((IntKind.i64.wrap ((a0.length : Int) + 1)) + (a1.length : Int))) + 1)))] [] (List.forall_mem_cons.2 ⟨⟨rfl, (by simp [pureA, pureL, pureR, inA, inL, inR, inO, idsIn, encs_pure, enxs_pure, enys_pure, valC_pure, exC_pure, tyC_pure, r_int_u8_pure, r_st_GInst_pure, r_sl_st_GInst_pure, r_st_GMiss_pure])⟩, List.forall_mem_cons.2 ⟨⟨rfl, (by simp [pureA, pureL, pureR, inA, inL, inR, inO, idsIn, encs_pure, enxs_pure, enys_pure, valC_pure, exC_pure, tyC_pure, r_int_u8_pure, r_st_GInst_pure, r_sl_st_GInst_pure, r_st_GMiss_pure])⟩, (fun _ h => by cases h)⟩⟩) ((fun _ h => by cases h)) rfl rfl (fun _ h => by cases h) (r_st_GInst_pure _ _) ?_
  refine AW.seq ?_
  refine AW.region (M := fun _ => true) ?_
  refine AL.v good (d := 26) (v := .sl (.own 0) 7 (r_st_GInst q3)) rfl rfl rfl rfl ?_
  refine AL.v good (d := 27) (v := .int .i64 (IntKind.i64.wrap ((IntKind.i64.wrap ((IntKind.i64.wrap ((a0.length : Int) + 1)) + (a1.length : Int))) + 1))) rfl rfl rfl rfl ?_
  refine AL.v good (d := 28) (v := .sl .ro 7 (r_st_GInst a2)) rfl rfl rfl rfl ?_
  refine AL.ln good (d := 29) (m := a2.length) rfl rfl rfl rfl rfl rfl (r_st_GInst_length _) ?_
  refine AL.v good (d := 30) (v := .int .i64 (IntKind.i64.wrap ((IntKind.i64.wrap ((IntKind.i64.wrap ((IntKind.i64.wrap ((a0.length : Int) + 1)) + (a1.length : Int))) + 1)) + (a2.length : Int)))) rfl rfl rfl rfl ?_
  refine AL.cw good (d := 31) (xs := [.str ⟨#[106, 109, 112]⟩, .int .i64 (IntKind.i64.wrap ((IntKind.i64.wrap ((IntKind.i64.wrap ((IntKind.i64.wrap ((a0.length : Int) + 1)) + (a1.length : Int))) + 1)) + (a2.length : Int)))]) (res := .agg [.str ⟨#[106, 109, 112]⟩, .int .i64 0, .int .i64 0, .bool false, .str ⟨#[]⟩, .sl .ro 5 (encs []), .int .i64 (IntKind.i64.wrap ((IntKind.i64.wrap ((IntKind.i64.wrap ((IntKind.i64.wrap ((a0.length : Int) + 1)) + (a1.length : Int))) + 1)) + (a2.length : Int)))]) rfl rfl rfl rfl rfl rfl rfl (w_f86 ⟨#[106, 109, 112]⟩ (IntKind.i64.wrap ((IntKind.i64.wrap ((IntKind.i64.wrap ((IntKind.i64.wrap ((a0.length : Int) + 1)) + (a1.length : Int))) + 1)) + (a2.length : Int)))) ⟨(Wv.refl _), (Wv.refl _), trivial⟩ (by simp [pureA, pureL, pureR, inA, inL, inR, inO, idsIn, encs_pure, enxs_pure, enys_pure, valC_pure, exC_pure, tyC_pure, r_int_u8_pure, r_st_GInst_pure, r_sl_st_GInst_pure, r_st_GMiss_pure]) ?_
  refine AL.lit good (d := 32) (rows := [[.str ⟨#[106, 109, 112]⟩, .int .i64 0, .int .i64 0, .bool false, .str ⟨#[]⟩, .sl .ro 5 (encs []), .int .i64 (IntKind.i64.wrap ((IntKind.i64.wrap ((IntKind.i64.wrap ((IntKind.i64.wrap ((a0.length : Int) + 1)) + (a1.length : Int))) + 1)) + (a2.length : Int)))]]) rfl rfl rfl rfl rfl rfl rfl rfl rfl 3 rfl ?_
  obtain ⟨h5, hr⟩ := grd hr
  refine AL.aw2 good (d := 33) (rows := r_st_GInst q3) (news := [[.str (((GInst.mk ⟨#[106, 109, 112]⟩ (Val.mk 0 0 false ⟨#[]⟩ []) (IntKind.i64.wrap ((IntKind.i64.wrap ((IntKind.i64.wrap ((IntKind.i64.wrap ((a0.length : Int) + 1)) + (a1.length : Int))) + 1)) + (a2.length : Int))))).f0), .int .i64 ((((GInst.mk ⟨#[106, 109, 112]⟩ (Val.mk 0 0 false ⟨#[]⟩ []) (IntKind.i64.wrap ((IntKind.i64.wrap ((IntKind.i64.wrap ((IntKind.i64.wrap ((a0.length : Int) + 1)) + (a1.length : Int))) + 1)) + (a2.length : Int))))).f1).kind), .int .i64 ((((GInst.mk ⟨#[106, 109, 112]⟩ (Val.mk 0 0 false ⟨#[]⟩ []) (IntKind.i64.wrap ((IntKind.i64.wrap ((IntKind.i64.wrap ((IntKind.i64.wrap ((a0.length : Int) + 1)) + (a1.length : Int))) + 1)) + (a2.length : Int))))).f1).i), .bool ((((GInst.mk ⟨#[106, 109, 112]⟩ (Val.mk 0 0 false ⟨#[]⟩ []) (IntKind.i64.wrap ((IntKind.i64.wrap ((IntKind.i64.wrap ((IntKind.i64.wrap ((a0.length : Int) + 1)) + (a1.length : Int))) + 1)) + (a2.length : Int))))).f1).b), .str ((((GInst.mk ⟨#[106, 109, 112]⟩ (Val.mk 0 0 false ⟨#[]⟩ []) (IntKind.i64.wrap ((IntKind.i64.wrap ((IntKind.i64.wrap ((IntKind.i64.wrap ((a0.length : Int) + 1)) + (a1.length : Int))) + 1)) + (a2.length : Int))))).f1).s), .sl .ro 5 (encs ((((GInst.mk ⟨#[106, 109, 112]⟩ (Val.mk 0 0 false ⟨#[]⟩ []) (IntKind.i64.wrap ((IntKind.i64.wrap ((IntKind.i64.wrap ((IntKind.i64.wrap ((a0.length : Int) + 1)) + (a1.length : Int))) + 1)) + (a2.length : Int))))).f1).t)), .int .i64 (((GInst.mk ⟨#[106, 109, 112]⟩ (Val.mk 0 0 false ⟨#[]⟩ []) (IntKind.i64.wrap ((IntKind.i64.wrap ((IntKind.i64.wrap ((IntKind.i64.wrap ((a0.length : Int) + 1)) + (a1.length : Int))) + 1)) + (a2.length : Int))))).f2)]]) (rows2 := r_st_GInst (q3 ++ [(GInst.mk ⟨#[106, 109, 112]⟩ (Val.mk 0 0 false ⟨#[]⟩ []) (IntKind.i64.wrap ((IntKind.i64.wrap ((IntKind.i64.wrap ((IntKind.i64.wrap ((a0.length : Int) + 1)) + (a1.length : Int))) + 1)) + (a2.length : Int))))])) rfl rfl rfl rfl rfl rfl rfl rfl rfl (by simp) rfl rfl rfl ⟨⟨Wv.refl _, Wv.refl _, Wv.refl _, Wv.refl _, Wv.refl _, Wv.refl _, Wv.refl _, trivial⟩, trivial⟩ (by simp [r_st_GInst, rowF]) (by rw [r_st_GInst_length, List.length_append]; exact h5) rfl ?_
  refine AL.v good (d := 8) (v := .sl (.own 0) 7 (r_st_GInst (q3 ++ [(GInst.mk ⟨#[106, 109, 112]⟩ (Val.mk 0 0 false ⟨#[]⟩ []) (IntKind.i64.wrap ((IntKind.i64.wrap ((IntKind.i64.wrap ((IntKind.i64.wrap ((a0.length : Int) + 1)) + (a1.length : Int))) + 1)) + (a2.length : Int))))]))) rfl rfl rfl rfl ?_
  refine AW.seq ?_
  refine AW.region (M := fun _ => true) ?_
  refine AL.v good (d := 34) (v := .sl (.own 0) 7 (r_st_GInst (q3 ++ [(GInst.mk ⟨#[106, 109, 112]⟩ (Val.mk 0 0 false ⟨#[]⟩ []) (IntKind.i64.wrap ((IntKind.i64.wrap ((IntKind.i64.wrap ((IntKind.i64.wrap ((a0.length : Int) + 1)) + (a1.length : Int))) + 1)) + (a2.length : Int))))]))) rfl rfl rfl rfl ?_
  refine AL.v good (d := 35) (v := .sl .ro 7 (r_st_GInst a2)) rfl rfl rfl rfl ?_
  obtain ⟨q6, h7, hr⟩ := bnd1 hr
  refine AL.clF good (d := 36) (xs := [.sl .ro 7 (r_st_GInst (q3 ++ [(GInst.mk ⟨#[106, 109, 112]⟩ (Val.mk 0 0 false ⟨#[]⟩ []) (IntKind.i64.wrap ((IntKind.i64.wrap ((IntKind.i64.wrap ((IntKind.i64.wrap ((a0.length : Int) + 1)) + (a1.length : Int))) + 1)) + (a2.length : Int))))])), .sl .ro 7 (r_st_GInst a2)]) (ob := .row 132 7 (r_st_GInst q6).length) (res := .sl (.own 4) 7 (r_st_GInst q6)) rfl rfl rfl rfl rfl rfl rfl 4 rfl (w_f89 _ _ _ _ h7 4) ⟨⟨.inr rfl, WvR.refl _, .inl rfl⟩, (Wv.refl _), trivial⟩ rfl ColN.no ?_
  refine AL.v good (d := 6) (v := .sl (.own 4) 7 (r_st_GInst q6)) rfl rfl rfl rfl ?_
  refine AW.ret ?_
  obtain rfl := Option.some.inj hr
  exact RetN.w good (.inr rfl) rfl rfl (WvR.refl _) rfl

mutual
def s_f52 : Nat → Ex → Option (List GInst)
  | 0, _ => none
  | n + 1, a0 => (bif (a0.op.data.toList == [108, 105, 116]) then some [(GInst.mk ⟨#[112, 117, 115, 104]⟩ a0.v 0)] else (bif (a0.op.data.toList == [120]) then some [(GInst.mk ⟨#[120]⟩ (Val.mk 0 0 false ⟨#[]⟩ []) 0)] else (bif (a0.op.data.toList == [97, 110, 100]) then ((a0.a[0]?).bind fun x4 => ((s_f52 n x4).bind fun q6 => ((a0.a[1]?).bind fun x8 => ((s_f52 n x8).bind fun q10 => ((s_f87 n q6 q10 [(GInst.mk ⟨#[112, 117, 115, 104]⟩ (Val.mk 2 0 false ⟨#[]⟩ []) 0)]).bind fun q12 => some q12))))) else (bif (a0.op.data.toList == [111, 114]) then ((a0.a[0]?).bind fun x15 => ((s_f52 n x15).bind fun q17 => ((a0.a[1]?).bind fun x19 => ((s_f52 n x19).bind fun q21 => ((s_f87 n q17 [(GInst.mk ⟨#[112, 117, 115, 104]⟩ (Val.mk 2 0 true ⟨#[]⟩ []) 0)] q21).bind fun q23 => some q23))))) else (bif (a0.op.data.toList == [105, 102]) then ((a0.a[0]?).bind fun x26 => ((s_f52 n x26).bind fun q28 => ((a0.a[1]?).bind fun x30 => ((s_f52 n x30).bind fun q32 => ((a0.a[2]?).bind fun x34 => ((s_f52 n x34).bind fun q36 => ((s_f87 n q28 q32 q36).bind fun q38 => some q38))))))) else (s_f52_l1 n a0 [] 0))))))
def s_f52_l1 : Nat → Ex → (List GInst) → Nat → Option (List GInst)
  | 0, _, _, _ => none
  | n + 1, a0, v1_1, v1_2 => (bif (decide ((v1_2 : Int) < (a0.a.length : Int))) then ((a0.a[v1_2]?).bind fun x50 => ((s_f52 n x50).bind fun q52 => ((s_f89 n v1_1 q52).bind fun q54 => (s_f52_l1 n a0 q54 (v1_2 + 1))))) else (bif (a0.op.data.toList == [97, 116]) then (if v1_1.length + 1 ≤ 1000000 then some (v1_1 ++ [(GInst.mk ⟨#[97, 116]⟩ (Val.mk 0 0 false ⟨#[]⟩ []) a0.n)]) else none) else (bif (a0.op.data.toList == [116, 117, 112]) then (if v1_1.length + 1 ≤ 1000000 then some (v1_1 ++ [(GInst.mk ⟨#[116, 117, 112]⟩ (Val.mk 0 0 false ⟨#[]⟩ []) (a0.a.length : Int))]) else none) else (if v1_1.length + 1 ≤ 1000000 then some (v1_1 ++ [(GInst.mk a0.op (Val.mk 0 0 false ⟨#[]⟩ []) 0)]) else none))))
end

theorem w_f52_a (n : Nat) (ih : ∀ (m : Nat) (a0 : Ex) (r : List GInst), s_f52 m a0 = some r → m < n → ∀ id, ACallN Try.prog 52 [.agg (exC a0)] id (.row 132 7 (r_st_GInst r).length) (.sl (.own id) 7 (r_st_GInst r))) (a0 : Ex) (r : List GInst) (hr : s_f52 n a0 = some r) (id : Nat) : ACallN Try.prog 52 [.agg (exC a0)] id (.row 132 7 (r_st_GInst r).length) (.sl (.own id) 7 (r_st_GInst r)) := by
  refine ACallN.go (rows := r_st_GInst r) [(0, .agg (exC a0))] Try.func52 rfl Try.ntmps52 rfl rfl (by simp [pureA, pureL, pureR, inA, inL, inR, inO, idsIn, encs_pure, enxs_pure, enys_pure, valC_pure, exC_pure, tyC_pure, r_int_u8_pure, r_st_GInst_pure, r_sl_st_GInst_pure, r_st_GMiss_pure]) (by simp [pureA, pureL, pureR, inA, inL, inR, inO, idsIn, encs_pure, enxs_pure, enys_pure, valC_pure, exC_pure, tyC_pure, r_int_u8_pure, r_st_GInst_pure, r_sl_st_GInst_pure, r_st_GMiss_pure]) ?_ id
  cases n with
  | zero => rw [s_f52] at hr; cases hr
  | succ n =>
    rw [s_f52] at hr
    refine AW.seq ?_
    refine AW.region (M := fun _ => true) ?_
    refine AL.bx good (d := 1) (l := [.str a0.op, .int .i64 a0.v.kind, .int .i64 a0.v.i, .bool a0.v.b, .str a0.v.s, .sl .ro 5 (encs a0.v.t), .int .i64 a0.n, .sl .ro 8 (enxs a0.a)]) rfl rfl rfl rfl rfl rfl 0 rfl ?_
    refine AL.v good (d := 2) (v := .sl .nil 0 []) rfl rfl rfl rfl ?_
    refine AW.seq ?_
    refine AW.seq ?_
    refine AW.region (M := fun _ => true) ?_
    refine AL.v good (d := 5) (v := .ptr 0 0) rfl rfl rfl rfl ?_
    refine AL.v good (d := 6) (v := .str a0.op) rfl rfl rfl rfl ?_
    refine AW.block ?_
    refine AW.seq ?_
    refine AW.region (M := fun _ => true) ?_
    refine AL.sb good (d := 8) (b := (a0.op.data.toList == [108, 105, 116])) rfl rfl rfl rfl rfl rfl rfl ?_
    refine AL.v good (d := 7) (v := .bool (a0.op.data.toList == [108, 105, 116])) rfl rfl rfl rfl ?_
    refine AW.if rfl (fun h1 => ?_) (fun h1 => ?_)
    · replace hr := cnd_t h1 hr
      refine AW.seq ?_
      refine AW.region (M := fun _ => true) ?_
      refine AL.v good (d := 9) (v := .ptr 0 1) rfl rfl rfl rfl ?_
      refine AL.v good (d := 10) (v := .agg [.int .i64 a0.v.kind, .int .i64 a0.v.i, .bool a0.v.b, .str a0.v.s, .sl .ro 5 (encs a0.v.t)]) rfl rfl rfl rfl ?_
      refine AL.bld good (d := 11) (l := [.str ⟨#[112, 117, 115, 104]⟩, .int .i64 a0.v.kind, .int .i64 a0.v.i, .bool a0.v.b, .str a0.v.s, .sl .ro 5 (encs a0.v.t), .int .i64 0]) rfl rfl rfl rfl rfl rfl rfl ?_
      refine AL.lit good (d := 12) (rows := [[.str ⟨#[112, 117, 115, 104]⟩, .int .i64 a0.v.kind, .int .i64 a0.v.i, .bool a0.v.b, .str a0.v.s, .sl .ro 5 (encs a0.v.t), .int .i64 0]]) rfl rfl rfl rfl rfl rfl rfl rfl rfl 1 rfl ?_
      refine AL.v good (d := 2) (v := .sl (.own 1) 7 [[.str ⟨#[112, 117, 115, 104]⟩, .int .i64 a0.v.kind, .int .i64 a0.v.i, .bool a0.v.b, .str a0.v.s, .sl .ro 5 (encs a0.v.t), .int .i64 0]]) rfl rfl rfl rfl ?_
      refine AW.ret ?_
      obtain rfl := Option.some.inj hr
      exact RetN.w good (.inr rfl) rfl rfl (⟨⟨Wv.refl _, Wv.refl _, Wv.refl _, Wv.refl _, Wv.refl _, Wv.refl _, Wv.refl _, trivial⟩, trivial⟩) rfl
    · replace hr := cnd_f h1 hr
      refine AW.seq ?_
      refine AW.region (M := fun _ => true) ?_
      refine AL.sb good (d := 14) (b := (a0.op.data.toList == [120])) rfl rfl rfl rfl rfl rfl rfl ?_
      refine AL.v good (d := 13) (v := .bool (a0.op.data.toList == [120])) rfl rfl rfl rfl ?_
      refine AW.if rfl (fun h2 => ?_) (fun h2 => ?_)
      · replace hr := cnd_t h2 hr
        refine AW.seq ?_
        refine AW.region (M := fun _ => true) ?_
        refine AL.cw good (d := 15) (xs := [.str ⟨#[120]⟩, .int .i64 0]) (res := .agg [.str ⟨#[120]⟩, .int .i64 0, .int .i64 0, .bool false, .str ⟨#[]⟩, .sl .ro 5 (encs []), .int .i64 0]) rfl rfl rfl rfl rfl rfl rfl (w_f86 ⟨#[120]⟩ 0) ⟨(Wv.refl _), (Wv.refl _), trivial⟩ (by simp [pureA, pureL, pureR, inA, inL, inR, inO, idsIn, encs_pure, enxs_pure, enys_pure, valC_pure, exC_pure, tyC_pure, r_int_u8_pure, r_st_GInst_pure, r_sl_st_GInst_pure, r_st_GMiss_pure]) ?_
        refine AL.lit good (d := 16) (rows := [[.str ⟨#[120]⟩, .int .i64 0, .int .i64 0, .bool false, .str ⟨#[]⟩, .sl .ro 5 (encs []), .int .i64 0]]) rfl rfl rfl rfl rfl rfl rfl rfl rfl 1 rfl ?_
        refine AL.v good (d := 2) (v := .sl (.own 1) 7 [[.str ⟨#[120]⟩, .int .i64 0, .int .i64 0, .bool false, .str ⟨#[]⟩, .sl .ro 5 (encs []), .int .i64 0]]) rfl rfl rfl rfl ?_
        refine AW.ret ?_
        obtain rfl := Option.some.inj hr
        exact RetN.w good (.inr rfl) rfl rfl (⟨⟨Wv.refl _, Wv.refl _, Wv.refl _, Wv.refl _, Wv.refl _, Wv.refl _, Wv.refl _, trivial⟩, trivial⟩) rfl
      · replace hr := cnd_f h2 hr
        refine AW.seq ?_
        refine AW.region (M := fun _ => true) ?_
        refine AL.sb good (d := 18) (b := (a0.op.data.toList == [97, 110, 100])) rfl rfl rfl rfl rfl rfl rfl ?_
        refine AL.v good (d := 17) (v := .bool (a0.op.data.toList == [97, 110, 100])) rfl rfl rfl rfl ?_
        refine AW.if rfl (fun h3 => ?_) (fun h3 => ?_)
        · replace hr := cnd_t h3 hr
          refine AW.seq ?_
          refine AW.drawc (M := fun i => ⟨Nat.beq i 4 || Nat.beq i 9 || Nat.beq i 12, bif Nat.beq i 1 then some { ids := [0] } else bif Nat.beq i 3 then some { ids := [] } else bif Nat.beq i 4 then some { ids := [1] } else bif Nat.beq i 6 then some { ids := [0] } else bif Nat.beq i 8 then some { ids := [] } else bif Nat.beq i 9 then some { ids := [2] } else bif Nat.beq i 11 then some { ids := [3] } else bif Nat.beq i 12 then some { ids := [4] } else none⟩) good.wide (by kernel_rfl) ?_
          refine AL.v (nc := ⟨rfl⟩) good (d := 19) (v := .ptr 0 7) rfl rfl rfl rfl ?_
          refine AL.vc good (d := 20) (v := .sl .ro 8 (enxs a0.a)) rfl rfl rfl rfl rfl rfl (List.forall_mem_cons.2 ⟨.head _, (fun _ h => by cases h)⟩) ?_
          obtain ⟨x4, h5, hr⟩ := bnd1 hr
          refine AL.ix (nc := ⟨rfl⟩) good (d := 21) (r := [.str x4.op, .int .i64 x4.v.kind, .int .i64 x4.v.i, .bool x4.v.b, .str x4.v.s, .sl .ro 5 (encs x4.v.t), .int .i64 x4.n, .sl .ro 8 (enxs x4.a)]) rfl rfl rfl rfl rfl rfl rfl (by decide) (enxs_get h5) ?_
          refine AL.vc good (d := 22) (v := .agg [.str x4.op, .int .i64 x4.v.kind, .int .i64 x4.v.i, .bool x4.v.b, .str x4.v.s, .sl .ro 5 (encs x4.v.t), .int .i64 x4.n, .sl .ro 8 (enxs x4.a)]) rfl rfl rfl rfl rfl rfl (fun _ h => by cases h) ?_
          obtain ⟨q6, h7, hr⟩ := bnd1 hr
          refine AL.clF good (d := 23) (xs := [.agg (exC x4)]) (ob := .row 132 7 (r_st_GInst q6).length) (res := .sl (.own 1) 7 (r_st_GInst q6)) rfl rfl rfl rfl rfl rfl rfl 1 rfl (ih _ _ _ h7 (by omega) 1) ⟨(Wv.refl _), trivial⟩ rfl (ColN.mk rfl rfl (fun _ h => by cases h) (List.forall_mem_cons.2 ⟨.head _, (fun _ h => by cases h)⟩) (fun _ h => by cases h)) ?_
          refine AL.v (nc := ⟨rfl⟩) good (d := 24) (v := .ptr 0 7) rfl rfl rfl rfl ?_
          refine AL.vc good (d := 25) (v := .sl .ro 8 (enxs a0.a)) rfl rfl rfl rfl rfl rfl (List.forall_mem_cons.2 ⟨.head _, (fun _ h => by cases h)⟩) ?_
          obtain ⟨x8, h9, hr⟩ := bnd1 hr
          refine AL.ix (nc := ⟨rfl⟩) good (d := 26) (r := [.str x8.op, .int .i64 x8.v.kind, .int .i64 x8.v.i, .bool x8.v.b, .str x8.v.s, .sl .ro 5 (encs x8.v.t), .int .i64 x8.n, .sl .ro 8 (enxs x8.a)]) rfl rfl rfl rfl rfl rfl rfl (by decide) (enxs_get h9) ?_
          refine AL.vc good (d := 27) (v := .agg [.str x8.op, .int .i64 x8.v.kind, .int .i64 x8.v.i, .bool x8.v.b, .str x8.v.s, .sl .ro 5 (encs x8.v.t), .int .i64 x8.n, .sl .ro 8 (enxs x8.a)]) rfl rfl rfl rfl rfl rfl (fun _ h => by cases h) ?_
          obtain ⟨q10, h11, hr⟩ := bnd1 hr
          refine AL.clF good (d := 28) (xs := [.agg (exC x8)]) (ob := .row 132 7 (r_st_GInst q10).length) (res := .sl (.own 2) 7 (r_st_GInst q10)) rfl rfl rfl rfl rfl rfl rfl 2 rfl (ih _ _ _ h11 (by omega) 2) ⟨(Wv.refl _), trivial⟩ rfl (ColN.mk rfl rfl (fun _ h => by cases h) (List.forall_mem_cons.2 ⟨.head _, (fun _ h => by cases h)⟩) (fun _ h => by cases h)) ?_
          refine AL.cw (nc := ⟨rfl⟩) good (d := 29) (xs := [.bool false]) (res := .agg [.str ⟨#[112, 117, 115, 104]⟩, .int .i64 2, .int .i64 0, .bool false, .str ⟨#[]⟩, .sl .ro 5 (encs []), .int .i64 0]) rfl rfl rfl rfl rfl rfl rfl (w_f88 false) ⟨(Wv.refl _), trivial⟩ (by simp [pureA, pureL, pureR, inA, inL, inR, inO, idsIn, encs_pure, enxs_pure, enys_pure, valC_pure, exC_pure, tyC_pure, r_int_u8_pure, r_st_GInst_pure, r_sl_st_GInst_pure, r_st_GMiss_pure]) ?_
          refine AL.litC good (d := 30) (rows := [[.str ⟨#[112, 117, 115, 104]⟩, .int .i64 2, .int .i64 0, .bool false, .str ⟨#[]⟩, .sl .ro 5 (encs []), .int .i64 0]]) rfl rfl rfl rfl rfl rfl rfl rfl rfl 3 rfl (ColN.mk rfl rfl (fun _ h => by cases h) (List.forall_mem_cons.2 ⟨.head _, (fun _ h => by cases h)⟩) (fun _ h => by cases h)) ?_
          obtain ⟨q12, h13, hr⟩ := bnd1 hr
          refine AL.clF good (d := 31) (xs := [.sl .ro 7 (r_st_GInst q6), .sl .ro 7 (r_st_GInst q10), .sl .ro 7 (r_st_GInst [(GInst.mk ⟨#[112, 117, 115, 104]⟩ (Val.mk 2 0 false ⟨#[]⟩ []) 0)])]) (ob := .row 132 7 (r_st_GInst q12).length) (res := .sl (.own 4) 7 (r_st_GInst q12)) rfl rfl rfl rfl rfl rfl rfl 4 rfl (w_f87 _ _ _ _ _ h13 4) ⟨⟨.inr rfl, WvR.refl _, .inl rfl⟩, ⟨.inr rfl, WvR.refl _, .inl rfl⟩, ⟨.inr rfl, ⟨⟨Wv.refl _, Wv.refl _, Wv.refl _, Wv.refl _, Wv.refl _, Wv.refl _, Wv.refl _, trivial⟩, trivial⟩, .inl rfl⟩, trivial⟩ rfl (ColN.mk rfl rfl (fun _ h => by cases h) (List.forall_mem_cons.2 ⟨.head _, (fun _ h => by cases h)⟩) (fun _ h => by cases h)) ?_
          refine AL.v (nc := ⟨rfl⟩) good (d := 2) (v := .sl (.own 4) 7 (r_st_GInst q12)) rfl rfl rfl rfl ?_
          refine AW.ret ?_
          obtain rfl := Option.some.inj hr
          exact RetN.w good (.inr rfl) rfl rfl (WvR.refl _) rfl
        · replace hr := cnd_f h3 hr
          refine AW.seq ?_
          refine AW.region (M := fun _ => true) ?_
          refine AL.sb good (d := 33) (b := (a0.op.data.toList == [111, 114])) rfl rfl rfl rfl rfl rfl rfl ?_
          refine AL.v good (d := 32) (v := .bool (a0.op.data.toList == [111, 114])) rfl rfl rfl rfl ?_
          refine AW.if rfl (fun h14 => ?_) (fun h14 => ?_)
          · replace hr := cnd_t h14 hr
            refine AW.seq ?_
            refine AW.drawc (M := fun i => ⟨Nat.beq i 4 || Nat.beq i 11 || Nat.beq i 12, bif Nat.beq i 1 then some { ids := [0] } else bif Nat.beq i 3 then some { ids := [] } else bif Nat.beq i 4 then some { ids := [1] } else bif Nat.beq i 6 then some { ids := [2] } else bif Nat.beq i 8 then some { ids := [0] } else bif Nat.beq i 10 then some { ids := [] } else bif Nat.beq i 11 then some { ids := [3] } else bif Nat.beq i 12 then some { ids := [4] } else none⟩) good.wide (by kernel_rfl) ?_
            refine AL.v (nc := ⟨rfl⟩) good (d := 34) (v := .ptr 0 7) rfl rfl rfl rfl ?_
            refine AL.vc good (d := 35) (v := .sl .ro 8 (enxs a0.a)) rfl rfl rfl rfl rfl rfl (List.forall_mem_cons.2 ⟨.head _, (fun _ h => by cases h)⟩) ?_
            obtain ⟨x15, h16, hr⟩ := bnd1 hr
            refine AL.ix (nc := ⟨rfl⟩) good (d := 36) (r := [.str x15.op, .int .i64 x15.v.kind, .int .i64 x15.v.i, .bool x15.v.b, .str x15.v.s, .sl .ro 5 (encs x15.v.t), .int .i64 x15.n, .sl .ro 8 (enxs x15.a)]) rfl rfl rfl rfl rfl rfl rfl (by decide) (enxs_get h16) ?_
            refine AL.vc good (d := 37) (v := .agg [.str x15.op, .int .i64 x15.v.kind, .int .i64 x15.v.i, .bool x15.v.b, .str x15.v.s, .sl .ro 5 (encs x15.v.t), .int .i64 x15.n, .sl .ro 8 (enxs x15.a)]) rfl rfl rfl rfl rfl rfl (fun _ h => by cases h) ?_
            obtain ⟨q17, h18, hr⟩ := bnd1 hr
            refine AL.clF good (d := 38) (xs := [.agg (exC x15)]) (ob := .row 132 7 (r_st_GInst q17).length) (res := .sl (.own 1) 7 (r_st_GInst q17)) rfl rfl rfl rfl rfl rfl rfl 1 rfl (ih _ _ _ h18 (by omega) 1) ⟨(Wv.refl _), trivial⟩ rfl (ColN.mk rfl rfl (fun _ h => by cases h) (List.forall_mem_cons.2 ⟨.head _, (fun _ h => by cases h)⟩) (fun _ h => by cases h)) ?_
            refine AL.cw (nc := ⟨rfl⟩) good (d := 39) (xs := [.bool true]) (res := .agg [.str ⟨#[112, 117, 115, 104]⟩, .int .i64 2, .int .i64 0, .bool true, .str ⟨#[]⟩, .sl .ro 5 (encs []), .int .i64 0]) rfl rfl rfl rfl rfl rfl rfl (w_f88 true) ⟨(Wv.refl _), trivial⟩ (by simp [pureA, pureL, pureR, inA, inL, inR, inO, idsIn, encs_pure, enxs_pure, enys_pure, valC_pure, exC_pure, tyC_pure, r_int_u8_pure, r_st_GInst_pure, r_sl_st_GInst_pure, r_st_GMiss_pure]) ?_
            refine AL.litC good (d := 40) (rows := [[.str ⟨#[112, 117, 115, 104]⟩, .int .i64 2, .int .i64 0, .bool true, .str ⟨#[]⟩, .sl .ro 5 (encs []), .int .i64 0]]) rfl rfl rfl rfl rfl rfl rfl rfl rfl 2 rfl (ColN.mk rfl rfl (fun _ h => by cases h) (List.forall_mem_cons.2 ⟨.head _, (fun _ h => by cases h)⟩) (fun _ h => by cases h)) ?_
            refine AL.v (nc := ⟨rfl⟩) good (d := 41) (v := .ptr 0 7) rfl rfl rfl rfl ?_
            refine AL.vc good (d := 42) (v := .sl .ro 8 (enxs a0.a)) rfl rfl rfl rfl rfl rfl (List.forall_mem_cons.2 ⟨.head _, (fun _ h => by cases h)⟩) ?_
            obtain ⟨x19, h20, hr⟩ := bnd1 hr
            refine AL.ix (nc := ⟨rfl⟩) good (d := 43) (r := [.str x19.op, .int .i64 x19.v.kind, .int .i64 x19.v.i, .bool x19.v.b, .str x19.v.s, .sl .ro 5 (encs x19.v.t), .int .i64 x19.n, .sl .ro 8 (enxs x19.a)]) rfl rfl rfl rfl rfl rfl rfl (by decide) (enxs_get h20) ?_
            refine AL.vc good (d := 44) (v := .agg [.str x19.op, .int .i64 x19.v.kind, .int .i64 x19.v.i, .bool x19.v.b, .str x19.v.s, .sl .ro 5 (encs x19.v.t), .int .i64 x19.n, .sl .ro 8 (enxs x19.a)]) rfl rfl rfl rfl rfl rfl (fun _ h => by cases h) ?_
            obtain ⟨q21, h22, hr⟩ := bnd1 hr
            refine AL.clF good (d := 45) (xs := [.agg (exC x19)]) (ob := .row 132 7 (r_st_GInst q21).length) (res := .sl (.own 3) 7 (r_st_GInst q21)) rfl rfl rfl rfl rfl rfl rfl 3 rfl (ih _ _ _ h22 (by omega) 3) ⟨(Wv.refl _), trivial⟩ rfl (ColN.mk rfl rfl (fun _ h => by cases h) (List.forall_mem_cons.2 ⟨.head _, (fun _ h => by cases h)⟩) (fun _ h => by cases h)) ?_
            obtain ⟨q23, h24, hr⟩ := bnd1 hr
            refine AL.clF good (d := 46) (xs := [.sl .ro 7 (r_st_GInst q17), .sl .ro 7 (r_st_GInst [(GInst.mk ⟨#[112, 117, 115, 104]⟩ (Val.mk 2 0 true ⟨#[]⟩ []) 0)]), .sl .ro 7 (r_st_GInst q21)]) (ob := .row 132 7 (r_st_GInst q23).length) (res := .sl (.own 4) 7 (r_st_GInst q23)) rfl rfl rfl rfl rfl rfl rfl 4 rfl (w_f87 _ _ _ _ _ h24 4) ⟨⟨.inr rfl, WvR.refl _, .inl rfl⟩, ⟨.inr rfl, ⟨⟨Wv.refl _, Wv.refl _, Wv.refl _, Wv.refl _, Wv.refl _, Wv.refl _, Wv.refl _, trivial⟩, trivial⟩, .inl rfl⟩, ⟨.inr rfl, WvR.refl _, .inl rfl⟩, trivial⟩ rfl (ColN.mk rfl rfl (fun _ h => by cases h) (List.forall_mem_cons.2 ⟨.head _, (fun _ h => by cases h)⟩) (fun _ h => by cases h)) ?_
            refine AL.v (nc := ⟨rfl⟩) good (d := 2) (v := .sl (.own 4) 7 (r_st_GInst q23)) rfl rfl rfl rfl ?_
            refine AW.ret ?_
            obtain rfl := Option.some.inj hr
            exact RetN.w good (.inr rfl) rfl rfl (WvR.refl _) rfl
          · replace hr := cnd_f h14 hr
            refine AW.seq ?_
            refine AW.region (M := fun _ => true) ?_
            refine AL.sb good (d := 48) (b := (a0.op.data.toList == [105, 102])) rfl rfl rfl rfl rfl rfl rfl ?_
            refine AL.v good (d := 47) (v := .bool (a0.op.data.toList == [105, 102])) rfl rfl rfl rfl ?_
            refine AW.if rfl (fun h25 => ?_) (fun h25 => ?_)
            · replace hr := cnd_t h25 hr
              refine AW.seq ?_
              refine AW.drawc (M := fun i => ⟨Nat.beq i 4 || Nat.beq i 9 || Nat.beq i 14 || Nat.beq i 15, bif Nat.beq i 1 then some { ids := [0] } else bif Nat.beq i 3 then some { ids := [] } else bif Nat.beq i 4 then some { ids := [1] } else bif Nat.beq i 6 then some { ids := [0] } else bif Nat.beq i 8 then some { ids := [] } else bif Nat.beq i 9 then some { ids := [2] } else bif Nat.beq i 11 then some { ids := [0] } else bif Nat.beq i 13 then some { ids := [] } else bif Nat.beq i 14 then some { ids := [3] } else bif Nat.beq i 15 then some { ids := [4] } else none⟩) good.wide (by kernel_rfl) ?_
              refine AL.v (nc := ⟨rfl⟩) good (d := 49) (v := .ptr 0 7) rfl rfl rfl rfl ?_
              refine AL.vc good (d := 50) (v := .sl .ro 8 (enxs a0.a)) rfl rfl rfl rfl rfl rfl (List.forall_mem_cons.2 ⟨.head _, (fun _ h => by cases h)⟩) ?_
              obtain ⟨x26, h27, hr⟩ := bnd1 hr
              refine AL.ix (nc := ⟨rfl⟩) good (d := 51) (r := [.str x26.op, .int .i64 x26.v.kind, .int .i64 x26.v.i, .bool x26.v.b, .str x26.v.s, .sl .ro 5 (encs x26.v.t), .int .i64 x26.n, .sl .ro 8 (enxs x26.a)]) rfl rfl rfl rfl rfl rfl rfl (by decide) (enxs_get h27) ?_
              refine AL.vc good (d := 52) (v := .agg [.str x26.op, .int .i64 x26.v.kind, .int .i64 x26.v.i, .bool x26.v.b, .str x26.v.s, .sl .ro 5 (encs x26.v.t), .int .i64 x26.n, .sl .ro 8 (enxs x26.a)]) rfl rfl rfl rfl rfl rfl (fun _ h => by cases h) ?_
              obtain ⟨q28, h29, hr⟩ := bnd1 hr
              refine AL.clF good (d := 53) (xs := [.agg (exC x26)]) (ob := .row 132 7 (r_st_GInst q28).length) (res := .sl (.own 1) 7 (r_st_GInst q28)) rfl rfl rfl rfl rfl rfl rfl 1 rfl (ih _ _ _ h29 (by omega) 1) ⟨(Wv.refl _), trivial⟩ rfl (ColN.mk rfl rfl (fun _ h => by cases h) (List.forall_mem_cons.2 ⟨.head _, (fun _ h => by cases h)⟩) (fun _ h => by cases h)) ?_
              refine AL.v (nc := ⟨rfl⟩) good (d := 54) (v := .ptr 0 7) rfl rfl rfl rfl ?_
              refine AL.vc good (d := 55) (v := .sl .ro 8 (enxs a0.a)) rfl rfl rfl rfl rfl rfl (List.forall_mem_cons.2 ⟨.head _, (fun _ h => by cases h)⟩) ?_
              obtain ⟨x30, h31, hr⟩ := bnd1 hr
              refine AL.ix (nc := ⟨rfl⟩) good (d := 56) (r := [.str x30.op, .int .i64 x30.v.kind, .int .i64 x30.v.i, .bool x30.v.b, .str x30.v.s, .sl .ro 5 (encs x30.v.t), .int .i64 x30.n, .sl .ro 8 (enxs x30.a)]) rfl rfl rfl rfl rfl rfl rfl (by decide) (enxs_get h31) ?_
              refine AL.vc good (d := 57) (v := .agg [.str x30.op, .int .i64 x30.v.kind, .int .i64 x30.v.i, .bool x30.v.b, .str x30.v.s, .sl .ro 5 (encs x30.v.t), .int .i64 x30.n, .sl .ro 8 (enxs x30.a)]) rfl rfl rfl rfl rfl rfl (fun _ h => by cases h) ?_
              obtain ⟨q32, h33, hr⟩ := bnd1 hr
              refine AL.clF good (d := 58) (xs := [.agg (exC x30)]) (ob := .row 132 7 (r_st_GInst q32).length) (res := .sl (.own 2) 7 (r_st_GInst q32)) rfl rfl rfl rfl rfl rfl rfl 2 rfl (ih _ _ _ h33 (by omega) 2) ⟨(Wv.refl _), trivial⟩ rfl (ColN.mk rfl rfl (fun _ h => by cases h) (List.forall_mem_cons.2 ⟨.head _, (fun _ h => by cases h)⟩) (fun _ h => by cases h)) ?_
              refine AL.v (nc := ⟨rfl⟩) good (d := 59) (v := .ptr 0 7) rfl rfl rfl rfl ?_
              refine AL.vc good (d := 60) (v := .sl .ro 8 (enxs a0.a)) rfl rfl rfl rfl rfl rfl (List.forall_mem_cons.2 ⟨.head _, (fun _ h => by cases h)⟩) ?_
              obtain ⟨x34, h35, hr⟩ := bnd1 hr
              refine AL.ix (nc := ⟨rfl⟩) good (d := 61) (r := [.str x34.op, .int .i64 x34.v.kind, .int .i64 x34.v.i, .bool x34.v.b, .str x34.v.s, .sl .ro 5 (encs x34.v.t), .int .i64 x34.n, .sl .ro 8 (enxs x34.a)]) rfl rfl rfl rfl rfl rfl rfl (by decide) (enxs_get h35) ?_
              refine AL.vc good (d := 62) (v := .agg [.str x34.op, .int .i64 x34.v.kind, .int .i64 x34.v.i, .bool x34.v.b, .str x34.v.s, .sl .ro 5 (encs x34.v.t), .int .i64 x34.n, .sl .ro 8 (enxs x34.a)]) rfl rfl rfl rfl rfl rfl (fun _ h => by cases h) ?_
              obtain ⟨q36, h37, hr⟩ := bnd1 hr
              refine AL.clF good (d := 63) (xs := [.agg (exC x34)]) (ob := .row 132 7 (r_st_GInst q36).length) (res := .sl (.own 3) 7 (r_st_GInst q36)) rfl rfl rfl rfl rfl rfl rfl 3 rfl (ih _ _ _ h37 (by omega) 3) ⟨(Wv.refl _), trivial⟩ rfl (ColN.mk rfl rfl (fun _ h => by cases h) (List.forall_mem_cons.2 ⟨.head _, (fun _ h => by cases h)⟩) (fun _ h => by cases h)) ?_
              obtain ⟨q38, h39, hr⟩ := bnd1 hr
              refine AL.clF good (d := 64) (xs := [.sl .ro 7 (r_st_GInst q28), .sl .ro 7 (r_st_GInst q32), .sl .ro 7 (r_st_GInst q36)]) (ob := .row 132 7 (r_st_GInst q38).length) (res := .sl (.own 4) 7 (r_st_GInst q38)) rfl rfl rfl rfl rfl rfl rfl 4 rfl (w_f87 _ _ _ _ _ h39 4) ⟨⟨.inr rfl, WvR.refl _, .inl rfl⟩, ⟨.inr rfl, WvR.refl _, .inl rfl⟩, ⟨.inr rfl, WvR.refl _, .inl rfl⟩, trivial⟩ rfl (ColN.mk rfl rfl (fun _ h => by cases h) (List.forall_mem_cons.2 ⟨.head _, (fun _ h => by cases h)⟩) (fun _ h => by cases h)) ?_
              refine AL.v (nc := ⟨rfl⟩) good (d := 2) (v := .sl (.own 4) 7 (r_st_GInst q38)) rfl rfl rfl rfl ?_
              refine AW.ret ?_
              obtain rfl := Option.some.inj hr
              exact RetN.w good (.inr rfl) rfl rfl (WvR.refl _) rfl
            · replace hr := cnd_f h25 hr
              refine AW.skip ?_
              refine AW.seq ?_
              refine AW.region (M := fun _ => true) ?_
              refine AL.v good (d := 3) (v := .sl .nil 0 []) rfl rfl rfl rfl ?_
              refine AW.seq ?_
              refine AW.seq ?_
              refine AW.region (M := fun _ => true) ?_
              refine AL.v good (d := 4) (v := .int .i64 0) rfl rfl rfl rfl ?_
              refine AW.block ?_
              refine AW.adopt 3 rfl 1 7 132 rfl rfl ?_
              refine AW.lensB 0 rfl (fun hl48 => ?_)
              replace hl48 : a0.a.length ≤ 9223372036854775807 := by rw [← enxs_length a0.a]; exact hl48.2.2.2.2.2.2.2.1
              refine AW.lpw (fun x : Nat × (List GInst) × Nat => [(1, .ptr 0 0), (3, .sl (.own 1) 7 (r_st_GInst x.2.1)), (4, .int .i64 (x.2.2 : Int))]) (fun x => [(0, .box 36 [.str a0.op, .int .i64 a0.v.kind, .int .i64 a0.v.i, .bool a0.v.b, .str a0.v.s, .sl .ro 5 (encs a0.v.t), .int .i64 a0.n, .sl .ro 8 (enxs a0.a)]), (1, .row 132 7 (r_st_GInst x.2.1).length)]) (fun x => s_f52_l1 x.1 a0 x.2.1 x.2.2 = some r ∧ x.1 ≤ n) (fun x => x.1) (n, [], 0) ⟨(fun _ h => by cases h), List.forall_mem_cons.2 ⟨⟨⟨_, rfl, Wv.refl _⟩, (by simp [pureA, pureL, pureR, inA, inL, inR, inO, idsIn, encs_pure, enxs_pure, enys_pure, valC_pure, exC_pure, tyC_pure, r_int_u8_pure, r_st_GInst_pure, r_sl_st_GInst_pure, r_st_GMiss_pure])⟩, List.forall_mem_cons.2 ⟨⟨⟨_, rfl, Wv.refl _⟩, (by simp [pureA, pureL, pureR, inA, inL, inR, inO, idsIn, encs_pure, enxs_pure, enys_pure, valC_pure, exC_pure, tyC_pure, r_int_u8_pure, r_st_GInst_pure, r_sl_st_GInst_pure, r_st_GMiss_pure])⟩, List.forall_mem_cons.2 ⟨⟨⟨_, rfl, Wv.refl _⟩, (by simp [pureA, pureL, pureR, inA, inL, inR, inO, idsIn, encs_pure, enxs_pure, enys_pure, valC_pure, exC_pure, tyC_pure, r_int_u8_pure, r_st_GInst_pure, r_sl_st_GInst_pure, r_st_GMiss_pure])⟩, (fun _ h => by cases h)⟩⟩⟩, List.forall_mem_cons.2 ⟨⟨⟨_, rfl, ⟨rfl, ⟨Wv.refl _, Wv.refl _, Wv.refl _, Wv.refl _, Wv.refl _, Wv.refl _, Wv.refl _, Wv.refl _, trivial⟩⟩⟩, (by simp [pureA, pureL, pureR, inA, inL, inR, inO, idsIn, encs_pure, enxs_pure, enys_pure, valC_pure, exC_pure, tyC_pure, r_int_u8_pure, r_st_GInst_pure, r_sl_st_GInst_pure, r_st_GMiss_pure])⟩, List.forall_mem_cons.2 ⟨⟨⟨_, rfl, ⟨rfl, rfl, rfl⟩⟩, (by simp [pureA, pureL, pureR, inA, inL, inR, inO, idsIn, encs_pure, enxs_pure, enys_pure, valC_pure, exC_pure, tyC_pure, r_int_u8_pure, r_st_GInst_pure, r_sl_st_GInst_pure, r_st_GMiss_pure])⟩, (fun _ h => by cases h)⟩⟩⟩ ⟨hr, Nat.le_refl _⟩ (fun ⟨m, v1_1, v1_2⟩ hx => ?_)
              obtain ⟨hr, hm⟩ := hx
              try dsimp only at hr hm
              cases m with
              | zero => rw [s_f52_l1] at hr; cases hr
              | succ m =>
                rw [s_f52_l1] at hr
                show AW Try.prog _ _ _ (mkS 105 [(1, .ptr 0 0), (3, .sl (.own 1) 7 (r_st_GInst v1_1)), (4, .int .i64 (v1_2 : Int))] [(0, .box 36 [.str a0.op, .int .i64 a0.v.kind, .int .i64 a0.v.i, .bool a0.v.b, .str a0.v.s, .sl .ro 5 (encs a0.v.t), .int .i64 a0.n, .sl .ro 8 (enxs a0.a)]), (1, .row 132 7 (r_st_GInst v1_1).length)])
                refine AW.seq ?_
                refine AW.seq ?_
                refine AW.region (M := fun _ => true) ?_
                refine AL.v good (d := 65) (v := .int .i64 (v1_2 : Int)) rfl rfl rfl rfl ?_
                refine AL.v good (d := 66) (v := .ptr 0 7) rfl rfl rfl rfl ?_
                refine AL.v good (d := 67) (v := .sl .ro 8 (enxs a0.a)) rfl rfl rfl rfl ?_
                refine AL.ln good (d := 68) (m := a0.a.length) rfl rfl rfl rfl rfl rfl (enxs_length _) ?_
                refine AL.v good (d := 69) (v := .bool (decide ((v1_2 : Int) < (a0.a.length : Int)))) rfl rfl rfl rfl ?_
                refine AW.if rfl (fun h49 => ?_) (fun h49 => ?_)
                · replace hr := cnd_t h49 hr
                  refine AW.skip ?_
                  refine AW.seq ?_
                  refine AW.block ?_
                  refine AW.region (M := fun _ => true) ?_
                  refine AL.v good (d := 72) (v := .sl (.own 1) 7 (r_st_GInst v1_1)) rfl rfl rfl rfl ?_
                  refine AL.v good (d := 73) (v := .ptr 0 7) rfl rfl rfl rfl ?_
                  refine AL.v good (d := 74) (v := .sl .ro 8 (enxs a0.a)) rfl rfl rfl rfl ?_
                  refine AL.v good (d := 75) (v := .int .i64 (v1_2 : Int)) rfl rfl rfl rfl ?_
                  obtain ⟨x50, h51, hr⟩ := bnd1 hr
                  refine AL.ix good (d := 76) (r := [.str x50.op, .int .i64 x50.v.kind, .int .i64 x50.v.i, .bool x50.v.b, .str x50.v.s, .sl .ro 5 (encs x50.v.t), .int .i64 x50.n, .sl .ro 8 (enxs x50.a)]) rfl rfl rfl rfl rfl rfl rfl (Int.natCast_nonneg _) (enxs_get h51) ?_
                  refine AL.v good (d := 77) (v := .agg [.str x50.op, .int .i64 x50.v.kind, .int .i64 x50.v.i, .bool x50.v.b, .str x50.v.s, .sl .ro 5 (encs x50.v.t), .int .i64 x50.n, .sl .ro 8 (enxs x50.a)]) rfl rfl rfl rfl ?_
                  obtain ⟨q52, h53, hr⟩ := bnd1 hr
                  refine AL.clF good (d := 78) (xs := [.agg (exC x50)]) (ob := .row 132 7 (r_st_GInst q52).length) (res := .sl (.own 2) 7 (r_st_GInst q52)) rfl rfl rfl rfl rfl rfl rfl 2 rfl (ih _ _ _ h53 (by omega) 2) ⟨(Wv.refl _), trivial⟩ rfl ColN.no ?_
                  obtain ⟨q54, h55, hr⟩ := bnd1 hr
                  refine AL.clF good (d := 79) (xs := [.sl .ro 7 (r_st_GInst v1_1), .sl .ro 7 (r_st_GInst q52)]) (ob := .row 132 7 (r_st_GInst q54).length) (res := .sl (.own 3) 7 (r_st_GInst q54)) rfl rfl rfl rfl rfl rfl rfl 3 rfl (w_f89 _ _ _ _ h55 3) ⟨⟨.inr rfl, WvR.refl _, .inl rfl⟩, ⟨.inr rfl, WvR.refl _, .inl rfl⟩, trivial⟩ rfl ColN.no ?_
                  refine AL.v good (d := 3) (v := .sl (.own 3) 7 (r_st_GInst q54)) rfl rfl rfl rfl ?_
                  refine AW.ren 3 1 3 rfl rfl [(1, .ptr 0 0), (4, .int .i64 (v1_2 : Int))] [(0, .box 36 [.str a0.op, .int .i64 a0.v.kind, .int .i64 a0.v.i, .bool a0.v.b, .str a0.v.s, .sl .ro 5 (encs a0.v.t), .int .i64 a0.n, .sl .ro 8 (enxs a0.a)])] (List.forall_mem_cons.2 ⟨⟨rfl, (by simp [pureA, pureL, pureR, inA, inL, inR, inO, idsIn, encs_pure, enxs_pure, enys_pure, valC_pure, exC_pure, tyC_pure, r_int_u8_pure, r_st_GInst_pure, r_sl_st_GInst_pure, r_st_GMiss_pure])⟩, List.forall_mem_cons.2 ⟨⟨rfl, (by simp [pureA, pureL, pureR, inA, inL, inR, inO, idsIn, encs_pure, enxs_pure, enys_pure, valC_pure, exC_pure, tyC_pure, r_int_u8_pure, r_st_GInst_pure, r_sl_st_GInst_pure, r_st_GMiss_pure])⟩, (fun _ h => by cases h)⟩⟩) (List.forall_mem_cons.2 ⟨⟨rfl, (by simp [pureA, pureL, pureR, inA, inL, inR, inO, idsIn, encs_pure, enxs_pure, enys_pure, valC_pure, exC_pure, tyC_pure, r_int_u8_pure, r_st_GInst_pure, r_sl_st_GInst_pure, r_st_GMiss_pure])⟩, (fun _ h => by cases h)⟩) rfl rfl (fun _ h => by cases h) (r_st_GInst_pure _ _) ?_
                  refine AW.region (M := fun _ => true) ?_
                  refine AL.v good (d := 70) (v := .int .i64 (v1_2 : Int)) rfl rfl rfl rfl ?_
                  refine AL.v good (d := 71) (v := .int .i64 (IntKind.i64.wrap ((v1_2 : Int) + 1))) rfl rfl rfl rfl ?_
                  refine AL.v good (d := 4) (v := .int .i64 (IntKind.i64.wrap ((v1_2 : Int) + 1))) rfl rfl rfl rfl ?_
                  exact ⟨(m, q54, (v1_2 + 1)), _, _, rfl, ⟨(fun _ h => by cases h), List.forall_mem_cons.2 ⟨⟨⟨_, rfl, Wv.refl _⟩, (by simp [pureA, pureL, pureR, inA, inL, inR, inO, idsIn, encs_pure, enxs_pure, enys_pure, valC_pure, exC_pure, tyC_pure, r_int_u8_pure, r_st_GInst_pure, r_sl_st_GInst_pure, r_st_GMiss_pure])⟩, List.forall_mem_cons.2 ⟨⟨⟨_, rfl, Wv.refl _⟩, (by simp [pureA, pureL, pureR, inA, inL, inR, inO, idsIn, encs_pure, enxs_pure, enys_pure, valC_pure, exC_pure, tyC_pure, r_int_u8_pure, r_st_GInst_pure, r_sl_st_GInst_pure, r_st_GMiss_pure])⟩, List.forall_mem_cons.2 ⟨⟨⟨_, rfl, (wnx h49 hl48)⟩, (by simp [pureA, pureL, pureR, inA, inL, inR, inO, idsIn, encs_pure, enxs_pure, enys_pure, valC_pure, exC_pure, tyC_pure, r_int_u8_pure, r_st_GInst_pure, r_sl_st_GInst_pure, r_st_GMiss_pure])⟩, (fun _ h => by cases h)⟩⟩⟩, List.forall_mem_cons.2 ⟨⟨⟨_, rfl, ⟨rfl, ⟨Wv.refl _, Wv.refl _, Wv.refl _, Wv.refl _, Wv.refl _, Wv.refl _, Wv.refl _, Wv.refl _, trivial⟩⟩⟩, (by simp [pureA, pureL, pureR, inA, inL, inR, inO, idsIn, encs_pure, enxs_pure, enys_pure, valC_pure, exC_pure, tyC_pure, r_int_u8_pure, r_st_GInst_pure, r_sl_st_GInst_pure, r_st_GMiss_pure])⟩, List.forall_mem_cons.2 ⟨⟨⟨_, rfl, ⟨rfl, rfl, rfl⟩⟩, (by simp [pureA, pureL, pureR, inA, inL, inR, inO, idsIn, encs_pure, enxs_pure, enys_pure, valC_pure, exC_pure, tyC_pure, r_int_u8_pure, r_st_GInst_pure, r_sl_st_GInst_pure, r_st_GMiss_pure])⟩, (fun _ h => by cases h)⟩⟩⟩, ⟨hr, Nat.le_of_succ_le hm⟩, Nat.lt_succ_self _⟩
                · replace hr := cnd_f h49 hr
                  refine AW.exit ?_
                  refine AW.seq ?_
                  refine AW.seq ?_
                  refine AW.region (M := fun _ => true) ?_
                  refine AL.v good (d := 80) (v := .ptr 0 0) rfl rfl rfl rfl ?_
                  refine AL.v good (d := 81) (v := .str a0.op) rfl rfl rfl rfl ?_
                  refine AW.block ?_
                  refine AW.seq ?_
                  refine AW.region (M := fun _ => true) ?_
                  refine AL.sb good (d := 83) (b := (a0.op.data.toList == [97, 116])) rfl rfl rfl rfl rfl rfl rfl ?_
                  refine AL.v good (d := 82) (v := .bool (a0.op.data.toList == [97, 116])) rfl rfl rfl rfl ?_
                  refine AW.if rfl (fun h56 => ?_) (fun h56 => ?_)
                  · replace hr := cnd_t h56 hr
                    refine AW.seq ?_
                    refine AW.region (M := fun _ => true) ?_
                    refine AL.v good (d := 84) (v := .sl (.own 1) 7 (r_st_GInst v1_1)) rfl rfl rfl rfl ?_
                    refine AL.v good (d := 85) (v := .ptr 0 6) rfl rfl rfl rfl ?_
                    refine AL.v good (d := 86) (v := .int .i64 a0.n) rfl rfl rfl rfl ?_
                    refine AL.cw good (d := 87) (xs := [.str ⟨#[97, 116]⟩, .int .i64 a0.n]) (res := .agg [.str ⟨#[97, 116]⟩, .int .i64 0, .int .i64 0, .bool false, .str ⟨#[]⟩, .sl .ro 5 (encs []), .int .i64 a0.n]) rfl rfl rfl rfl rfl rfl rfl (w_f86 ⟨#[97, 116]⟩ a0.n) ⟨(Wv.refl _), (Wv.refl _), trivial⟩ (by simp [pureA, pureL, pureR, inA, inL, inR, inO, idsIn, encs_pure, enxs_pure, enys_pure, valC_pure, exC_pure, tyC_pure, r_int_u8_pure, r_st_GInst_pure, r_sl_st_GInst_pure, r_st_GMiss_pure]) ?_
                    refine AL.lit good (d := 88) (rows := [[.str ⟨#[97, 116]⟩, .int .i64 0, .int .i64 0, .bool false, .str ⟨#[]⟩, .sl .ro 5 (encs []), .int .i64 a0.n]]) rfl rfl rfl rfl rfl rfl rfl rfl rfl 2 rfl ?_
                    obtain ⟨h57, hr⟩ := grd hr
                    refine AL.aw2 good (d := 89) (rows := r_st_GInst v1_1) (news := [[.str (((GInst.mk ⟨#[97, 116]⟩ (Val.mk 0 0 false ⟨#[]⟩ []) a0.n)).f0), .int .i64 ((((GInst.mk ⟨#[97, 116]⟩ (Val.mk 0 0 false ⟨#[]⟩ []) a0.n)).f1).kind), .int .i64 ((((GInst.mk ⟨#[97, 116]⟩ (Val.mk 0 0 false ⟨#[]⟩ []) a0.n)).f1).i), .bool ((((GInst.mk ⟨#[97, 116]⟩ (Val.mk 0 0 false ⟨#[]⟩ []) a0.n)).f1).b), .str ((((GInst.mk ⟨#[97, 116]⟩ (Val.mk 0 0 false ⟨#[]⟩ []) a0.n)).f1).s), .sl .ro 5 (encs ((((GInst.mk ⟨#[97, 116]⟩ (Val.mk 0 0 false ⟨#[]⟩ []) a0.n)).f1).t)), .int .i64 (((GInst.mk ⟨#[97, 116]⟩ (Val.mk 0 0 false ⟨#[]⟩ []) a0.n)).f2)]]) (rows2 := r_st_GInst (v1_1 ++ [(GInst.mk ⟨#[97, 116]⟩ (Val.mk 0 0 false ⟨#[]⟩ []) a0.n)])) rfl rfl rfl rfl rfl rfl rfl rfl rfl (by simp) rfl rfl rfl ⟨⟨Wv.refl _, Wv.refl _, Wv.refl _, Wv.refl _, Wv.refl _, Wv.refl _, Wv.refl _, trivial⟩, trivial⟩ (by simp [r_st_GInst, rowF]) (by rw [r_st_GInst_length, List.length_append]; exact h57) rfl ?_
                    refine AL.v good (d := 2) (v := .sl (.own 1) 7 (r_st_GInst (v1_1 ++ [(GInst.mk ⟨#[97, 116]⟩ (Val.mk 0 0 false ⟨#[]⟩ []) a0.n)]))) rfl rfl rfl rfl ?_
                    refine AW.ret ?_
                    obtain rfl := Option.some.inj hr
                    exact RetN.w good (.inr rfl) rfl rfl (WvR.refl _) rfl
                  · replace hr := cnd_f h56 hr
                    refine AW.seq ?_
                    refine AW.region (M := fun _ => true) ?_
                    refine AL.sb good (d := 91) (b := (a0.op.data.toList == [116, 117, 112])) rfl rfl rfl rfl rfl rfl rfl ?_
                    refine AL.v good (d := 90) (v := .bool (a0.op.data.toList == [116, 117, 112])) rfl rfl rfl rfl ?_
                    refine AW.if rfl (fun h58 => ?_) (fun h58 => ?_)
                    · replace hr := cnd_t h58 hr
                      refine AW.seq ?_
                      refine AW.region (M := fun _ => true) ?_
                      refine AL.v good (d := 92) (v := .sl (.own 1) 7 (r_st_GInst v1_1)) rfl rfl rfl rfl ?_
                      refine AL.v good (d := 93) (v := .ptr 0 7) rfl rfl rfl rfl ?_
                      refine AL.v good (d := 94) (v := .sl .ro 8 (enxs a0.a)) rfl rfl rfl rfl ?_
                      refine AL.ln good (d := 95) (m := a0.a.length) rfl rfl rfl rfl rfl rfl (enxs_length _) ?_
                      refine AL.cw good (d := 96) (xs := [.str ⟨#[116, 117, 112]⟩, .int .i64 (a0.a.length : Int)]) (res := .agg [.str ⟨#[116, 117, 112]⟩, .int .i64 0, .int .i64 0, .bool false, .str ⟨#[]⟩, .sl .ro 5 (encs []), .int .i64 (a0.a.length : Int)]) rfl rfl rfl rfl rfl rfl rfl (w_f86 ⟨#[116, 117, 112]⟩ (a0.a.length : Int)) ⟨(Wv.refl _), (Wv.refl _), trivial⟩ (by simp [pureA, pureL, pureR, inA, inL, inR, inO, idsIn, encs_pure, enxs_pure, enys_pure, valC_pure, exC_pure, tyC_pure, r_int_u8_pure, r_st_GInst_pure, r_sl_st_GInst_pure, r_st_GMiss_pure]) ?_
                      refine AL.lit good (d := 97) (rows := [[.str ⟨#[116, 117, 112]⟩, .int .i64 0, .int .i64 0, .bool false, .str ⟨#[]⟩, .sl .ro 5 (encs []), .int .i64 (a0.a.length : Int)]]) rfl rfl rfl rfl rfl rfl rfl rfl rfl 2 rfl ?_
                      obtain ⟨h59, hr⟩ := grd hr
                      refine AL.aw2 good (d := 98) (rows := r_st_GInst v1_1) (news := [[.str (((GInst.mk ⟨#[116, 117, 112]⟩ (Val.mk 0 0 false ⟨#[]⟩ []) (a0.a.length : Int))).f0), .int .i64 ((((GInst.mk ⟨#[116, 117, 112]⟩ (Val.mk 0 0 false ⟨#[]⟩ []) (a0.a.length : Int))).f1).kind), .int .i64 ((((GInst.mk ⟨#[116, 117, 112]⟩ (Val.mk 0 0 false ⟨#[]⟩ []) (a0.a.length : Int))).f1).i), .bool ((((GInst.mk ⟨#[116, 117, 112]⟩ (Val.mk 0 0 false ⟨#[]⟩ []) (a0.a.length : Int))).f1).b), .str ((((GInst.mk ⟨#[116, 117, 112]⟩ (Val.mk 0 0 false ⟨#[]⟩ []) (a0.a.length : Int))).f1).s), .sl .ro 5 (encs ((((GInst.mk ⟨#[116, 117, 112]⟩ (Val.mk 0 0 false ⟨#[]⟩ []) (a0.a.length : Int))).f1).t)), .int .i64 (((GInst.mk ⟨#[116, 117, 112]⟩ (Val.mk 0 0 false ⟨#[]⟩ []) (a0.a.length : Int))).f2)]]) (rows2 := r_st_GInst (v1_1 ++ [(GInst.mk ⟨#[116, 117, 112]⟩ (Val.mk 0 0 false ⟨#[]⟩ []) (a0.a.length : Int))])) rfl rfl rfl rfl rfl rfl rfl rfl rfl (by simp) rfl rfl rfl ⟨⟨Wv.refl _, Wv.refl _, Wv.refl _, Wv.refl _, Wv.refl _, Wv.refl _, Wv.refl _, trivial⟩, trivial⟩ (by simp [r_st_GInst, rowF]) (by rw [r_st_GInst_length, List.length_append]; exact h59) rfl ?_
                      refine AL.v good (d := 2) (v := .sl (.own 1) 7 (r_st_GInst (v1_1 ++ [(GInst.mk ⟨#[116, 117, 112]⟩ (Val.mk 0 0 false ⟨#[]⟩ []) (a0.a.length : Int))]))) rfl rfl rfl rfl ?_
                      refine AW.ret ?_
                      obtain rfl := Option.some.inj hr
                      exact RetN.w good (.inr rfl) rfl rfl (WvR.refl _) rfl
                    · replace hr := cnd_f h58 hr
                      refine AW.skip ?_
                      refine AW.seq ?_
                      refine AW.region (M := fun _ => true) ?_
                      refine AL.v good (d := 99) (v := .sl (.own 1) 7 (r_st_GInst v1_1)) rfl rfl rfl rfl ?_
                      refine AL.v good (d := 100) (v := .ptr 0 0) rfl rfl rfl rfl ?_
                      refine AL.v good (d := 101) (v := .str a0.op) rfl rfl rfl rfl ?_
                      refine AL.cw good (d := 102) (xs := [.str a0.op, .int .i64 0]) (res := .agg [.str a0.op, .int .i64 0, .int .i64 0, .bool false, .str ⟨#[]⟩, .sl .ro 5 (encs []), .int .i64 0]) rfl rfl rfl rfl rfl rfl rfl (w_f86 a0.op 0) ⟨(Wv.refl _), (Wv.refl _), trivial⟩ (by simp [pureA, pureL, pureR, inA, inL, inR, inO, idsIn, encs_pure, enxs_pure, enys_pure, valC_pure, exC_pure, tyC_pure, r_int_u8_pure, r_st_GInst_pure, r_sl_st_GInst_pure, r_st_GMiss_pure]) ?_
                      refine AL.lit good (d := 103) (rows := [[.str a0.op, .int .i64 0, .int .i64 0, .bool false, .str ⟨#[]⟩, .sl .ro 5 (encs []), .int .i64 0]]) rfl rfl rfl rfl rfl rfl rfl rfl rfl 2 rfl ?_
                      obtain ⟨h60, hr⟩ := grd hr
                      refine AL.aw2 good (d := 104) (rows := r_st_GInst v1_1) (news := [[.str (((GInst.mk a0.op (Val.mk 0 0 false ⟨#[]⟩ []) 0)).f0), .int .i64 ((((GInst.mk a0.op (Val.mk 0 0 false ⟨#[]⟩ []) 0)).f1).kind), .int .i64 ((((GInst.mk a0.op (Val.mk 0 0 false ⟨#[]⟩ []) 0)).f1).i), .bool ((((GInst.mk a0.op (Val.mk 0 0 false ⟨#[]⟩ []) 0)).f1).b), .str ((((GInst.mk a0.op (Val.mk 0 0 false ⟨#[]⟩ []) 0)).f1).s), .sl .ro 5 (encs ((((GInst.mk a0.op (Val.mk 0 0 false ⟨#[]⟩ []) 0)).f1).t)), .int .i64 (((GInst.mk a0.op (Val.mk 0 0 false ⟨#[]⟩ []) 0)).f2)]]) (rows2 := r_st_GInst (v1_1 ++ [(GInst.mk a0.op (Val.mk 0 0 false ⟨#[]⟩ []) 0)])) rfl rfl rfl rfl rfl rfl rfl rfl rfl (by simp) rfl rfl rfl ⟨⟨Wv.refl _, Wv.refl _, Wv.refl _, Wv.refl _, Wv.refl _, Wv.refl _, Wv.refl _, trivial⟩, trivial⟩ (by simp [r_st_GInst, rowF]) (by rw [r_st_GInst_length, List.length_append]; exact h60) rfl ?_
                      refine AL.v good (d := 2) (v := .sl (.own 1) 7 (r_st_GInst (v1_1 ++ [(GInst.mk a0.op (Val.mk 0 0 false ⟨#[]⟩ []) 0)]))) rfl rfl rfl rfl ?_
                      refine AW.ret ?_
                      obtain rfl := Option.some.inj hr
                      exact RetN.w good (.inr rfl) rfl rfl (WvR.refl _) rfl
theorem w_f52 (n : Nat) : ∀ (a0 : Ex) (r : List GInst) (hr : s_f52 n a0 = some r) (id : Nat), ACallN Try.prog 52 [.agg (exC a0)] id (.row 132 7 (r_st_GInst r).length) (.sl (.own id) 7 (r_st_GInst r)) := by
  induction n using Nat.strongRecOn with
  | _ n ih =>
    intro a0 r hr id
    exact w_f52_a n (fun m a0 r h hm => ih m hm a0 r h) a0 r hr id

end Go.Proofs.Ytbcjcekoonebiaa.Tl

set_option linter.unusedVariables false
namespace Go.Proofs.Ytbcjcekoonebiaa.Tl
open Go Go.RowKit
/-- With enough fuel it is this. -/
def Ev {α : Type} (f : Nat → Option α) (a : α) : Prop := ∃ N, ∀ n, N ≤ n → f n = some a
theorem Ev.mk {α : Type} (a : α) : Ev (fun _ => some a) a := ⟨0, fun _ _ => rfl⟩
theorem Ev.succ {α : Type} {f : Nat → Option α} {a : α} (h : Ev (fun n => f (n + 1)) a) : Ev f a :=
  let ⟨N, h⟩ := h
  ⟨N + 1, fun n hn => by
    cases n with
    | zero => omega
    | succ n => exact h n (by omega)⟩
theorem Ev.bind {α β : Type} {f : Nat → Option α} {g : Nat → α → Option β} {a : α} {b : β} (h : Ev f a) (k : Ev (fun n => g n a) b) : Ev (fun n => (f n).bind (g n)) b :=
  let ⟨N, h⟩ := h
  let ⟨M, k⟩ := k
  ⟨max N M, fun n hn => by
    show (f n).bind (g n) = some b
    rw [h n (by omega), Option.bind_some]
    exact k n (by omega)⟩
theorem Ev.bindc {α β : Type} {x : Option α} {g : Nat → α → Option β} {a : α} {b : β} (h : x = some a) (k : Ev (fun n => g n a) b) : Ev (fun n => x.bind (g n)) b := by
  subst h
  exact k
theorem Ev.t {α : Type} {c : Bool} {f g : Nat → Option α} {a : α} (h : c = true) (k : Ev f a) : Ev (fun n => bif c then f n else g n) a := by subst h; exact k
theorem Ev.f {α : Type} {c : Bool} {f g : Nat → Option α} {a : α} (h : c = false) (k : Ev g a) : Ev (fun n => bif c then f n else g n) a := by subst h; exact k
theorem Ev.g {α : Type} {p : Prop} [Decidable p] {f : Nat → Option α} {a : α} (h : p) (k : Ev f a) : Ev (fun n => if p then f n else none) a := by simp only [h, if_true]; exact k
theorem Ev.get {α : Type} {f : Nat → Option α} {a : α} (h : Ev f a) : ∃ n, f n = some a := let ⟨N, h⟩ := h; ⟨N, h N (Nat.le_refl N)⟩
/-- Either way. -/
theorem Ev.if {α : Type} {c : Bool} {f g : Nat → Option α} {a b : α} (h : c = true → Ev f a) (k : c = false → Ev g b) : Ev (fun n => bif c then f n else g n) (bif c then a else b) := by
  cases c
  · exact k rfl
  · exact h rfl
theorem Ev.ifa {α : Type} {p c : Bool} {f g : Nat → Option α} {a b : α} (hp : p = true) (h : c = true → Ev f a) (k : c = false → Ev g b) : Ev (fun n => bif p && c then f n else g n) (bif c then a else b) := by
  subst hp
  exact Ev.if h k
theorem and_f {a b : Bool} (h : a = false) : (a && b) = false := by subst h; rfl
theorem or_f {a b : Bool} (h : (a || b) = false) : a = false ∧ b = false := by cases a <;> cases b <;> simp_all
theorem Ev.congr {α : Type} {f : Nat → Option α} {a b : α} (h : Ev f a) (e : a = b) : Ev f b := e ▸ h
/-- .. with nothing behind it. -/
theorem Ev.ret {α β : Type} {f : Nat → Option α} {g : α → β} {a : α} (h : Ev f a) : Ev (fun n => (f n).bind fun q => some (g q)) (g a) := Ev.bind h (Ev.mk _)
end Go.Proofs.Ytbcjcekoonebiaa.Tl
