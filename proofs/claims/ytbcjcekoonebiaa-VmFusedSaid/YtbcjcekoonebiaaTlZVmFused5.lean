/- Definitions and walks: what is not looked at. Whole programs of expressions; what is not looked at is not run. Definitions and walks: fused chains. A map behind a filter behind a flat one. A law's arguments, as trees. How the arguments of this seat's laws are opened. EvalLazy, whatever its arguments. VmFused, whatever its arguments. Conditions: none. -/
import Derived.ChangeArms
import Derived.Carry
import Derived.KernelRfl
import Derived.Test.YtbcjcekoonebiaaTlZVmFused4
set_option linter.unusedVariables false
set_option linter.unusedSimpArgs false
namespace Go.Proofs.Ytbcjcekoonebiaa.Tl
open Go Go.RowKit
end Go.Proofs.Ytbcjcekoonebiaa.Tl

set_option linter.unusedVariables false
set_option linter.unusedSimpArgs false
namespace Go.Proofs.Ytbcjcekoonebiaa.Tl
open Go Go.RowKit
theorem bd_zero : BdV zeroV := ⟨Nat.zero_le _, trivial⟩
theorem mvI_f1 (k : Int) (i : GInst) : (mvI k i).f1 = i.f1 := by
  unfold mvI
  cases isJ i <;> rfl
def BdP (p : List GInst) : Prop := ∀ i ∈ p, BdV i.f1
theorem BdP.app {a b : List GInst} (ha : BdP a) (hb : BdP b) : BdP (a ++ b) := fun i hi => by
  rcases List.mem_append.1 hi with h | h
  · exact ha i h
  · exact hb i h
theorem BdP.one {i : GInst} (h : BdV i.f1) : BdP [i] := fun x hx => by simp at hx; subst hx; exact h
theorem BdP.mv {b : List GInst} (hb : BdP b) (k : Int) : BdP (mvP k b) := fun i hi => by
  obtain ⟨x, hx, rfl⟩ := List.mem_map.1 hi
  rw [mvI_f1]
  exact hb x hx
/-! ### where no place is added -/
def Fix (p : List GInst) : Prop := ∀ i ∈ p, mvI 0 i = i
theorem Fix.app {a b : List GInst} (ha : Fix a) (hb : Fix b) : Fix (a ++ b) := fun i hi => by
  rcases List.mem_append.1 hi with h | h
  · exact ha i h
  · exact hb i h
theorem Fix.one {i : GInst} (h : mvI 0 i = i) : Fix [i] := fun x hx => by simp at hx; subst hx; exact h
def FixL (l : List Ex) : Prop := ∀ g ∈ genEs l, g.length ≤ 1000000 → Fix g
theorem FixL.get {l : List Ex} (h : FixL l) (j : Nat) (hl : ((genEs l).getD j []).length ≤ 1000000) : Fix ((genEs l).getD j []) := by
  rw [List.getD_eq_getElem?_getD] at hl ⊢
  cases hj : (genEs l)[j]? with
  | none => intro i hi; cases hi
  | some g => rw [hj] at hl; exact h g (List.mem_of_getElem? hj) hl
abbrev tB : Ty := .mk 2 []
abbrev tI : Ty := .mk 1 []
theorem ckEs_two {a b : Ex} {ty s t : Ty} {d : Int} (ha : ckE a ty d = (s, 0)) (hb : ckE b ty d = (t, 0)) : ckEs [a, b] ty d = ([s, t], 0) := by simp [ckEs, ha, hb]
theorem ckEs_three {a b c : Ex} {ty s t u : Ty} {d : Int} (ha : ckE a ty d = (s, 0)) (hb : ckE b ty d = (t, 0)) (hc : ckE c ty d = (u, 0)) : ckEs [a, b, c] ty d = ([s, t, u], 0) := by simp [ckEs, ha, hb, hc]
theorem ck_and {a b : Ex} {d : Int} (h : d ≤ 12) (ha : ckE a tI (d + 1) = (tB, 0)) (hb : ckE b tI (d + 1) = (tB, 0)) : ckE (.mk ⟨#[97, 110, 100]⟩ zeroV 0 [a, b]) tI d = (tB, 0) := by
  have hd : decide (d > 12) = false := decide_eq_false (by omega)
  simp only [ckE, hd, ckEs_two ha hb]
  rfl
theorem ck_or {a b : Ex} {d : Int} (h : d ≤ 12) (ha : ckE a tI (d + 1) = (tB, 0)) (hb : ckE b tI (d + 1) = (tB, 0)) : ckE (.mk ⟨#[111, 114]⟩ zeroV 0 [a, b]) tI d = (tB, 0) := by
  have hd : decide (d > 12) = false := decide_eq_false (by omega)
  simp only [ckE, hd, ckEs_two ha hb]
  rfl
theorem ck_if {a b c : Ex} {d : Int} (h : d ≤ 12) (ha : ckE a tI (d + 1) = (tB, 0)) (hb : ckE b tI (d + 1) = (tB, 0)) (hc : ckE c tI (d + 1) = (tB, 0)) : ckE (.mk ⟨#[105, 102]⟩ zeroV 0 [a, b, c]) tI d = (tB, 0) := by
  have hd : decide (d > 12) = false := decide_eq_false (by omega)
  simp only [ckE, hd, ckEs_three ha hb hc]
  rfl
theorem len_two (o : ByteArray) (a b : Ex) (h : o.data.toList = [97, 110, 100] ∨ o.data.toList = [111, 114]) : (genE (.mk o zeroV 0 [a, b])).length ≤ (genE a).length + (genE b).length + 3 := by
  rcases h with h | h <;> (simp only [genE, genO, h, genEs]; simp [chooseP_length]; omega)
theorem len_if (a b c : Ex) : (genE (.mk ⟨#[105, 102]⟩ zeroV 0 [a, b, c])).length ≤ (genE a).length + (genE b).length + (genE c).length + 2 := by
  simp only [genE, genO, genEs]
  show (chooseP (genE a) (genE b) (genE c)).length ≤ _
  rw [chooseP_length]
  omega
/-- What is made in so many rounds. -/
structure LzI (i : Nat) (e : Ex) : Prop where
  bd : BdE e
  ck : ∀ d : Int, d + i ≤ 9 → ckE e tI d = (tB, 0)
  len : (genE e).length ≤ 3 + 10 * i
theorem bd_mk2 {o : ByteArray} {a b : Ex} (ha : BdE a) (hb : BdE b) : BdE (.mk o zeroV 0 [a, b]) := ⟨by simp, bd_zero, ha, hb, trivial⟩
theorem bd_mk3 {o : ByteArray} {a b c : Ex} (ha : BdE a) (hb : BdE b) (hc : BdE c) : BdE (.mk o zeroV 0 [a, b, c]) := ⟨by simp, bd_zero, ha, hb, hc, trivial⟩
theorem LzI.and {i : Nat} {a b : Ex} (ha : BdE a) (hb : BdE b) (ca : ∀ d : Int, d + (i + 1 : Nat) ≤ 9 → ckE a tI (d + 1) = (tB, 0)) (cb : ∀ d : Int, d + (i + 1 : Nat) ≤ 9 → ckE b tI (d + 1) = (tB, 0)) (hl : (genE a).length + (genE b).length + 3 ≤ 3 + 10 * (i + 1)) : LzI (i + 1) (.mk ⟨#[97, 110, 100]⟩ zeroV 0 [a, b]) :=
  ⟨bd_mk2 ha hb, fun d h => ck_and (by omega) (ca d h) (cb d h), Nat.le_trans (len_two _ a b (.inl rfl)) hl⟩
theorem LzI.or {i : Nat} {a b : Ex} (ha : BdE a) (hb : BdE b) (ca : ∀ d : Int, d + (i + 1 : Nat) ≤ 9 → ckE a tI (d + 1) = (tB, 0)) (cb : ∀ d : Int, d + (i + 1 : Nat) ≤ 9 → ckE b tI (d + 1) = (tB, 0)) (hl : (genE a).length + (genE b).length + 3 ≤ 3 + 10 * (i + 1)) : LzI (i + 1) (.mk ⟨#[111, 114]⟩ zeroV 0 [a, b]) :=
  ⟨bd_mk2 ha hb, fun d h => ck_or (by omega) (ca d h) (cb d h), Nat.le_trans (len_two _ a b (.inr rfl)) hl⟩
theorem LzI.if {i : Nat} {a b c : Ex} (ha : BdE a) (hb : BdE b) (hc : BdE c) (ca : ∀ d : Int, d + (i + 1 : Nat) ≤ 9 → ckE a tI (d + 1) = (tB, 0)) (cb : ∀ d : Int, d + (i + 1 : Nat) ≤ 9 → ckE b tI (d + 1) = (tB, 0)) (cc : ∀ d : Int, d + (i + 1 : Nat) ≤ 9 → ckE c tI (d + 1) = (tB, 0)) (hl : (genE a).length + (genE b).length + (genE c).length + 2 ≤ 3 + 10 * (i + 1)) : LzI (i + 1) (.mk ⟨#[105, 102]⟩ zeroV 0 [a, b, c]) :=
  ⟨bd_mk3 ha hb hc, fun d h => ck_if (by omega) (ca d h) (cb d h) (cc d h), Nat.le_trans (len_if a b c) hl⟩
theorem LzI.up {i : Nat} {e : Ex} (h : LzI i e) (d : Int) (hd : d + (i + 1 : Nat) ≤ 9) : ckE e tI (d + 1) = (tB, 0) := h.ck (d + 1) (by omega)
theorem LzI.next {i : Nat} {e : Ex} (h : LzI i e) : LzI (i + 1) e := ⟨h.bd, fun d hd => h.ck d (by omega), by have := h.len; omega⟩
end Go.Proofs.Ytbcjcekoonebiaa.Tl

set_option linter.unusedVariables false
set_option linter.unusedSimpArgs false
namespace Go.Proofs.Ytbcjcekoonebiaa.Tl
open Go Go.RowKit
abbrev c_int_i8 (x : Int) : List AV := [.int .i8 x]
def r_int_i8 (l : List Int) : List (List AV) := rowF c_int_i8 l
theorem r_int_i8_length (l : List Int) : (r_int_i8 l).length = l.length := rowF_length _ l
theorem r_int_i8_get {l : List Int} {j : Nat} {x : Int} (h : l[j]? = some x) : (r_int_i8 l)[j]? = some (c_int_i8 x) := rowF_get h
theorem r_int_i8_pure (S : Nat → Bool) (l : List Int) : inR S (r_int_i8 l) = true := rowF_pure S (fun x => by simp [pureA, pureL, pureR, inA, inL, inR, inO, idsIn, encs_pure, enxs_pure, enys_pure, valC_pure, exC_pure, tyC_pure, c_int_i8, r_int_u8_pure, r_st_GInst_pure, r_sl_st_GInst_pure, r_st_GMiss_pure]) l
abbrev c_int_i64 (x : Int) : List AV := [.int .i64 x]
def r_int_i64 (l : List Int) : List (List AV) := rowF c_int_i64 l
theorem r_int_i64_length (l : List Int) : (r_int_i64 l).length = l.length := rowF_length _ l
theorem r_int_i64_get {l : List Int} {j : Nat} {x : Int} (h : l[j]? = some x) : (r_int_i64 l)[j]? = some (c_int_i64 x) := rowF_get h
theorem r_int_i64_pure (S : Nat → Bool) (l : List Int) : inR S (r_int_i64 l) = true := rowF_pure S (fun x => by simp [pureA, pureL, pureR, inA, inL, inR, inO, idsIn, encs_pure, enxs_pure, enys_pure, valC_pure, exC_pure, tyC_pure, c_int_i64, r_int_u8_pure, r_st_GInst_pure, r_sl_st_GInst_pure, r_st_GMiss_pure, r_int_i8_pure]) l

mutual
def s_f9_l7 : Nat → (List Int) → Int → Int → Bool → (List GInst) → (List GInst) → (List GInst) → Nat → (List Val × List GMiss) → Nat → Option Bool
  | 0, _, _, _, _, _, _, _, _, _, _ => none
  | n + 1, a0, a1, a2, q1, q5, q7, q9, v1_1, q73, v7_1 => (bif (decide ((v7_1 : Int) < (q73.2.length : Int))) then ((q73.2[v7_1]?).bind fun x118 => (bif (x118.f0 != 2) then some false else ((q73.2[v7_1]?).bind fun x121 => (bif (x121.f1.i != 0) then some false else ((q73.2[v7_1]?).bind fun x124 => (bif (x124.f1.kind != 1) then some false else (s_f9_l7 n a0 a1 a2 q1 q5 q7 q9 v1_1 q73 (v7_1 + 1)))))))) else (s_f9_l1 n a0 a1 a2 q1 q5 q7 q9 (v1_1 + 1)))
def s_f9_l6 : Nat → (List Int) → Int → Int → Bool → (List GInst) → (List GInst) → (List GInst) → Nat → (List Val × List GMiss) → (List Int) → Nat → Option Bool
  | 0, _, _, _, _, _, _, _, _, _, _, _ => none
  | n + 1, a0, a1, a2, q1, q5, q7, q9, v1_1, q73, v5_3, v6_1 => (bif (decide ((v6_1 : Int) < (q73.1.length : Int))) then ((q73.1[v6_1]?).bind fun x98 => ((v5_3[v6_1]?).bind fun x100 => (bif (x98.i != x100) then some false else (s_f9_l6 n a0 a1 a2 q1 q5 q7 q9 v1_1 q73 v5_3 (v6_1 + 1))))) else (s_f9_l7 n a0 a1 a2 q1 q5 q7 q9 v1_1 q73 0))
def s_f9_l5 : Nat → (List Int) → Int → Int → Bool → (List GInst) → (List GInst) → (List GInst) → Nat → Int → (List Val × List GMiss) → Int → Int → (List Int) → Option Bool
  | 0, _, _, _, _, _, _, _, _, _, _, _, _, _ => none
  | n + 1, a0, a1, a2, q1, q5, q7, q9, v1_1, x71, q73, v5_1, v5_2, v5_3 => (bif (decide (v5_1 < 2)) then (bif (decide ((IntKind.i64.wrap ((IntKind.i64.wrap (x71)) + (IntKind.i64.wrap (v5_1 * (IntKind.i64.wrap (a1)))))) ≥ (IntKind.i64.wrap (a2)))) then (s_f9_l5 n a0 a1 a2 q1 q5 q7 q9 v1_1 x71 q73 (IntKind.i64.wrap (v5_1 + 1)) v5_2 v5_3) else (bif ((IntKind.i64.wrap ((IntKind.i64.wrap (x71)) + (IntKind.i64.wrap (v5_1 * (IntKind.i64.wrap (a1)))))) == 0) then (s_f9_l5 n a0 a1 a2 q1 q5 q7 q9 v1_1 x71 q73 (IntKind.i64.wrap (v5_1 + 1)) (IntKind.i64.wrap (v5_2 + 1)) v5_3) else (if (IntKind.i64.wrap ((IntKind.i64.wrap (x71)) + (IntKind.i64.wrap (v5_1 * (IntKind.i64.wrap (a1)))))) ≠ 0 then (if v5_3.length + 1 ≤ 1000000 then (s_f9_l5 n a0 a1 a2 q1 q5 q7 q9 v1_1 x71 q73 (IntKind.i64.wrap (v5_1 + 1)) v5_2 (v5_3 ++ [(IntKind.i64.wrap ((1000 : Int).tdiv (IntKind.i64.wrap ((IntKind.i64.wrap (x71)) + (IntKind.i64.wrap (v5_1 * (IntKind.i64.wrap (a1))))))))])) else none) else none))) else (bif (((q73.1.length : Int) != (v5_3.length : Int)) || ((q73.2.length : Int) != v5_2)) then some false else (s_f9_l6 n a0 a1 a2 q1 q5 q7 q9 v1_1 q73 v5_3 0)))
def s_f9_l1 : Nat → (List Int) → Int → Int → Bool → (List GInst) → (List GInst) → (List GInst) → Nat → Option Bool
  | 0, _, _, _, _, _, _, _, _ => none
  | n + 1, a0, a1, a2, q1, q5, q7, q9, v1_1 => (bif (decide ((v1_1 : Int) < (a0.length : Int))) then ((a0[v1_1]?).bind fun x71 => ((s_f44 n [q5, q7, q9] (Val.mk 1 (IntKind.i64.wrap (x71)) false ⟨#[]⟩ [])).bind fun q73 => (s_f9_l5 n a0 a1 a2 q1 q5 q7 q9 v1_1 x71 q73 0 0 []))) else some true)
end
def s_f9 (n : Nat) (a0 : List Int) (a1 : Int) (a2 : Int) : Option Bool :=
  ((s_f36 n).bind fun q1 => (bif (!q1) then some false else (bif (decide ((a0.length : Int) > 40)) then some true else ((s_f43 n (GOp.mk 4 ⟨#[]⟩ (Ty.mk 0 []) [(Ex.mk ⟨#[120]⟩ (Val.mk 0 0 false ⟨#[]⟩ []) 0 []), (Ex.mk ⟨#[97, 100, 100]⟩ (Val.mk 0 0 false ⟨#[]⟩ []) 0 [(Ex.mk ⟨#[120]⟩ (Val.mk 0 0 false ⟨#[]⟩ []) 0 []), (Ex.mk ⟨#[108, 105, 116]⟩ (Val.mk 1 (IntKind.i64.wrap (a1)) false ⟨#[]⟩ []) 0 [])])] (Ex.mk ⟨#[]⟩ (Val.mk 0 0 false ⟨#[]⟩ []) 0 []) 0 0)).bind fun q5 => ((s_f43 n (GOp.mk 3 ⟨#[]⟩ (Ty.mk 0 []) [(Ex.mk ⟨#[108, 116]⟩ (Val.mk 0 0 false ⟨#[]⟩ []) 0 [(Ex.mk ⟨#[120]⟩ (Val.mk 0 0 false ⟨#[]⟩ []) 0 []), (Ex.mk ⟨#[108, 105, 116]⟩ (Val.mk 1 (IntKind.i64.wrap (a2)) false ⟨#[]⟩ []) 0 [])])] (Ex.mk ⟨#[]⟩ (Val.mk 0 0 false ⟨#[]⟩ []) 0 []) 0 0)).bind fun q7 => ((s_f43 n (GOp.mk 2 ⟨#[]⟩ (Ty.mk 0 []) [(Ex.mk ⟨#[100, 105, 118]⟩ (Val.mk 0 0 false ⟨#[]⟩ []) 0 [(Ex.mk ⟨#[108, 105, 116]⟩ (Val.mk 1 1000 false ⟨#[]⟩ []) 0 []), (Ex.mk ⟨#[120]⟩ (Val.mk 0 0 false ⟨#[]⟩ []) 0 [])])] (Ex.mk ⟨#[]⟩ (Val.mk 0 0 false ⟨#[]⟩ []) 0 []) 0 0)).bind fun q9 => (s_f9_l1 n a0 a1 a2 q1 q5 q7 q9 0)))))))

theorem w_f9 (n : Nat) (a0 : List Int) (a1 : Int) (a2 : Int) (r : Bool) (hr : s_f9 n a0 a1 a2 = some r) : ACall Try.prog 9 [.sl .ro 1 (r_int_i8 a0), .int .i8 a1, .int .i8 a2] (.bool r) := by
  refine ACall.go [(0, .sl .ro 1 (r_int_i8 a0)), (1, .int .i8 a1), (2, .int .i8 a2)] Try.func9 rfl Try.ntmps9 rfl rfl (by simp [pureA, pureL, pureR, inA, inL, inR, inO, idsIn, encs_pure, enxs_pure, enys_pure, valC_pure, exC_pure, tyC_pure, r_int_u8_pure, r_st_GInst_pure, r_sl_st_GInst_pure, r_st_GMiss_pure, r_int_i8_pure]) ?_
  rw [s_f9] at hr
  refine AW.seq ?_
  refine AW.region (M := fun _ => true) ?_
  refine AL.v good (d := 6) (v := .bool false) rfl rfl rfl rfl ?_
  refine AW.seq ?_
  refine AW.seq ?_
  refine AW.region (M := fun _ => true) ?_
  obtain ⟨q1, h2, hr⟩ := bnd1 hr
  refine AL.cw good (d := 20) (xs := []) (res := .bool q1) rfl rfl rfl rfl rfl rfl rfl (w_f36 _ _ h2) trivial (by simp [pureA, pureL, pureR, inA, inL, inR, inO, idsIn, encs_pure, enxs_pure, enys_pure, valC_pure, exC_pure, tyC_pure, r_int_u8_pure, r_st_GInst_pure, r_sl_st_GInst_pure, r_st_GMiss_pure, r_int_i8_pure]) ?_
  refine AL.v good (d := 21) (v := .bool (!q1)) rfl rfl rfl rfl ?_
  refine AW.if rfl (fun h3 => ?_) (fun h3 => ?_)
  · replace hr := cnd_t h3 hr
    refine AW.seq ?_
    refine AW.region (M := fun _ => true) ?_
    refine AL.v good (d := 6) (v := .bool false) rfl rfl rfl rfl ?_
    refine AW.ret ?_
    obtain rfl := Option.some.inj hr
    exact RetQ.w good (.inr rfl) rfl rfl (Wv.refl _) (by simp [pureA, pureL, pureR, inA, inL, inR, inO, idsIn, encs_pure, enxs_pure, enys_pure, valC_pure, exC_pure, tyC_pure, r_int_u8_pure, r_st_GInst_pure, r_sl_st_GInst_pure, r_st_GMiss_pure, r_int_i8_pure])
  · replace hr := cnd_f h3 hr
    refine AW.skip ?_
    refine AW.seq ?_
    refine AW.seq ?_
    refine AW.region (M := fun _ => true) ?_
    refine AL.v good (d := 22) (v := .sl .ro 1 (r_int_i8 a0)) rfl rfl rfl rfl ?_
    refine AL.ln good (d := 23) (m := a0.length) rfl rfl rfl rfl rfl rfl (r_int_i8_length _) ?_
    refine AL.v good (d := 24) (v := .bool (decide ((a0.length : Int) > 40))) rfl rfl rfl rfl ?_
    refine AW.if rfl (fun h4 => ?_) (fun h4 => ?_)
    · replace hr := cnd_t h4 hr
      refine AW.seq ?_
      refine AW.region (M := fun _ => true) ?_
      refine AL.v good (d := 6) (v := .bool true) rfl rfl rfl rfl ?_
      refine AW.ret ?_
      obtain rfl := Option.some.inj hr
      exact RetQ.w good (.inr rfl) rfl rfl (Wv.refl _) (by simp [pureA, pureL, pureR, inA, inL, inR, inO, idsIn, encs_pure, enxs_pure, enys_pure, valC_pure, exC_pure, tyC_pure, r_int_u8_pure, r_st_GInst_pure, r_sl_st_GInst_pure, r_st_GMiss_pure, r_int_i8_pure])
    · replace hr := cnd_f h4 hr
      refine AW.skip ?_
      refine AW.seq ?_
      refine AW.region (M := fun _ => true) ?_
      refine AL.cw good (d := 25) (xs := []) (res := .agg [.str ⟨#[120]⟩, .int .i64 0, .int .i64 0, .bool false, .str ⟨#[]⟩, .sl .ro 5 (encs []), .int .i64 0, .sl .ro 8 (enxs [])]) rfl rfl rfl rfl rfl rfl rfl (w_f29) trivial (by simp [pureA, pureL, pureR, inA, inL, inR, inO, idsIn, encs_pure, enxs_pure, enys_pure, valC_pure, exC_pure, tyC_pure, r_int_u8_pure, r_st_GInst_pure, r_sl_st_GInst_pure, r_st_GMiss_pure, r_int_i8_pure]) ?_
      refine AL.cw good (d := 26) (xs := []) (res := .agg [.str ⟨#[120]⟩, .int .i64 0, .int .i64 0, .bool false, .str ⟨#[]⟩, .sl .ro 5 (encs []), .int .i64 0, .sl .ro 8 (enxs [])]) rfl rfl rfl rfl rfl rfl rfl (w_f29) trivial (by simp [pureA, pureL, pureR, inA, inL, inR, inO, idsIn, encs_pure, enxs_pure, enys_pure, valC_pure, exC_pure, tyC_pure, r_int_u8_pure, r_st_GInst_pure, r_sl_st_GInst_pure, r_st_GMiss_pure, r_int_i8_pure]) ?_
      refine AL.v good (d := 27) (v := .int .i8 a1) rfl rfl rfl rfl ?_
      refine AL.v good (d := 28) (v := .int .i64 (IntKind.i64.wrap (a1))) rfl rfl rfl rfl ?_
      refine AL.cw good (d := 29) (xs := [.int .i64 (IntKind.i64.wrap (a1))]) (res := .agg [.int .i64 1, .int .i64 (IntKind.i64.wrap (a1)), .bool false, .str ⟨#[]⟩, .sl .ro 5 (encs [])]) rfl rfl rfl rfl rfl rfl rfl (w_f28 (IntKind.i64.wrap (a1))) ⟨(Wv.refl _), trivial⟩ (by simp [pureA, pureL, pureR, inA, inL, inR, inO, idsIn, encs_pure, enxs_pure, enys_pure, valC_pure, exC_pure, tyC_pure, r_int_u8_pure, r_st_GInst_pure, r_sl_st_GInst_pure, r_st_GMiss_pure, r_int_i8_pure]) ?_
      refine AL.cw good (d := 30) (xs := [.agg (valC (Val.mk 1 (IntKind.i64.wrap (a1)) false ⟨#[]⟩ []))]) (res := .agg [.str ⟨#[108, 105, 116]⟩, .int .i64 1, .int .i64 (IntKind.i64.wrap (a1)), .bool false, .str ⟨#[]⟩, .sl .ro 5 (encs []), .int .i64 0, .sl .ro 8 (enxs [])]) rfl rfl rfl rfl rfl rfl rfl (w_f31 (Val.mk 1 (IntKind.i64.wrap (a1)) false ⟨#[]⟩ [])) ⟨(Wv.refl _), trivial⟩ (by simp [pureA, pureL, pureR, inA, inL, inR, inO, idsIn, encs_pure, enxs_pure, enys_pure, valC_pure, exC_pure, tyC_pure, r_int_u8_pure, r_st_GInst_pure, r_sl_st_GInst_pure, r_st_GMiss_pure, r_int_i8_pure]) ?_
      refine AL.lit good (d := 31) (rows := [[.str ⟨#[120]⟩, .int .i64 0, .int .i64 0, .bool false, .str ⟨#[]⟩, .sl .ro 5 (encs []), .int .i64 0, .sl .ro 8 (enxs [])], [.str ⟨#[108, 105, 116]⟩, .int .i64 1, .int .i64 (IntKind.i64.wrap (a1)), .bool false, .str ⟨#[]⟩, .sl .ro 5 (encs []), .int .i64 0, .sl .ro 8 (enxs [])]]) rfl rfl rfl rfl rfl rfl rfl rfl rfl 0 rfl ?_
      refine AL.cw good (d := 32) (xs := [.str ⟨#[97, 100, 100]⟩, .sl .ro 8 (enxs [(Ex.mk ⟨#[120]⟩ (Val.mk 0 0 false ⟨#[]⟩ []) 0 []), (Ex.mk ⟨#[108, 105, 116]⟩ (Val.mk 1 (IntKind.i64.wrap (a1)) false ⟨#[]⟩ []) 0 [])])]) (res := .agg [.str ⟨#[97, 100, 100]⟩, .int .i64 0, .int .i64 0, .bool false, .str ⟨#[]⟩, .sl .ro 5 (encs []), .int .i64 0, .sl .ro 8 (enxs [(Ex.mk ⟨#[120]⟩ (Val.mk 0 0 false ⟨#[]⟩ []) 0 []), (Ex.mk ⟨#[108, 105, 116]⟩ (Val.mk 1 (IntKind.i64.wrap (a1)) false ⟨#[]⟩ []) 0 [])])]) rfl rfl rfl rfl rfl rfl rfl (w_f30 ⟨#[97, 100, 100]⟩ [(Ex.mk ⟨#[120]⟩ (Val.mk 0 0 false ⟨#[]⟩ []) 0 []), (Ex.mk ⟨#[108, 105, 116]⟩ (Val.mk 1 (IntKind.i64.wrap (a1)) false ⟨#[]⟩ []) 0 [])]) ⟨(Wv.refl _), ⟨.inr rfl, (WvR_enxs ⟨⟨Wv.refl _, Wv.refl _, Wv.refl _, Wv.refl _, Wv.refl _, Wv.refl _, Wv.refl _, Wv.refl _, trivial⟩, ⟨Wv.refl _, Wv.refl _, Wv.refl _, Wv.refl _, Wv.refl _, Wv.refl _, Wv.refl _, Wv.refl _, trivial⟩, trivial⟩), .inl rfl⟩, trivial⟩ (by simp [pureA, pureL, pureR, inA, inL, inR, inO, idsIn, encs_pure, enxs_pure, enys_pure, valC_pure, exC_pure, tyC_pure, r_int_u8_pure, r_st_GInst_pure, r_sl_st_GInst_pure, r_st_GMiss_pure, r_int_i8_pure]) ?_
      refine AL.lit good (d := 33) (rows := [[.str ⟨#[120]⟩, .int .i64 0, .int .i64 0, .bool false, .str ⟨#[]⟩, .sl .ro 5 (encs []), .int .i64 0, .sl .ro 8 (enxs [])], [.str ⟨#[97, 100, 100]⟩, .int .i64 0, .int .i64 0, .bool false, .str ⟨#[]⟩, .sl .ro 5 (encs []), .int .i64 0, .sl .ro 8 (enxs [(Ex.mk ⟨#[120]⟩ (Val.mk 0 0 false ⟨#[]⟩ []) 0 []), (Ex.mk ⟨#[108, 105, 116]⟩ (Val.mk 1 (IntKind.i64.wrap (a1)) false ⟨#[]⟩ []) 0 [])])]]) rfl rfl rfl rfl rfl rfl rfl rfl rfl 1 rfl ?_
      refine AL.bld good (d := 34) (l := [.int .i64 4, .str ⟨#[]⟩, .int .i64 0, .sl .nil 0 [], .sl (.own 1) 8 [[.str ⟨#[120]⟩, .int .i64 0, .int .i64 0, .bool false, .str ⟨#[]⟩, .sl .ro 5 (encs []), .int .i64 0, .sl .ro 8 (enxs [])], [.str ⟨#[97, 100, 100]⟩, .int .i64 0, .int .i64 0, .bool false, .str ⟨#[]⟩, .sl .ro 5 (encs []), .int .i64 0, .sl .ro 8 (enxs [(Ex.mk ⟨#[120]⟩ (Val.mk 0 0 false ⟨#[]⟩ []) 0 []), (Ex.mk ⟨#[108, 105, 116]⟩ (Val.mk 1 (IntKind.i64.wrap (a1)) false ⟨#[]⟩ []) 0 [])])]], .str ⟨#[]⟩, .int .i64 0, .int .i64 0, .bool false, .str ⟨#[]⟩, .sl .nil 0 [], .int .i64 0, .sl .nil 0 [], .int .i64 0, .int .i64 0]) rfl rfl rfl rfl rfl rfl rfl ?_
      obtain ⟨q5, h6, hr⟩ := bnd1 hr
      refine AL.clF good (d := 35) (xs := [.agg [.int .i64 (((GOp.mk 4 ⟨#[]⟩ (Ty.mk 0 []) [(Ex.mk ⟨#[120]⟩ (Val.mk 0 0 false ⟨#[]⟩ []) 0 []), (Ex.mk ⟨#[97, 100, 100]⟩ (Val.mk 0 0 false ⟨#[]⟩ []) 0 [(Ex.mk ⟨#[120]⟩ (Val.mk 0 0 false ⟨#[]⟩ []) 0 []), (Ex.mk ⟨#[108, 105, 116]⟩ (Val.mk 1 (IntKind.i64.wrap (a1)) false ⟨#[]⟩ []) 0 [])])] (Ex.mk ⟨#[]⟩ (Val.mk 0 0 false ⟨#[]⟩ []) 0 []) 0 0)).f0), .str (((GOp.mk 4 ⟨#[]⟩ (Ty.mk 0 []) [(Ex.mk ⟨#[120]⟩ (Val.mk 0 0 false ⟨#[]⟩ []) 0 []), (Ex.mk ⟨#[97, 100, 100]⟩ (Val.mk 0 0 false ⟨#[]⟩ []) 0 [(Ex.mk ⟨#[120]⟩ (Val.mk 0 0 false ⟨#[]⟩ []) 0 []), (Ex.mk ⟨#[108, 105, 116]⟩ (Val.mk 1 (IntKind.i64.wrap (a1)) false ⟨#[]⟩ []) 0 [])])] (Ex.mk ⟨#[]⟩ (Val.mk 0 0 false ⟨#[]⟩ []) 0 []) 0 0)).f1), .int .i64 ((((GOp.mk 4 ⟨#[]⟩ (Ty.mk 0 []) [(Ex.mk ⟨#[120]⟩ (Val.mk 0 0 false ⟨#[]⟩ []) 0 []), (Ex.mk ⟨#[97, 100, 100]⟩ (Val.mk 0 0 false ⟨#[]⟩ []) 0 [(Ex.mk ⟨#[120]⟩ (Val.mk 0 0 false ⟨#[]⟩ []) 0 []), (Ex.mk ⟨#[108, 105, 116]⟩ (Val.mk 1 (IntKind.i64.wrap (a1)) false ⟨#[]⟩ []) 0 [])])] (Ex.mk ⟨#[]⟩ (Val.mk 0 0 false ⟨#[]⟩ []) 0 []) 0 0)).f2).kind), .sl .ro 2 (enys ((((GOp.mk 4 ⟨#[]⟩ (Ty.mk 0 []) [(Ex.mk ⟨#[120]⟩ (Val.mk 0 0 false ⟨#[]⟩ []) 0 []), (Ex.mk ⟨#[97, 100, 100]⟩ (Val.mk 0 0 false ⟨#[]⟩ []) 0 [(Ex.mk ⟨#[120]⟩ (Val.mk 0 0 false ⟨#[]⟩ []) 0 []), (Ex.mk ⟨#[108, 105, 116]⟩ (Val.mk 1 (IntKind.i64.wrap (a1)) false ⟨#[]⟩ []) 0 [])])] (Ex.mk ⟨#[]⟩ (Val.mk 0 0 false ⟨#[]⟩ []) 0 []) 0 0)).f2).of)), .sl .ro 8 (enxs (((GOp.mk 4 ⟨#[]⟩ (Ty.mk 0 []) [(Ex.mk ⟨#[120]⟩ (Val.mk 0 0 false ⟨#[]⟩ []) 0 []), (Ex.mk ⟨#[97, 100, 100]⟩ (Val.mk 0 0 false ⟨#[]⟩ []) 0 [(Ex.mk ⟨#[120]⟩ (Val.mk 0 0 false ⟨#[]⟩ []) 0 []), (Ex.mk ⟨#[108, 105, 116]⟩ (Val.mk 1 (IntKind.i64.wrap (a1)) false ⟨#[]⟩ []) 0 [])])] (Ex.mk ⟨#[]⟩ (Val.mk 0 0 false ⟨#[]⟩ []) 0 []) 0 0)).f3)), .str ((((GOp.mk 4 ⟨#[]⟩ (Ty.mk 0 []) [(Ex.mk ⟨#[120]⟩ (Val.mk 0 0 false ⟨#[]⟩ []) 0 []), (Ex.mk ⟨#[97, 100, 100]⟩ (Val.mk 0 0 false ⟨#[]⟩ []) 0 [(Ex.mk ⟨#[120]⟩ (Val.mk 0 0 false ⟨#[]⟩ []) 0 []), (Ex.mk ⟨#[108, 105, 116]⟩ (Val.mk 1 (IntKind.i64.wrap (a1)) false ⟨#[]⟩ []) 0 [])])] (Ex.mk ⟨#[]⟩ (Val.mk 0 0 false ⟨#[]⟩ []) 0 []) 0 0)).f4).op), .int .i64 (((((GOp.mk 4 ⟨#[]⟩ (Ty.mk 0 []) [(Ex.mk ⟨#[120]⟩ (Val.mk 0 0 false ⟨#[]⟩ []) 0 []), (Ex.mk ⟨#[97, 100, 100]⟩ (Val.mk 0 0 false ⟨#[]⟩ []) 0 [(Ex.mk ⟨#[120]⟩ (Val.mk 0 0 false ⟨#[]⟩ []) 0 []), (Ex.mk ⟨#[108, 105, 116]⟩ (Val.mk 1 (IntKind.i64.wrap (a1)) false ⟨#[]⟩ []) 0 [])])] (Ex.mk ⟨#[]⟩ (Val.mk 0 0 false ⟨#[]⟩ []) 0 []) 0 0)).f4).v).kind), .int .i64 (((((GOp.mk 4 ⟨#[]⟩ (Ty.mk 0 []) [(Ex.mk ⟨#[120]⟩ (Val.mk 0 0 false ⟨#[]⟩ []) 0 []), (Ex.mk ⟨#[97, 100, 100]⟩ (Val.mk 0 0 false ⟨#[]⟩ []) 0 [(Ex.mk ⟨#[120]⟩ (Val.mk 0 0 false ⟨#[]⟩ []) 0 []), (Ex.mk ⟨#[108, 105, 116]⟩ (Val.mk 1 (IntKind.i64.wrap (a1)) false ⟨#[]⟩ []) 0 [])])] (Ex.mk ⟨#[]⟩ (Val.mk 0 0 false ⟨#[]⟩ []) 0 []) 0 0)).f4).v).i), .bool (((((GOp.mk 4 ⟨#[]⟩ (Ty.mk 0 []) [(Ex.mk ⟨#[120]⟩ (Val.mk 0 0 false ⟨#[]⟩ []) 0 []), (Ex.mk ⟨#[97, 100, 100]⟩ (Val.mk 0 0 false ⟨#[]⟩ []) 0 [(Ex.mk ⟨#[120]⟩ (Val.mk 0 0 false ⟨#[]⟩ []) 0 []), (Ex.mk ⟨#[108, 105, 116]⟩ (Val.mk 1 (IntKind.i64.wrap (a1)) false ⟨#[]⟩ []) 0 [])])] (Ex.mk ⟨#[]⟩ (Val.mk 0 0 false ⟨#[]⟩ []) 0 []) 0 0)).f4).v).b), .str (((((GOp.mk 4 ⟨#[]⟩ (Ty.mk 0 []) [(Ex.mk ⟨#[120]⟩ (Val.mk 0 0 false ⟨#[]⟩ []) 0 []), (Ex.mk ⟨#[97, 100, 100]⟩ (Val.mk 0 0 false ⟨#[]⟩ []) 0 [(Ex.mk ⟨#[120]⟩ (Val.mk 0 0 false ⟨#[]⟩ []) 0 []), (Ex.mk ⟨#[108, 105, 116]⟩ (Val.mk 1 (IntKind.i64.wrap (a1)) false ⟨#[]⟩ []) 0 [])])] (Ex.mk ⟨#[]⟩ (Val.mk 0 0 false ⟨#[]⟩ []) 0 []) 0 0)).f4).v).s), .sl .ro 5 (encs (((((GOp.mk 4 ⟨#[]⟩ (Ty.mk 0 []) [(Ex.mk ⟨#[120]⟩ (Val.mk 0 0 false ⟨#[]⟩ []) 0 []), (Ex.mk ⟨#[97, 100, 100]⟩ (Val.mk 0 0 false ⟨#[]⟩ []) 0 [(Ex.mk ⟨#[120]⟩ (Val.mk 0 0 false ⟨#[]⟩ []) 0 []), (Ex.mk ⟨#[108, 105, 116]⟩ (Val.mk 1 (IntKind.i64.wrap (a1)) false ⟨#[]⟩ []) 0 [])])] (Ex.mk ⟨#[]⟩ (Val.mk 0 0 false ⟨#[]⟩ []) 0 []) 0 0)).f4).v).t)), .int .i64 ((((GOp.mk 4 ⟨#[]⟩ (Ty.mk 0 []) [(Ex.mk ⟨#[120]⟩ (Val.mk 0 0 false ⟨#[]⟩ []) 0 []), (Ex.mk ⟨#[97, 100, 100]⟩ (Val.mk 0 0 false ⟨#[]⟩ []) 0 [(Ex.mk ⟨#[120]⟩ (Val.mk 0 0 false ⟨#[]⟩ []) 0 []), (Ex.mk ⟨#[108, 105, 116]⟩ (Val.mk 1 (IntKind.i64.wrap (a1)) false ⟨#[]⟩ []) 0 [])])] (Ex.mk ⟨#[]⟩ (Val.mk 0 0 false ⟨#[]⟩ []) 0 []) 0 0)).f4).n), .sl .ro 8 (enxs ((((GOp.mk 4 ⟨#[]⟩ (Ty.mk 0 []) [(Ex.mk ⟨#[120]⟩ (Val.mk 0 0 false ⟨#[]⟩ []) 0 []), (Ex.mk ⟨#[97, 100, 100]⟩ (Val.mk 0 0 false ⟨#[]⟩ []) 0 [(Ex.mk ⟨#[120]⟩ (Val.mk 0 0 false ⟨#[]⟩ []) 0 []), (Ex.mk ⟨#[108, 105, 116]⟩ (Val.mk 1 (IntKind.i64.wrap (a1)) false ⟨#[]⟩ []) 0 [])])] (Ex.mk ⟨#[]⟩ (Val.mk 0 0 false ⟨#[]⟩ []) 0 []) 0 0)).f4).a)), .int .i64 (((GOp.mk 4 ⟨#[]⟩ (Ty.mk 0 []) [(Ex.mk ⟨#[120]⟩ (Val.mk 0 0 false ⟨#[]⟩ []) 0 []), (Ex.mk ⟨#[97, 100, 100]⟩ (Val.mk 0 0 false ⟨#[]⟩ []) 0 [(Ex.mk ⟨#[120]⟩ (Val.mk 0 0 false ⟨#[]⟩ []) 0 []), (Ex.mk ⟨#[108, 105, 116]⟩ (Val.mk 1 (IntKind.i64.wrap (a1)) false ⟨#[]⟩ []) 0 [])])] (Ex.mk ⟨#[]⟩ (Val.mk 0 0 false ⟨#[]⟩ []) 0 []) 0 0)).f5), .int .i64 (((GOp.mk 4 ⟨#[]⟩ (Ty.mk 0 []) [(Ex.mk ⟨#[120]⟩ (Val.mk 0 0 false ⟨#[]⟩ []) 0 []), (Ex.mk ⟨#[97, 100, 100]⟩ (Val.mk 0 0 false ⟨#[]⟩ []) 0 [(Ex.mk ⟨#[120]⟩ (Val.mk 0 0 false ⟨#[]⟩ []) 0 []), (Ex.mk ⟨#[108, 105, 116]⟩ (Val.mk 1 (IntKind.i64.wrap (a1)) false ⟨#[]⟩ []) 0 [])])] (Ex.mk ⟨#[]⟩ (Val.mk 0 0 false ⟨#[]⟩ []) 0 []) 0 0)).f6)]]) (ob := .row 109 7 (r_st_GInst q5).length) (res := .sl (.own 2) 7 (r_st_GInst q5)) rfl rfl rfl rfl rfl rfl rfl 2 rfl (w_f43 _ _ _ h6 2) ⟨⟨Wv.refl _, Wv.refl _, Wv.refl _, ⟨.inr rfl, trivial, .inr rfl⟩, ⟨.inr rfl, (WvR_enxs ⟨⟨Wv.refl _, Wv.refl _, Wv.refl _, Wv.refl _, Wv.refl _, Wv.refl _, Wv.refl _, Wv.refl _, trivial⟩, ⟨Wv.refl _, Wv.refl _, Wv.refl _, Wv.refl _, Wv.refl _, Wv.refl _, Wv.refl _, Wv.refl _, trivial⟩, trivial⟩), .inl rfl⟩, Wv.refl _, Wv.refl _, Wv.refl _, Wv.refl _, Wv.refl _, ⟨.inr rfl, trivial, .inr rfl⟩, Wv.refl _, ⟨.inr rfl, trivial, .inr rfl⟩, Wv.refl _, Wv.refl _, trivial⟩, trivial⟩ rfl ColN.no ?_
      refine AL.v good (d := 7) (v := .sl (.own 2) 7 (r_st_GInst q5)) rfl rfl rfl rfl ?_
      refine AW.seq ?_
      refine AW.region (M := fun _ => true) ?_
      refine AL.cw good (d := 36) (xs := []) (res := .agg [.str ⟨#[120]⟩, .int .i64 0, .int .i64 0, .bool false, .str ⟨#[]⟩, .sl .ro 5 (encs []), .int .i64 0, .sl .ro 8 (enxs [])]) rfl rfl rfl rfl rfl rfl rfl (w_f29) trivial (by simp [pureA, pureL, pureR, inA, inL, inR, inO, idsIn, encs_pure, enxs_pure, enys_pure, valC_pure, exC_pure, tyC_pure, r_int_u8_pure, r_st_GInst_pure, r_sl_st_GInst_pure, r_st_GMiss_pure, r_int_i8_pure]) ?_
      refine AL.v good (d := 37) (v := .int .i8 a2) rfl rfl rfl rfl ?_
      refine AL.v good (d := 38) (v := .int .i64 (IntKind.i64.wrap (a2))) rfl rfl rfl rfl ?_
      refine AL.cw good (d := 39) (xs := [.int .i64 (IntKind.i64.wrap (a2))]) (res := .agg [.int .i64 1, .int .i64 (IntKind.i64.wrap (a2)), .bool false, .str ⟨#[]⟩, .sl .ro 5 (encs [])]) rfl rfl rfl rfl rfl rfl rfl (w_f28 (IntKind.i64.wrap (a2))) ⟨(Wv.refl _), trivial⟩ (by simp [pureA, pureL, pureR, inA, inL, inR, inO, idsIn, encs_pure, enxs_pure, enys_pure, valC_pure, exC_pure, tyC_pure, r_int_u8_pure, r_st_GInst_pure, r_sl_st_GInst_pure, r_st_GMiss_pure, r_int_i8_pure]) ?_
      refine AL.cw good (d := 40) (xs := [.agg (valC (Val.mk 1 (IntKind.i64.wrap (a2)) false ⟨#[]⟩ []))]) (res := .agg [.str ⟨#[108, 105, 116]⟩, .int .i64 1, .int .i64 (IntKind.i64.wrap (a2)), .bool false, .str ⟨#[]⟩, .sl .ro 5 (encs []), .int .i64 0, .sl .ro 8 (enxs [])]) rfl rfl rfl rfl rfl rfl rfl (w_f31 (Val.mk 1 (IntKind.i64.wrap (a2)) false ⟨#[]⟩ [])) ⟨(Wv.refl _), trivial⟩ (by simp [pureA, pureL, pureR, inA, inL, inR, inO, idsIn, encs_pure, enxs_pure, enys_pure, valC_pure, exC_pure, tyC_pure, r_int_u8_pure, r_st_GInst_pure, r_sl_st_GInst_pure, r_st_GMiss_pure, r_int_i8_pure]) ?_
      refine AL.lit good (d := 41) (rows := [[.str ⟨#[120]⟩, .int .i64 0, .int .i64 0, .bool false, .str ⟨#[]⟩, .sl .ro 5 (encs []), .int .i64 0, .sl .ro 8 (enxs [])], [.str ⟨#[108, 105, 116]⟩, .int .i64 1, .int .i64 (IntKind.i64.wrap (a2)), .bool false, .str ⟨#[]⟩, .sl .ro 5 (encs []), .int .i64 0, .sl .ro 8 (enxs [])]]) rfl rfl rfl rfl rfl rfl rfl rfl rfl 3 rfl ?_
      refine AL.cw good (d := 42) (xs := [.str ⟨#[108, 116]⟩, .sl .ro 8 (enxs [(Ex.mk ⟨#[120]⟩ (Val.mk 0 0 false ⟨#[]⟩ []) 0 []), (Ex.mk ⟨#[108, 105, 116]⟩ (Val.mk 1 (IntKind.i64.wrap (a2)) false ⟨#[]⟩ []) 0 [])])]) (res := .agg [.str ⟨#[108, 116]⟩, .int .i64 0, .int .i64 0, .bool false, .str ⟨#[]⟩, .sl .ro 5 (encs []), .int .i64 0, .sl .ro 8 (enxs [(Ex.mk ⟨#[120]⟩ (Val.mk 0 0 false ⟨#[]⟩ []) 0 []), (Ex.mk ⟨#[108, 105, 116]⟩ (Val.mk 1 (IntKind.i64.wrap (a2)) false ⟨#[]⟩ []) 0 [])])]) rfl rfl rfl rfl rfl rfl rfl (w_f30 ⟨#[108, 116]⟩ [(Ex.mk ⟨#[120]⟩ (Val.mk 0 0 false ⟨#[]⟩ []) 0 []), (Ex.mk ⟨#[108, 105, 116]⟩ (Val.mk 1 (IntKind.i64.wrap (a2)) false ⟨#[]⟩ []) 0 [])]) ⟨(Wv.refl _), ⟨.inr rfl, (WvR_enxs ⟨⟨Wv.refl _, Wv.refl _, Wv.refl _, Wv.refl _, Wv.refl _, Wv.refl _, Wv.refl _, Wv.refl _, trivial⟩, ⟨Wv.refl _, Wv.refl _, Wv.refl _, Wv.refl _, Wv.refl _, Wv.refl _, Wv.refl _, Wv.refl _, trivial⟩, trivial⟩), .inl rfl⟩, trivial⟩ (by simp [pureA, pureL, pureR, inA, inL, inR, inO, idsIn, encs_pure, enxs_pure, enys_pure, valC_pure, exC_pure, tyC_pure, r_int_u8_pure, r_st_GInst_pure, r_sl_st_GInst_pure, r_st_GMiss_pure, r_int_i8_pure]) ?_
      refine AL.lit good (d := 43) (rows := [[.str ⟨#[108, 116]⟩, .int .i64 0, .int .i64 0, .bool false, .str ⟨#[]⟩, .sl .ro 5 (encs []), .int .i64 0, .sl .ro 8 (enxs [(Ex.mk ⟨#[120]⟩ (Val.mk 0 0 false ⟨#[]⟩ []) 0 []), (Ex.mk ⟨#[108, 105, 116]⟩ (Val.mk 1 (IntKind.i64.wrap (a2)) false ⟨#[]⟩ []) 0 [])])]]) rfl rfl rfl rfl rfl rfl rfl rfl rfl 4 rfl ?_
      refine AL.bld good (d := 44) (l := [.int .i64 3, .str ⟨#[]⟩, .int .i64 0, .sl .nil 0 [], .sl (.own 4) 8 [[.str ⟨#[108, 116]⟩, .int .i64 0, .int .i64 0, .bool false, .str ⟨#[]⟩, .sl .ro 5 (encs []), .int .i64 0, .sl .ro 8 (enxs [(Ex.mk ⟨#[120]⟩ (Val.mk 0 0 false ⟨#[]⟩ []) 0 []), (Ex.mk ⟨#[108, 105, 116]⟩ (Val.mk 1 (IntKind.i64.wrap (a2)) false ⟨#[]⟩ []) 0 [])])]], .str ⟨#[]⟩, .int .i64 0, .int .i64 0, .bool false, .str ⟨#[]⟩, .sl .nil 0 [], .int .i64 0, .sl .nil 0 [], .int .i64 0, .int .i64 0]) rfl rfl rfl rfl rfl rfl rfl ?_
      obtain ⟨q7, h8, hr⟩ := bnd1 hr
      refine AL.clF good (d := 45) (xs := [.agg [.int .i64 (((GOp.mk 3 ⟨#[]⟩ (Ty.mk 0 []) [(Ex.mk ⟨#[108, 116]⟩ (Val.mk 0 0 false ⟨#[]⟩ []) 0 [(Ex.mk ⟨#[120]⟩ (Val.mk 0 0 false ⟨#[]⟩ []) 0 []), (Ex.mk ⟨#[108, 105, 116]⟩ (Val.mk 1 (IntKind.i64.wrap (a2)) false ⟨#[]⟩ []) 0 [])])] (Ex.mk ⟨#[]⟩ (Val.mk 0 0 false ⟨#[]⟩ []) 0 []) 0 0)).f0), .str (((GOp.mk 3 ⟨#[]⟩ (Ty.mk 0 []) [(Ex.mk ⟨#[108, 116]⟩ (Val.mk 0 0 false ⟨#[]⟩ []) 0 [(Ex.mk ⟨#[120]⟩ (Val.mk 0 0 false ⟨#[]⟩ []) 0 []), (Ex.mk ⟨#[108, 105, 116]⟩ (Val.mk 1 (IntKind.i64.wrap (a2)) false ⟨#[]⟩ []) 0 [])])] (Ex.mk ⟨#[]⟩ (Val.mk 0 0 false ⟨#[]⟩ []) 0 []) 0 0)).f1), .int .i64 ((((GOp.mk 3 ⟨#[]⟩ (Ty.mk 0 []) [(Ex.mk ⟨#[108, 116]⟩ (Val.mk 0 0 false ⟨#[]⟩ []) 0 [(Ex.mk ⟨#[120]⟩ (Val.mk 0 0 false ⟨#[]⟩ []) 0 []), (Ex.mk ⟨#[108, 105, 116]⟩ (Val.mk 1 (IntKind.i64.wrap (a2)) false ⟨#[]⟩ []) 0 [])])] (Ex.mk ⟨#[]⟩ (Val.mk 0 0 false ⟨#[]⟩ []) 0 []) 0 0)).f2).kind), .sl .ro 2 (enys ((((GOp.mk 3 ⟨#[]⟩ (Ty.mk 0 []) [(Ex.mk ⟨#[108, 116]⟩ (Val.mk 0 0 false ⟨#[]⟩ []) 0 [(Ex.mk ⟨#[120]⟩ (Val.mk 0 0 false ⟨#[]⟩ []) 0 []), (Ex.mk ⟨#[108, 105, 116]⟩ (Val.mk 1 (IntKind.i64.wrap (a2)) false ⟨#[]⟩ []) 0 [])])] (Ex.mk ⟨#[]⟩ (Val.mk 0 0 false ⟨#[]⟩ []) 0 []) 0 0)).f2).of)), .sl .ro 8 (enxs (((GOp.mk 3 ⟨#[]⟩ (Ty.mk 0 []) [(Ex.mk ⟨#[108, 116]⟩ (Val.mk 0 0 false ⟨#[]⟩ []) 0 [(Ex.mk ⟨#[120]⟩ (Val.mk 0 0 false ⟨#[]⟩ []) 0 []), (Ex.mk ⟨#[108, 105, 116]⟩ (Val.mk 1 (IntKind.i64.wrap (a2)) false ⟨#[]⟩ []) 0 [])])] (Ex.mk ⟨#[]⟩ (Val.mk 0 0 false ⟨#[]⟩ []) 0 []) 0 0)).f3)), .str ((((GOp.mk 3 ⟨#[]⟩ (Ty.mk 0 []) [(Ex.mk ⟨#[108, 116]⟩ (Val.mk 0 0 false ⟨#[]⟩ []) 0 [(Ex.mk ⟨#[120]⟩ (Val.mk 0 0 false ⟨#[]⟩ []) 0 []), (Ex.mk ⟨#[108, 105, 116]⟩ (Val.mk 1 (IntKind.i64.wrap (a2)) false ⟨#[]⟩ []) 0 [])])] (Ex.mk ⟨#[]⟩ (Val.mk 0 0 false ⟨#[]⟩ []) 0 []) 0 0)).f4).op), .int .i64 (((((GOp.mk 3 ⟨#[]⟩ (Ty.mk 0 []) [(Ex.mk ⟨#[108, 116]⟩ (Val.mk 0 0 false ⟨#[]⟩ []) 0 [(Ex.mk ⟨#[120]⟩ (Val.mk 0 0 false ⟨#[]⟩ []) 0 []), (Ex.mk ⟨#[108, 105, 116]⟩ (Val.mk 1 (IntKind.i64.wrap (a2)) false ⟨#[]⟩ []) 0 [])])] (Ex.mk ⟨#[]⟩ (Val.mk 0 0 false ⟨#[]⟩ []) 0 []) 0 0)).f4).v).kind), .int .i64 (((((GOp.mk 3 ⟨#[]⟩ (Ty.mk 0 []) [(Ex.mk ⟨#[108, 116]⟩ (Val.mk 0 0 false ⟨#[]⟩ []) 0 [(Ex.mk ⟨#[120]⟩ (Val.mk 0 0 false ⟨#[]⟩ []) 0 []), (Ex.mk ⟨#[108, 105, 116]⟩ (Val.mk 1 (IntKind.i64.wrap (a2)) false ⟨#[]⟩ []) 0 [])])] (Ex.mk ⟨#[]⟩ (Val.mk 0 0 false ⟨#[]⟩ []) 0 []) 0 0)).f4).v).i), .bool (((((GOp.mk 3 ⟨#[]⟩ (Ty.mk 0 []) [(Ex.mk ⟨#[108, 116]⟩ (Val.mk 0 0 false ⟨#[]⟩ []) 0 [(Ex.mk ⟨#[120]⟩ (Val.mk 0 0 false ⟨#[]⟩ []) 0 []), (Ex.mk ⟨#[108, 105, 116]⟩ (Val.mk 1 (IntKind.i64.wrap (a2)) false ⟨#[]⟩ []) 0 [])])] (Ex.mk ⟨#[]⟩ (Val.mk 0 0 false ⟨#[]⟩ []) 0 []) 0 0)).f4).v).b), .str (((((GOp.mk 3 ⟨#[]⟩ (Ty.mk 0 []) [(Ex.mk ⟨#[108, 116]⟩ (Val.mk 0 0 false ⟨#[]⟩ []) 0 [(Ex.mk ⟨#[120]⟩ (Val.mk 0 0 false ⟨#[]⟩ []) 0 []), (Ex.mk ⟨#[108, 105, 116]⟩ (Val.mk 1 (IntKind.i64.wrap (a2)) false ⟨#[]⟩ []) 0 [])])] (Ex.mk ⟨#[]⟩ (Val.mk 0 0 false ⟨#[]⟩ []) 0 []) 0 0)).f4).v).s), .sl .ro 5 (encs (((((GOp.mk 3 ⟨#[]⟩ (Ty.mk 0 []) [(Ex.mk ⟨#[108, 116]⟩ (Val.mk 0 0 false ⟨#[]⟩ []) 0 [(Ex.mk ⟨#[120]⟩ (Val.mk 0 0 false ⟨#[]⟩ []) 0 []), (Ex.mk ⟨#[108, 105, 116]⟩ (Val.mk 1 (IntKind.i64.wrap (a2)) false ⟨#[]⟩ []) 0 [])])] (Ex.mk ⟨#[]⟩ (Val.mk 0 0 false ⟨#[]⟩ []) 0 []) 0 0)).f4).v).t)), .int .i64 ((((GOp.mk 3 ⟨#[]⟩ (Ty.mk 0 []) [(Ex.mk ⟨#[108, 116]⟩ (Val.mk 0 0 false ⟨#[]⟩ []) 0 [(Ex.mk ⟨#[120]⟩ (Val.mk 0 0 false ⟨#[]⟩ []) 0 []), (Ex.mk ⟨#[108, 105, 116]⟩ (Val.mk 1 (IntKind.i64.wrap (a2)) false ⟨#[]⟩ []) 0 [])])] (Ex.mk ⟨#[]⟩ (Val.mk 0 0 false ⟨#[]⟩ []) 0 []) 0 0)).f4).n), .sl .ro 8 (enxs ((((GOp.mk 3 ⟨#[]⟩ (Ty.mk 0 []) [(Ex.mk ⟨#[108, 116]⟩ (Val.mk 0 0 false ⟨#[]⟩ []) 0 [(Ex.mk ⟨#[120]⟩ (Val.mk 0 0 false ⟨#[]⟩ []) 0 []), (Ex.mk ⟨#[108, 105, 116]⟩ (Val.mk 1 (IntKind.i64.wrap (a2)) false ⟨#[]⟩ []) 0 [])])] (Ex.mk ⟨#[]⟩ (Val.mk 0 0 false ⟨#[]⟩ []) 0 []) 0 0)).f4).a)), .int .i64 (((GOp.mk 3 ⟨#[]⟩ (Ty.mk 0 []) [(Ex.mk ⟨#[108, 116]⟩ (Val.mk 0 0 false ⟨#[]⟩ []) 0 [(Ex.mk ⟨#[120]⟩ (Val.mk 0 0 false ⟨#[]⟩ []) 0 []), (Ex.mk ⟨#[108, 105, 116]⟩ (Val.mk 1 (IntKind.i64.wrap (a2)) false ⟨#[]⟩ []) 0 [])])] (Ex.mk ⟨#[]⟩ (Val.mk 0 0 false ⟨#[]⟩ []) 0 []) 0 0)).f5), .int .i64 (((GOp.mk 3 ⟨#[]⟩ (Ty.mk 0 []) [(Ex.mk ⟨#[108, 116]⟩ (Val.mk 0 0 false ⟨#[]⟩ []) 0 [(Ex.mk ⟨#[120]⟩ (Val.mk 0 0 false ⟨#[]⟩ []) 0 []), (Ex.mk ⟨#[108, 105, 116]⟩ (Val.mk 1 (IntKind.i64.wrap (a2)) false ⟨#[]⟩ []) 0 [])])] (Ex.mk ⟨#[]⟩ (Val.mk 0 0 false ⟨#[]⟩ []) 0 []) 0 0)).f6)]]) (ob := .row 109 7 (r_st_GInst q7).length) (res := .sl (.own 5) 7 (r_st_GInst q7)) rfl rfl rfl rfl rfl rfl rfl 5 rfl (w_f43 _ _ _ h8 5) ⟨⟨Wv.refl _, Wv.refl _, Wv.refl _, ⟨.inr rfl, trivial, .inr rfl⟩, ⟨.inr rfl, (WvR_enxs ⟨⟨Wv.refl _, Wv.refl _, Wv.refl _, Wv.refl _, Wv.refl _, Wv.refl _, Wv.refl _, Wv.refl _, trivial⟩, trivial⟩), .inl rfl⟩, Wv.refl _, Wv.refl _, Wv.refl _, Wv.refl _, Wv.refl _, ⟨.inr rfl, trivial, .inr rfl⟩, Wv.refl _, ⟨.inr rfl, trivial, .inr rfl⟩, Wv.refl _, Wv.refl _, trivial⟩, trivial⟩ rfl ColN.no ?_
      refine AL.v good (d := 8) (v := .sl (.own 5) 7 (r_st_GInst q7)) rfl rfl rfl rfl ?_
      refine AW.seq ?_
      refine AW.region (M := fun _ => true) ?_
      refine AL.cw good (d := 46) (xs := [.int .i64 1000]) (res := .agg [.int .i64 1, .int .i64 1000, .bool false, .str ⟨#[]⟩, .sl .ro 5 (encs [])]) rfl rfl rfl rfl rfl rfl rfl (w_f28 1000) ⟨(Wv.refl _), trivial⟩ (by simp [pureA, pureL, pureR, inA, inL, inR, inO, idsIn, encs_pure, enxs_pure, enys_pure, valC_pure, exC_pure, tyC_pure, r_int_u8_pure, r_st_GInst_pure, r_sl_st_GInst_pure, r_st_GMiss_pure, r_int_i8_pure]) ?_
      refine AL.cw good (d := 47) (xs := [.agg (valC (Val.mk 1 1000 false ⟨#[]⟩ []))]) (res := .agg [.str ⟨#[108, 105, 116]⟩, .int .i64 1, .int .i64 1000, .bool false, .str ⟨#[]⟩, .sl .ro 5 (encs []), .int .i64 0, .sl .ro 8 (enxs [])]) rfl rfl rfl rfl rfl rfl rfl (w_f31 (Val.mk 1 1000 false ⟨#[]⟩ [])) ⟨(Wv.refl _), trivial⟩ (by simp [pureA, pureL, pureR, inA, inL, inR, inO, idsIn, encs_pure, enxs_pure, enys_pure, valC_pure, exC_pure, tyC_pure, r_int_u8_pure, r_st_GInst_pure, r_sl_st_GInst_pure, r_st_GMiss_pure, r_int_i8_pure]) ?_
      refine AL.cw good (d := 48) (xs := []) (res := .agg [.str ⟨#[120]⟩, .int .i64 0, .int .i64 0, .bool false, .str ⟨#[]⟩, .sl .ro 5 (encs []), .int .i64 0, .sl .ro 8 (enxs [])]) rfl rfl rfl rfl rfl rfl rfl (w_f29) trivial (by simp [pureA, pureL, pureR, inA, inL, inR, inO, idsIn, encs_pure, enxs_pure, enys_pure, valC_pure, exC_pure, tyC_pure, r_int_u8_pure, r_st_GInst_pure, r_sl_st_GInst_pure, r_st_GMiss_pure, r_int_i8_pure]) ?_
      refine AL.lit good (d := 49) (rows := [[.str ⟨#[108, 105, 116]⟩, .int .i64 1, .int .i64 1000, .bool false, .str ⟨#[]⟩, .sl .ro 5 (encs []), .int .i64 0, .sl .ro 8 (enxs [])], [.str ⟨#[120]⟩, .int .i64 0, .int .i64 0, .bool false, .str ⟨#[]⟩, .sl .ro 5 (encs []), .int .i64 0, .sl .ro 8 (enxs [])]]) rfl rfl rfl rfl rfl rfl rfl rfl rfl 6 rfl ?_
      refine AL.cw good (d := 50) (xs := [.str ⟨#[100, 105, 118]⟩, .sl .ro 8 (enxs [(Ex.mk ⟨#[108, 105, 116]⟩ (Val.mk 1 1000 false ⟨#[]⟩ []) 0 []), (Ex.mk ⟨#[120]⟩ (Val.mk 0 0 false ⟨#[]⟩ []) 0 [])])]) (res := .agg [.str ⟨#[100, 105, 118]⟩, .int .i64 0, .int .i64 0, .bool false, .str ⟨#[]⟩, .sl .ro 5 (encs []), .int .i64 0, .sl .ro 8 (enxs [(Ex.mk ⟨#[108, 105, 116]⟩ (Val.mk 1 1000 false ⟨#[]⟩ []) 0 []), (Ex.mk ⟨#[120]⟩ (Val.mk 0 0 false ⟨#[]⟩ []) 0 [])])]) rfl rfl rfl rfl rfl rfl rfl (w_f30 ⟨#[100, 105, 118]⟩ [(Ex.mk ⟨#[108, 105, 116]⟩ (Val.mk 1 1000 false ⟨#[]⟩ []) 0 []), (Ex.mk ⟨#[120]⟩ (Val.mk 0 0 false ⟨#[]⟩ []) 0 [])]) ⟨(Wv.refl _), ⟨.inr rfl, (WvR_enxs ⟨⟨Wv.refl _, Wv.refl _, Wv.refl _, Wv.refl _, Wv.refl _, Wv.refl _, Wv.refl _, Wv.refl _, trivial⟩, ⟨Wv.refl _, Wv.refl _, Wv.refl _, Wv.refl _, Wv.refl _, Wv.refl _, Wv.refl _, Wv.refl _, trivial⟩, trivial⟩), .inl rfl⟩, trivial⟩ (by simp [pureA, pureL, pureR, inA, inL, inR, inO, idsIn, encs_pure, enxs_pure, enys_pure, valC_pure, exC_pure, tyC_pure, r_int_u8_pure, r_st_GInst_pure, r_sl_st_GInst_pure, r_st_GMiss_pure, r_int_i8_pure]) ?_
      refine AL.lit good (d := 51) (rows := [[.str ⟨#[100, 105, 118]⟩, .int .i64 0, .int .i64 0, .bool false, .str ⟨#[]⟩, .sl .ro 5 (encs []), .int .i64 0, .sl .ro 8 (enxs [(Ex.mk ⟨#[108, 105, 116]⟩ (Val.mk 1 1000 false ⟨#[]⟩ []) 0 []), (Ex.mk ⟨#[120]⟩ (Val.mk 0 0 false ⟨#[]⟩ []) 0 [])])]]) rfl rfl rfl rfl rfl rfl rfl rfl rfl 7 rfl ?_
      refine AL.bld good (d := 52) (l := [.int .i64 2, .str ⟨#[]⟩, .int .i64 0, .sl .nil 0 [], .sl (.own 7) 8 [[.str ⟨#[100, 105, 118]⟩, .int .i64 0, .int .i64 0, .bool false, .str ⟨#[]⟩, .sl .ro 5 (encs []), .int .i64 0, .sl .ro 8 (enxs [(Ex.mk ⟨#[108, 105, 116]⟩ (Val.mk 1 1000 false ⟨#[]⟩ []) 0 []), (Ex.mk ⟨#[120]⟩ (Val.mk 0 0 false ⟨#[]⟩ []) 0 [])])]], .str ⟨#[]⟩, .int .i64 0, .int .i64 0, .bool false, .str ⟨#[]⟩, .sl .nil 0 [], .int .i64 0, .sl .nil 0 [], .int .i64 0, .int .i64 0]) rfl rfl rfl rfl rfl rfl rfl ?_
      obtain ⟨q9, h10, hr⟩ := bnd1 hr
      refine AL.clF good (d := 53) (xs := [.agg [.int .i64 (((GOp.mk 2 ⟨#[]⟩ (Ty.mk 0 []) [(Ex.mk ⟨#[100, 105, 118]⟩ (Val.mk 0 0 false ⟨#[]⟩ []) 0 [(Ex.mk ⟨#[108, 105, 116]⟩ (Val.mk 1 1000 false ⟨#[]⟩ []) 0 []), (Ex.mk ⟨#[120]⟩ (Val.mk 0 0 false ⟨#[]⟩ []) 0 [])])] (Ex.mk ⟨#[]⟩ (Val.mk 0 0 false ⟨#[]⟩ []) 0 []) 0 0)).f0), .str (((GOp.mk 2 ⟨#[]⟩ (Ty.mk 0 []) [(Ex.mk ⟨#[100, 105, 118]⟩ (Val.mk 0 0 false ⟨#[]⟩ []) 0 [(Ex.mk ⟨#[108, 105, 116]⟩ (Val.mk 1 1000 false ⟨#[]⟩ []) 0 []), (Ex.mk ⟨#[120]⟩ (Val.mk 0 0 false ⟨#[]⟩ []) 0 [])])] (Ex.mk ⟨#[]⟩ (Val.mk 0 0 false ⟨#[]⟩ []) 0 []) 0 0)).f1), .int .i64 ((((GOp.mk 2 ⟨#[]⟩ (Ty.mk 0 []) [(Ex.mk ⟨#[100, 105, 118]⟩ (Val.mk 0 0 false ⟨#[]⟩ []) 0 [(Ex.mk ⟨#[108, 105, 116]⟩ (Val.mk 1 1000 false ⟨#[]⟩ []) 0 []), (Ex.mk ⟨#[120]⟩ (Val.mk 0 0 false ⟨#[]⟩ []) 0 [])])] (Ex.mk ⟨#[]⟩ (Val.mk 0 0 false ⟨#[]⟩ []) 0 []) 0 0)).f2).kind), .sl .ro 2 (enys ((((GOp.mk 2 ⟨#[]⟩ (Ty.mk 0 []) [(Ex.mk ⟨#[100, 105, 118]⟩ (Val.mk 0 0 false ⟨#[]⟩ []) 0 [(Ex.mk ⟨#[108, 105, 116]⟩ (Val.mk 1 1000 false ⟨#[]⟩ []) 0 []), (Ex.mk ⟨#[120]⟩ (Val.mk 0 0 false ⟨#[]⟩ []) 0 [])])] (Ex.mk ⟨#[]⟩ (Val.mk 0 0 false ⟨#[]⟩ []) 0 []) 0 0)).f2).of)), .sl .ro 8 (enxs (((GOp.mk 2 ⟨#[]⟩ (Ty.mk 0 []) [(Ex.mk ⟨#[100, 105, 118]⟩ (Val.mk 0 0 false ⟨#[]⟩ []) 0 [(Ex.mk ⟨#[108, 105, 116]⟩ (Val.mk 1 1000 false ⟨#[]⟩ []) 0 []), (Ex.mk ⟨#[120]⟩ (Val.mk 0 0 false ⟨#[]⟩ []) 0 [])])] (Ex.mk ⟨#[]⟩ (Val.mk 0 0 false ⟨#[]⟩ []) 0 []) 0 0)).f3)), .str ((((GOp.mk 2 ⟨#[]⟩ (Ty.mk 0 []) [(Ex.mk ⟨#[100, 105, 118]⟩ (Val.mk 0 0 false ⟨#[]⟩ []) 0 [(Ex.mk ⟨#[108, 105, 116]⟩ (Val.mk 1 1000 false ⟨#[]⟩ []) 0 []), (Ex.mk ⟨#[120]⟩ (Val.mk 0 0 false ⟨#[]⟩ []) 0 [])])] (Ex.mk ⟨#[]⟩ (Val.mk 0 0 false ⟨#[]⟩ []) 0 []) 0 0)).f4).op), .int .i64 (((((GOp.mk 2 ⟨#[]⟩ (Ty.mk 0 []) [(Ex.mk ⟨#[100, 105, 118]⟩ (Val.mk 0 0 false ⟨#[]⟩ []) 0 [(Ex.mk ⟨#[108, 105, 116]⟩ (Val.mk 1 1000 false ⟨#[]⟩ []) 0 []), (Ex.mk ⟨#[120]⟩ (Val.mk 0 0 false ⟨#[]⟩ []) 0 [])])] (Ex.mk ⟨#[]⟩ (Val.mk 0 0 false ⟨#[]⟩ []) 0 []) 0 0)).f4).v).kind), .int .i64 (((((GOp.mk 2 ⟨#[]⟩ (Ty.mk 0 []) [(Ex.mk ⟨#[100, 105, 118]⟩ (Val.mk 0 0 false ⟨#[]⟩ []) 0 [(Ex.mk ⟨#[108, 105, 116]⟩ (Val.mk 1 1000 false ⟨#[]⟩ []) 0 []), (Ex.mk ⟨#[120]⟩ (Val.mk 0 0 false ⟨#[]⟩ []) 0 [])])] (Ex.mk ⟨#[]⟩ (Val.mk 0 0 false ⟨#[]⟩ []) 0 []) 0 0)).f4).v).i), .bool (((((GOp.mk 2 ⟨#[]⟩ (Ty.mk 0 []) [(Ex.mk ⟨#[100, 105, 118]⟩ (Val.mk 0 0 false ⟨#[]⟩ []) 0 [(Ex.mk ⟨#[108, 105, 116]⟩ (Val.mk 1 1000 false ⟨#[]⟩ []) 0 []), (Ex.mk ⟨#[120]⟩ (Val.mk 0 0 false ⟨#[]⟩ []) 0 [])])] (Ex.mk ⟨#[]⟩ (Val.mk 0 0 false ⟨#[]⟩ []) 0 []) 0 0)).f4).v).b), .str (((((GOp.mk 2 ⟨#[]⟩ (Ty.mk 0 []) [(Ex.mk ⟨#[100, 105, 118]⟩ (Val.mk 0 0 false ⟨#[]⟩ []) 0 [(Ex.mk ⟨#[108, 105, 116]⟩ (Val.mk 1 1000 false ⟨#[]⟩ []) 0 []), (Ex.mk ⟨#[120]⟩ (Val.mk 0 0 false ⟨#[]⟩ []) 0 [])])] (Ex.mk ⟨#[]⟩ (Val.mk 0 0 false ⟨#[]⟩ []) 0 []) 0 0)).f4).v).s), .sl .ro 5 (encs (((((GOp.mk 2 ⟨#[]⟩ (Ty.mk 0 []) [(Ex.mk ⟨#[100, 105, 118]⟩ (Val.mk 0 0 false ⟨#[]⟩ []) 0 [(Ex.mk ⟨#[108, 105, 116]⟩ (Val.mk 1 1000 false ⟨#[]⟩ []) 0 []), (Ex.mk ⟨#[120]⟩ (Val.mk 0 0 false ⟨#[]⟩ []) 0 [])])] (Ex.mk ⟨#[]⟩ (Val.mk 0 0 false ⟨#[]⟩ []) 0 []) 0 0)).f4).v).t)), .int .i64 ((((GOp.mk 2 ⟨#[]⟩ (Ty.mk 0 []) [(Ex.mk ⟨#[100, 105, 118]⟩ (Val.mk 0 0 false ⟨#[]⟩ []) 0 [(Ex.mk ⟨#[108, 105, 116]⟩ (Val.mk 1 1000 false ⟨#[]⟩ []) 0 []), (Ex.mk ⟨#[120]⟩ (Val.mk 0 0 false ⟨#[]⟩ []) 0 [])])] (Ex.mk ⟨#[]⟩ (Val.mk 0 0 false ⟨#[]⟩ []) 0 []) 0 0)).f4).n), .sl .ro 8 (enxs ((((GOp.mk 2 ⟨#[]⟩ (Ty.mk 0 []) [(Ex.mk ⟨#[100, 105, 118]⟩ (Val.mk 0 0 false ⟨#[]⟩ []) 0 [(Ex.mk ⟨#[108, 105, 116]⟩ (Val.mk 1 1000 false ⟨#[]⟩ []) 0 []), (Ex.mk ⟨#[120]⟩ (Val.mk 0 0 false ⟨#[]⟩ []) 0 [])])] (Ex.mk ⟨#[]⟩ (Val.mk 0 0 false ⟨#[]⟩ []) 0 []) 0 0)).f4).a)), .int .i64 (((GOp.mk 2 ⟨#[]⟩ (Ty.mk 0 []) [(Ex.mk ⟨#[100, 105, 118]⟩ (Val.mk 0 0 false ⟨#[]⟩ []) 0 [(Ex.mk ⟨#[108, 105, 116]⟩ (Val.mk 1 1000 false ⟨#[]⟩ []) 0 []), (Ex.mk ⟨#[120]⟩ (Val.mk 0 0 false ⟨#[]⟩ []) 0 [])])] (Ex.mk ⟨#[]⟩ (Val.mk 0 0 false ⟨#[]⟩ []) 0 []) 0 0)).f5), .int .i64 (((GOp.mk 2 ⟨#[]⟩ (Ty.mk 0 []) [(Ex.mk ⟨#[100, 105, 118]⟩ (Val.mk 0 0 false ⟨#[]⟩ []) 0 [(Ex.mk ⟨#[108, 105, 116]⟩ (Val.mk 1 1000 false ⟨#[]⟩ []) 0 []), (Ex.mk ⟨#[120]⟩ (Val.mk 0 0 false ⟨#[]⟩ []) 0 [])])] (Ex.mk ⟨#[]⟩ (Val.mk 0 0 false ⟨#[]⟩ []) 0 []) 0 0)).f6)]]) (ob := .row 109 7 (r_st_GInst q9).length) (res := .sl (.own 8) 7 (r_st_GInst q9)) rfl rfl rfl rfl rfl rfl rfl 8 rfl (w_f43 _ _ _ h10 8) ⟨⟨Wv.refl _, Wv.refl _, Wv.refl _, ⟨.inr rfl, trivial, .inr rfl⟩, ⟨.inr rfl, (WvR_enxs ⟨⟨Wv.refl _, Wv.refl _, Wv.refl _, Wv.refl _, Wv.refl _, Wv.refl _, Wv.refl _, Wv.refl _, trivial⟩, trivial⟩), .inl rfl⟩, Wv.refl _, Wv.refl _, Wv.refl _, Wv.refl _, Wv.refl _, ⟨.inr rfl, trivial, .inr rfl⟩, Wv.refl _, ⟨.inr rfl, trivial, .inr rfl⟩, Wv.refl _, Wv.refl _, trivial⟩, trivial⟩ rfl ColN.no ?_
      refine AL.v good (d := 9) (v := .sl (.own 8) 7 (r_st_GInst q9)) rfl rfl rfl rfl ?_
      refine AW.seq ?_
      refine AW.seq ?_
      refine AW.region (M := fun _ => true) ?_
      refine AL.v good (d := 10) (v := .int .i64 0) rfl rfl rfl rfl ?_
      refine AW.block ?_
      refine AW.lens 0 rfl (fun hl69 => ?_)
      replace hl69 : a0.length ≤ 9223372036854775807 := by rw [← r_int_i8_length a0]; exact hl69
      refine AW.lpw (fun x : Nat × Nat => [(0, .sl .ro 1 (r_int_i8 a0)), (1, .int .i8 a1), (2, .int .i8 a2), (7, .sl (.own 2) 7 (r_st_GInst q5)), (8, .sl (.own 5) 7 (r_st_GInst q7)), (9, .sl (.own 8) 7 (r_st_GInst q9)), (10, .int .i64 (x.2 : Int))]) (fun x => [(2, .row 109 7 (r_st_GInst q5).length), (5, .row 109 7 (r_st_GInst q7).length), (8, .row 109 7 (r_st_GInst q9).length)]) (fun x => s_f9_l1 x.1 a0 a1 a2 q1 q5 q7 q9 x.2 = some r ∧ x.1 ≤ n) (fun x => x.1) (n, 0) ⟨(fun _ h => by cases h), List.forall_mem_cons.2 ⟨⟨⟨_, rfl, Wv.refl _⟩, (by simp [pureA, pureL, pureR, inA, inL, inR, inO, idsIn, encs_pure, enxs_pure, enys_pure, valC_pure, exC_pure, tyC_pure, r_int_u8_pure, r_st_GInst_pure, r_sl_st_GInst_pure, r_st_GMiss_pure, r_int_i8_pure, r_int_i64_pure])⟩, List.forall_mem_cons.2 ⟨⟨⟨_, rfl, Wv.refl _⟩, (by simp [pureA, pureL, pureR, inA, inL, inR, inO, idsIn, encs_pure, enxs_pure, enys_pure, valC_pure, exC_pure, tyC_pure, r_int_u8_pure, r_st_GInst_pure, r_sl_st_GInst_pure, r_st_GMiss_pure, r_int_i8_pure, r_int_i64_pure])⟩, List.forall_mem_cons.2 ⟨⟨⟨_, rfl, Wv.refl _⟩, (by simp [pureA, pureL, pureR, inA, inL, inR, inO, idsIn, encs_pure, enxs_pure, enys_pure, valC_pure, exC_pure, tyC_pure, r_int_u8_pure, r_st_GInst_pure, r_sl_st_GInst_pure, r_st_GMiss_pure, r_int_i8_pure, r_int_i64_pure])⟩, List.forall_mem_cons.2 ⟨⟨⟨_, rfl, Wv.refl _⟩, (by simp [pureA, pureL, pureR, inA, inL, inR, inO, idsIn, encs_pure, enxs_pure, enys_pure, valC_pure, exC_pure, tyC_pure, r_int_u8_pure, r_st_GInst_pure, r_sl_st_GInst_pure, r_st_GMiss_pure, r_int_i8_pure, r_int_i64_pure])⟩, List.forall_mem_cons.2 ⟨⟨⟨_, rfl, Wv.refl _⟩, (by simp [pureA, pureL, pureR, inA, inL, inR, inO, idsIn, encs_pure, enxs_pure, enys_pure, valC_pure, exC_pure, tyC_pure, r_int_u8_pure, r_st_GInst_pure, r_sl_st_GInst_pure, r_st_GMiss_pure, r_int_i8_pure, r_int_i64_pure])⟩, List.forall_mem_cons.2 ⟨⟨⟨_, rfl, Wv.refl _⟩, (by simp [pureA, pureL, pureR, inA, inL, inR, inO, idsIn, encs_pure, enxs_pure, enys_pure, valC_pure, exC_pure, tyC_pure, r_int_u8_pure, r_st_GInst_pure, r_sl_st_GInst_pure, r_st_GMiss_pure, r_int_i8_pure, r_int_i64_pure])⟩, List.forall_mem_cons.2 ⟨⟨⟨_, rfl, Wv.refl _⟩, (by simp [pureA, pureL, pureR, inA, inL, inR, inO, idsIn, encs_pure, enxs_pure, enys_pure, valC_pure, exC_pure, tyC_pure, r_int_u8_pure, r_st_GInst_pure, r_sl_st_GInst_pure, r_st_GMiss_pure, r_int_i8_pure, r_int_i64_pure])⟩, (fun _ h => by cases h)⟩⟩⟩⟩⟩⟩⟩, List.forall_mem_cons.2 ⟨⟨⟨_, rfl, ⟨rfl, rfl, rfl⟩⟩, (by simp [pureA, pureL, pureR, inA, inL, inR, inO, idsIn, encs_pure, enxs_pure, enys_pure, valC_pure, exC_pure, tyC_pure, r_int_u8_pure, r_st_GInst_pure, r_sl_st_GInst_pure, r_st_GMiss_pure, r_int_i8_pure, r_int_i64_pure])⟩, List.forall_mem_cons.2 ⟨⟨⟨_, rfl, ⟨rfl, rfl, rfl⟩⟩, (by simp [pureA, pureL, pureR, inA, inL, inR, inO, idsIn, encs_pure, enxs_pure, enys_pure, valC_pure, exC_pure, tyC_pure, r_int_u8_pure, r_st_GInst_pure, r_sl_st_GInst_pure, r_st_GMiss_pure, r_int_i8_pure, r_int_i64_pure])⟩, List.forall_mem_cons.2 ⟨⟨⟨_, rfl, ⟨rfl, rfl, rfl⟩⟩, (by simp [pureA, pureL, pureR, inA, inL, inR, inO, idsIn, encs_pure, enxs_pure, enys_pure, valC_pure, exC_pure, tyC_pure, r_int_u8_pure, r_st_GInst_pure, r_sl_st_GInst_pure, r_st_GMiss_pure, r_int_i8_pure, r_int_i64_pure])⟩, (fun _ h => by cases h)⟩⟩⟩⟩ ⟨hr, Nat.le_refl _⟩ (fun ⟨m, v1_1⟩ hx => ?_)
      obtain ⟨hr, hm⟩ := hx
      try dsimp only at hr hm
      cases m with
      | zero => rw [s_f9_l1] at hr; cases hr
      | succ m =>
        rw [s_f9_l1] at hr
        show AW Try.prog _ _ _ (mkS 157 [(0, .sl .ro 1 (r_int_i8 a0)), (1, .int .i8 a1), (2, .int .i8 a2), (7, .sl (.own 2) 7 (r_st_GInst q5)), (8, .sl (.own 5) 7 (r_st_GInst q7)), (9, .sl (.own 8) 7 (r_st_GInst q9)), (10, .int .i64 (v1_1 : Int))] [(2, .row 109 7 (r_st_GInst q5).length), (5, .row 109 7 (r_st_GInst q7).length), (8, .row 109 7 (r_st_GInst q9).length)])
        refine AW.seq ?_
        refine AW.seq ?_
        refine AW.region (M := fun _ => true) ?_
        refine AL.v good (d := 54) (v := .int .i64 (v1_1 : Int)) rfl rfl rfl rfl ?_
        refine AL.v good (d := 55) (v := .sl .ro 1 (r_int_i8 a0)) rfl rfl rfl rfl ?_
        refine AL.ln good (d := 56) (m := a0.length) rfl rfl rfl rfl rfl rfl (r_int_i8_length _) ?_
        refine AL.v good (d := 57) (v := .bool (decide ((v1_1 : Int) < (a0.length : Int)))) rfl rfl rfl rfl ?_
        refine AW.if rfl (fun h70 => ?_) (fun h70 => ?_)
        · replace hr := cnd_t h70 hr
          refine AW.skip ?_
          refine AW.seq ?_
          refine AW.block ?_
          refine AW.seq ?_
          refine AW.region (M := fun _ => true) ?_
          refine AL.v good (d := 60) (v := .sl .ro 1 (r_int_i8 a0)) rfl rfl rfl rfl ?_
          refine AL.v good (d := 61) (v := .int .i64 (v1_1 : Int)) rfl rfl rfl rfl ?_
          obtain ⟨x71, h72, hr⟩ := bnd1 hr
          refine AL.ix good (d := 62) (r := [.int .i8 x71]) rfl rfl rfl rfl rfl rfl rfl (Int.natCast_nonneg _) (r_int_i8_get h72) ?_
          refine AL.v good (d := 63) (v := .int .i8 x71) rfl rfl rfl rfl ?_
          refine AL.v good (d := 64) (v := .int .i64 (IntKind.i64.wrap (x71))) rfl rfl rfl rfl ?_
          refine AL.v good (d := 11) (v := .int .i64 (IntKind.i64.wrap (x71))) rfl rfl rfl rfl ?_
          refine AW.seq ?_
          refine AW.region (M := fun _ => true) ?_
          refine AL.v good (d := 66) (v := .sl (.own 2) 7 (r_st_GInst q5)) rfl rfl rfl rfl ?_
          refine AL.v good (d := 67) (v := .sl (.own 5) 7 (r_st_GInst q7)) rfl rfl rfl rfl ?_
          refine AL.v good (d := 68) (v := .sl (.own 8) 7 (r_st_GInst q9)) rfl rfl rfl rfl ?_
          refine AL.lit good (d := 69) (rows := [[.sl (.own 2) 7 (r_st_GInst q5)], [.sl (.own 5) 7 (r_st_GInst q7)], [.sl (.own 8) 7 (r_st_GInst q9)]]) rfl rfl rfl rfl rfl rfl rfl rfl rfl 9 rfl ?_
          refine AL.v good (d := 70) (v := .int .i64 (IntKind.i64.wrap (x71))) rfl rfl rfl rfl ?_
          refine AL.cw good (d := 71) (xs := [.int .i64 (IntKind.i64.wrap (x71))]) (res := .agg [.int .i64 1, .int .i64 (IntKind.i64.wrap (x71)), .bool false, .str ⟨#[]⟩, .sl .ro 5 (encs [])]) rfl rfl rfl rfl rfl rfl rfl (w_f28 (IntKind.i64.wrap (x71))) ⟨(Wv.refl _), trivial⟩ (by simp [pureA, pureL, pureR, inA, inL, inR, inO, idsIn, encs_pure, enxs_pure, enys_pure, valC_pure, exC_pure, tyC_pure, r_int_u8_pure, r_st_GInst_pure, r_sl_st_GInst_pure, r_st_GMiss_pure, r_int_i8_pure, r_int_i64_pure]) ?_
          obtain ⟨q73, h74, hr⟩ := bnd1 hr
          refine AL.cw good (d := 72) (xs := [.sl .ro 1 (r_sl_st_GInst [q5, q7, q9]), .agg (valC (Val.mk 1 (IntKind.i64.wrap (x71)) false ⟨#[]⟩ []))]) (res := .tup [.sl .ro 5 (encs q73.1), .sl .ro 6 (r_st_GMiss q73.2)]) rfl rfl rfl rfl rfl rfl rfl (w_f44 _ _ _ _ h74) ⟨⟨.inr rfl, ⟨⟨⟨.inr rfl, WvR.refl _, .inl rfl⟩, trivial⟩, ⟨⟨.inr rfl, WvR.refl _, .inl rfl⟩, trivial⟩, ⟨⟨.inr rfl, WvR.refl _, .inl rfl⟩, trivial⟩, trivial⟩, .inl rfl⟩, (Wv.refl _), trivial⟩ (by simp [pureA, pureL, pureR, inA, inL, inR, inO, idsIn, encs_pure, enxs_pure, enys_pure, valC_pure, exC_pure, tyC_pure, r_int_u8_pure, r_st_GInst_pure, r_sl_st_GInst_pure, r_st_GMiss_pure, r_int_i8_pure, r_int_i64_pure]) ?_
          refine AL.v good (d := 65) (v := .tup [.sl .ro 5 (encs q73.1), .sl .ro 6 (r_st_GMiss q73.2)]) rfl rfl rfl rfl ?_
          refine AL.v good (d := 73) (v := .sl .ro 5 (encs q73.1)) rfl rfl rfl rfl ?_
          refine AL.v good (d := 74) (v := .sl .ro 6 (r_st_GMiss q73.2)) rfl rfl rfl rfl ?_
          refine AL.v good (d := 12) (v := .sl .ro 5 (encs q73.1)) rfl rfl rfl rfl ?_
          refine AL.v good (d := 13) (v := .sl .ro 6 (r_st_GMiss q73.2)) rfl rfl rfl rfl ?_
          refine AW.seq ?_
          refine AW.region (M := fun _ => true) ?_
          refine AL.v good (d := 14) (v := .sl .nil 0 []) rfl rfl rfl rfl ?_
          refine AW.seq ?_
          refine AW.region (M := fun _ => true) ?_
          refine AL.v good (d := 15) (v := .int .i64 0) rfl rfl rfl rfl ?_
          refine AW.seq ?_
          refine AW.seq ?_
          refine AW.region (M := fun _ => true) ?_
          refine AL.v good (d := 16) (v := .int .i64 0) rfl rfl rfl rfl ?_
          refine AW.block ?_
          refine AW.adopt 14 rfl 10 1 2 rfl rfl ?_
          refine AW.lpw (fun x : Nat × Int × Int × (List Int) => [(0, .sl .ro 1 (r_int_i8 a0)), (1, .int .i8 a1), (2, .int .i8 a2), (7, .sl (.own 2) 7 (r_st_GInst q5)), (8, .sl (.own 5) 7 (r_st_GInst q7)), (9, .sl (.own 8) 7 (r_st_GInst q9)), (10, .int .i64 (v1_1 : Int)), (11, .int .i64 (IntKind.i64.wrap (x71))), (12, .sl .ro 5 (encs q73.1)), (13, .sl .ro 6 (r_st_GMiss q73.2)), (14, .sl (.own 10) 1 (r_int_i64 x.2.2.2)), (15, .int .i64 x.2.2.1), (16, .int .i64 x.2.1)]) (fun x => [(2, .row 109 7 (r_st_GInst q5).length), (5, .row 109 7 (r_st_GInst q7).length), (8, .row 109 7 (r_st_GInst q9).length), (10, .row 2 1 (r_int_i64 x.2.2.2).length)]) (fun x => s_f9_l5 x.1 a0 a1 a2 q1 q5 q7 q9 v1_1 x71 q73 x.2.1 x.2.2.1 x.2.2.2 = some r ∧ x.1 ≤ m) (fun x => x.1) (m, 0, 0, []) ⟨(fun _ h => by cases h), List.forall_mem_cons.2 ⟨⟨⟨_, rfl, Wv.refl _⟩, (by simp [pureA, pureL, pureR, inA, inL, inR, inO, idsIn, encs_pure, enxs_pure, enys_pure, valC_pure, exC_pure, tyC_pure, r_int_u8_pure, r_st_GInst_pure, r_sl_st_GInst_pure, r_st_GMiss_pure, r_int_i8_pure, r_int_i64_pure])⟩, List.forall_mem_cons.2 ⟨⟨⟨_, rfl, Wv.refl _⟩, (by simp [pureA, pureL, pureR, inA, inL, inR, inO, idsIn, encs_pure, enxs_pure, enys_pure, valC_pure, exC_pure, tyC_pure, r_int_u8_pure, r_st_GInst_pure, r_sl_st_GInst_pure, r_st_GMiss_pure, r_int_i8_pure, r_int_i64_pure])⟩, List.forall_mem_cons.2 ⟨⟨⟨_, rfl, Wv.refl _⟩, (by simp [pureA, pureL, pureR, inA, inL, inR, inO, idsIn, encs_pure, enxs_pure, enys_pure, valC_pure, exC_pure, tyC_pure, r_int_u8_pure, r_st_GInst_pure, r_sl_st_GInst_pure, r_st_GMiss_pure, r_int_i8_pure, r_int_i64_pure])⟩, List.forall_mem_cons.2 ⟨⟨⟨_, rfl, Wv.refl _⟩, (by simp [pureA, pureL, pureR, inA, inL, inR, inO, idsIn, encs_pure, enxs_pure, enys_pure, valC_pure, exC_pure, tyC_pure, r_int_u8_pure, r_st_GInst_pure, r_sl_st_GInst_pure, r_st_GMiss_pure, r_int_i8_pure, r_int_i64_pure])⟩, List.forall_mem_cons.2 ⟨⟨⟨_, rfl, Wv.refl _⟩, (by simp [pureA, pureL, pureR, inA, inL, inR, inO, idsIn, encs_pure, enxs_pure, enys_pure, valC_pure, exC_pure, tyC_pure, r_int_u8_pure, r_st_GInst_pure, r_sl_st_GInst_pure, r_st_GMiss_pure, r_int_i8_pure, r_int_i64_pure])⟩, List.forall_mem_cons.2 ⟨⟨⟨_, rfl, Wv.refl _⟩, (by simp [pureA, pureL, pureR, inA, inL, inR, inO, idsIn, encs_pure, enxs_pure, enys_pure, valC_pure, exC_pure, tyC_pure, r_int_u8_pure, r_st_GInst_pure, r_sl_st_GInst_pure, r_st_GMiss_pure, r_int_i8_pure, r_int_i64_pure])⟩, List.forall_mem_cons.2 ⟨⟨⟨_, rfl, Wv.refl _⟩, (by simp [pureA, pureL, pureR, inA, inL, inR, inO, idsIn, encs_pure, enxs_pure, enys_pure, valC_pure, exC_pure, tyC_pure, r_int_u8_pure, r_st_GInst_pure, r_sl_st_GInst_pure, r_st_GMiss_pure, r_int_i8_pure, r_int_i64_pure])⟩, List.forall_mem_cons.2 ⟨⟨⟨_, rfl, Wv.refl _⟩, (by simp [pureA, pureL, pureR, inA, inL, inR, inO, idsIn, encs_pure, enxs_pure, enys_pure, valC_pure, exC_pure, tyC_pure, r_int_u8_pure, r_st_GInst_pure, r_sl_st_GInst_pure, r_st_GMiss_pure, r_int_i8_pure, r_int_i64_pure])⟩, List.forall_mem_cons.2 ⟨⟨⟨_, rfl, Wv.refl _⟩, (by simp [pureA, pureL, pureR, inA, inL, inR, inO, idsIn, encs_pure, enxs_pure, enys_pure, valC_pure, exC_pure, tyC_pure, r_int_u8_pure, r_st_GInst_pure, r_sl_st_GInst_pure, r_st_GMiss_pure, r_int_i8_pure, r_int_i64_pure])⟩, List.forall_mem_cons.2 ⟨⟨⟨_, rfl, Wv.refl _⟩, (by simp [pureA, pureL, pureR, inA, inL, inR, inO, idsIn, encs_pure, enxs_pure, enys_pure, valC_pure, exC_pure, tyC_pure, r_int_u8_pure, r_st_GInst_pure, r_sl_st_GInst_pure, r_st_GMiss_pure, r_int_i8_pure, r_int_i64_pure])⟩, List.forall_mem_cons.2 ⟨⟨⟨_, rfl, Wv.refl _⟩, (by simp [pureA, pureL, pureR, inA, inL, inR, inO, idsIn, encs_pure, enxs_pure, enys_pure, valC_pure, exC_pure, tyC_pure, r_int_u8_pure, r_st_GInst_pure, r_sl_st_GInst_pure, r_st_GMiss_pure, r_int_i8_pure, r_int_i64_pure])⟩, List.forall_mem_cons.2 ⟨⟨⟨_, rfl, Wv.refl _⟩, (by simp [pureA, pureL, pureR, inA, inL, inR, inO, idsIn, encs_pure, enxs_pure, enys_pure, valC_pure, exC_pure, tyC_pure, r_int_u8_pure, r_st_GInst_pure, r_sl_st_GInst_pure, r_st_GMiss_pure, r_int_i8_pure, r_int_i64_pure])⟩, List.forall_mem_cons.2 ⟨⟨⟨_, rfl, Wv.refl _⟩, (by simp [pureA, pureL, pureR, inA, inL, inR, inO, idsIn, encs_pure, enxs_pure, enys_pure, valC_pure, exC_pure, tyC_pure, r_int_u8_pure, r_st_GInst_pure, r_sl_st_GInst_pure, r_st_GMiss_pure, r_int_i8_pure, r_int_i64_pure])⟩, (fun _ h => by cases h)⟩⟩⟩⟩⟩⟩⟩⟩⟩⟩⟩⟩⟩, List.forall_mem_cons.2 ⟨⟨⟨_, rfl, ⟨rfl, rfl, rfl⟩⟩, (by simp [pureA, pureL, pureR, inA, inL, inR, inO, idsIn, encs_pure, enxs_pure, enys_pure, valC_pure, exC_pure, tyC_pure, r_int_u8_pure, r_st_GInst_pure, r_sl_st_GInst_pure, r_st_GMiss_pure, r_int_i8_pure, r_int_i64_pure])⟩, List.forall_mem_cons.2 ⟨⟨⟨_, rfl, ⟨rfl, rfl, rfl⟩⟩, (by simp [pureA, pureL, pureR, inA, inL, inR, inO, idsIn, encs_pure, enxs_pure, enys_pure, valC_pure, exC_pure, tyC_pure, r_int_u8_pure, r_st_GInst_pure, r_sl_st_GInst_pure, r_st_GMiss_pure, r_int_i8_pure, r_int_i64_pure])⟩, List.forall_mem_cons.2 ⟨⟨⟨_, rfl, ⟨rfl, rfl, rfl⟩⟩, (by simp [pureA, pureL, pureR, inA, inL, inR, inO, idsIn, encs_pure, enxs_pure, enys_pure, valC_pure, exC_pure, tyC_pure, r_int_u8_pure, r_st_GInst_pure, r_sl_st_GInst_pure, r_st_GMiss_pure, r_int_i8_pure, r_int_i64_pure])⟩, List.forall_mem_cons.2 ⟨⟨⟨_, rfl, ⟨rfl, rfl, rfl⟩⟩, (by simp [pureA, pureL, pureR, inA, inL, inR, inO, idsIn, encs_pure, enxs_pure, enys_pure, valC_pure, exC_pure, tyC_pure, r_int_u8_pure, r_st_GInst_pure, r_sl_st_GInst_pure, r_st_GMiss_pure, r_int_i8_pure, r_int_i64_pure])⟩, (fun _ h => by cases h)⟩⟩⟩⟩⟩ ⟨hr, Nat.le_refl _⟩ (fun ⟨m, v5_1, v5_2, v5_3⟩ hx => ?_)
          obtain ⟨hr, hm⟩ := hx
          try dsimp only at hr hm
          cases m with
          | zero => rw [s_f9_l5] at hr; cases hr
          | succ m =>
            rw [s_f9_l5] at hr
            show AW Try.prog _ _ _ (mkS 157 [(0, .sl .ro 1 (r_int_i8 a0)), (1, .int .i8 a1), (2, .int .i8 a2), (7, .sl (.own 2) 7 (r_st_GInst q5)), (8, .sl (.own 5) 7 (r_st_GInst q7)), (9, .sl (.own 8) 7 (r_st_GInst q9)), (10, .int .i64 (v1_1 : Int)), (11, .int .i64 (IntKind.i64.wrap (x71))), (12, .sl .ro 5 (encs q73.1)), (13, .sl .ro 6 (r_st_GMiss q73.2)), (14, .sl (.own 10) 1 (r_int_i64 v5_3)), (15, .int .i64 v5_2), (16, .int .i64 v5_1)] [(2, .row 109 7 (r_st_GInst q5).length), (5, .row 109 7 (r_st_GInst q7).length), (8, .row 109 7 (r_st_GInst q9).length), (10, .row 2 1 (r_int_i64 v5_3).length)])
            refine AW.seq ?_
            refine AW.seq ?_
            refine AW.region (M := fun _ => true) ?_
            refine AL.v good (d := 75) (v := .int .i64 v5_1) rfl rfl rfl rfl ?_
            refine AL.v good (d := 76) (v := .bool (decide (v5_1 < 2))) rfl rfl rfl rfl ?_
            refine AW.if rfl (fun h80 => ?_) (fun h80 => ?_)
            · replace hr := cnd_t h80 hr
              refine AW.skip ?_
              refine AW.seq ?_
              refine AW.block ?_
              refine AW.seq ?_
              refine AW.region (M := fun _ => true) ?_
              refine AL.v good (d := 79) (v := .int .i64 (IntKind.i64.wrap (x71))) rfl rfl rfl rfl ?_
              refine AL.v good (d := 80) (v := .int .i64 v5_1) rfl rfl rfl rfl ?_
              refine AL.v good (d := 81) (v := .int .i8 a1) rfl rfl rfl rfl ?_
              refine AL.v good (d := 82) (v := .int .i64 (IntKind.i64.wrap (a1))) rfl rfl rfl rfl ?_
              refine AL.v good (d := 83) (v := .int .i64 (IntKind.i64.wrap (v5_1 * (IntKind.i64.wrap (a1))))) rfl rfl rfl rfl ?_
              refine AL.v good (d := 84) (v := .int .i64 (IntKind.i64.wrap ((IntKind.i64.wrap (x71)) + (IntKind.i64.wrap (v5_1 * (IntKind.i64.wrap (a1))))))) rfl rfl rfl rfl ?_
              refine AL.v good (d := 17) (v := .int .i64 (IntKind.i64.wrap ((IntKind.i64.wrap (x71)) + (IntKind.i64.wrap (v5_1 * (IntKind.i64.wrap (a1))))))) rfl rfl rfl rfl ?_
              refine AW.block ?_
              refine AW.seq ?_
              refine AW.region (M := fun _ => true) ?_
              refine AL.v good (d := 91) (v := .int .i64 (IntKind.i64.wrap ((IntKind.i64.wrap (x71)) + (IntKind.i64.wrap (v5_1 * (IntKind.i64.wrap (a1))))))) rfl rfl rfl rfl ?_
              refine AL.v good (d := 92) (v := .int .i8 a2) rfl rfl rfl rfl ?_
              refine AL.v good (d := 93) (v := .int .i64 (IntKind.i64.wrap (a2))) rfl rfl rfl rfl ?_
              refine AL.v good (d := 94) (v := .bool (decide ((IntKind.i64.wrap ((IntKind.i64.wrap (x71)) + (IntKind.i64.wrap (v5_1 * (IntKind.i64.wrap (a1)))))) ≥ (IntKind.i64.wrap (a2))))) rfl rfl rfl rfl ?_
              refine AL.v good (d := 90) (v := .bool (decide ((IntKind.i64.wrap ((IntKind.i64.wrap (x71)) + (IntKind.i64.wrap (v5_1 * (IntKind.i64.wrap (a1)))))) ≥ (IntKind.i64.wrap (a2))))) rfl rfl rfl rfl ?_
              refine AW.if rfl (fun h81 => ?_) (fun h81 => ?_)
              · replace hr := cnd_t h81 hr
                refine AW.skip ?_
                refine AW.region (M := fun _ => true) ?_
                refine AL.v good (d := 77) (v := .int .i64 v5_1) rfl rfl rfl rfl ?_
                refine AL.v good (d := 78) (v := .int .i64 (IntKind.i64.wrap (v5_1 + 1))) rfl rfl rfl rfl ?_
                refine AL.v good (d := 16) (v := .int .i64 (IntKind.i64.wrap (v5_1 + 1))) rfl rfl rfl rfl ?_
                exact ⟨(m, (IntKind.i64.wrap (v5_1 + 1)), v5_2, v5_3), _, _, rfl, ⟨(fun _ h => by cases h), List.forall_mem_cons.2 ⟨⟨⟨_, rfl, Wv.refl _⟩, (by simp [pureA, pureL, pureR, inA, inL, inR, inO, idsIn, encs_pure, enxs_pure, enys_pure, valC_pure, exC_pure, tyC_pure, r_int_u8_pure, r_st_GInst_pure, r_sl_st_GInst_pure, r_st_GMiss_pure, r_int_i8_pure, r_int_i64_pure])⟩, List.forall_mem_cons.2 ⟨⟨⟨_, rfl, Wv.refl _⟩, (by simp [pureA, pureL, pureR, inA, inL, inR, inO, idsIn, encs_pure, enxs_pure, enys_pure, valC_pure, exC_pure, tyC_pure, r_int_u8_pure, r_st_GInst_pure, r_sl_st_GInst_pure, r_st_GMiss_pure, r_int_i8_pure, r_int_i64_pure])⟩, List.forall_mem_cons.2 ⟨⟨⟨_, rfl, Wv.refl _⟩, (by simp [pureA, pureL, pureR, inA, inL, inR, inO, idsIn, encs_pure, enxs_pure, enys_pure, valC_pure, exC_pure, tyC_pure, r_int_u8_pure, r_st_GInst_pure, r_sl_st_GInst_pure, r_st_GMiss_pure, r_int_i8_pure, r_int_i64_pure])⟩, List.forall_mem_cons.2 ⟨⟨⟨_, rfl, Wv.refl _⟩, (by simp [pureA, pureL, pureR, inA, inL, inR, inO, idsIn, encs_pure, enxs_pure, enys_pure, valC_pure, exC_pure, tyC_pure, r_int_u8_pure, r_st_GInst_pure, r_sl_st_GInst_pure, r_st_GMiss_pure, r_int_i8_pure, r_int_i64_pure])⟩, List.forall_mem_cons.2 ⟨⟨⟨_, rfl, Wv.refl _⟩, (by simp [pureA, pureL, pureR, inA, inL, inR, inO, idsIn, encs_pure, enxs_pure, enys_pure, valC_pure, exC_pure, tyC_pure, r_int_u8_pure, r_st_GInst_pure, r_sl_st_GInst_pure, r_st_GMiss_pure, r_int_i8_pure, r_int_i64_pure])⟩, List.forall_mem_cons.2 ⟨⟨⟨_, rfl, Wv.refl _⟩, (by simp [pureA, pureL, pureR, inA, inL, inR, inO, idsIn, encs_pure, enxs_pure, enys_pure, valC_pure, exC_pure, tyC_pure, r_int_u8_pure, r_st_GInst_pure, r_sl_st_GInst_pure, r_st_GMiss_pure, r_int_i8_pure, r_int_i64_pure])⟩, List.forall_mem_cons.2 ⟨⟨⟨_, rfl, Wv.refl _⟩, (by simp [pureA, pureL, pureR, inA, inL, inR, inO, idsIn, encs_pure, enxs_pure, enys_pure, valC_pure, exC_pure, tyC_pure, r_int_u8_pure, r_st_GInst_pure, r_sl_st_GInst_pure, r_st_GMiss_pure, r_int_i8_pure, r_int_i64_pure])⟩, List.forall_mem_cons.2 ⟨⟨⟨_, rfl, Wv.refl _⟩, (by simp [pureA, pureL, pureR, inA, inL, inR, inO, idsIn, encs_pure, enxs_pure, enys_pure, valC_pure, exC_pure, tyC_pure, r_int_u8_pure, r_st_GInst_pure, r_sl_st_GInst_pure, r_st_GMiss_pure, r_int_i8_pure, r_int_i64_pure])⟩, List.forall_mem_cons.2 ⟨⟨⟨_, rfl, Wv.refl _⟩, (by simp [pureA, pureL, pureR, inA, inL, inR, inO, idsIn, encs_pure, enxs_pure, enys_pure, valC_pure, exC_pure, tyC_pure, r_int_u8_pure, r_st_GInst_pure, r_sl_st_GInst_pure, r_st_GMiss_pure, r_int_i8_pure, r_int_i64_pure])⟩, List.forall_mem_cons.2 ⟨⟨⟨_, rfl, Wv.refl _⟩, (by simp [pureA, pureL, pureR, inA, inL, inR, inO, idsIn, encs_pure, enxs_pure, enys_pure, valC_pure, exC_pure, tyC_pure, r_int_u8_pure, r_st_GInst_pure, r_sl_st_GInst_pure, r_st_GMiss_pure, r_int_i8_pure, r_int_i64_pure])⟩, List.forall_mem_cons.2 ⟨⟨⟨_, rfl, Wv.refl _⟩, (by simp [pureA, pureL, pureR, inA, inL, inR, inO, idsIn, encs_pure, enxs_pure, enys_pure, valC_pure, exC_pure, tyC_pure, r_int_u8_pure, r_st_GInst_pure, r_sl_st_GInst_pure, r_st_GMiss_pure, r_int_i8_pure, r_int_i64_pure])⟩, List.forall_mem_cons.2 ⟨⟨⟨_, rfl, Wv.refl _⟩, (by simp [pureA, pureL, pureR, inA, inL, inR, inO, idsIn, encs_pure, enxs_pure, enys_pure, valC_pure, exC_pure, tyC_pure, r_int_u8_pure, r_st_GInst_pure, r_sl_st_GInst_pure, r_st_GMiss_pure, r_int_i8_pure, r_int_i64_pure])⟩, List.forall_mem_cons.2 ⟨⟨⟨_, rfl, Wv.refl _⟩, (by simp [pureA, pureL, pureR, inA, inL, inR, inO, idsIn, encs_pure, enxs_pure, enys_pure, valC_pure, exC_pure, tyC_pure, r_int_u8_pure, r_st_GInst_pure, r_sl_st_GInst_pure, r_st_GMiss_pure, r_int_i8_pure, r_int_i64_pure])⟩, (fun _ h => by cases h)⟩⟩⟩⟩⟩⟩⟩⟩⟩⟩⟩⟩⟩, List.forall_mem_cons.2 ⟨⟨⟨_, rfl, ⟨rfl, rfl, rfl⟩⟩, (by simp [pureA, pureL, pureR, inA, inL, inR, inO, idsIn, encs_pure, enxs_pure, enys_pure, valC_pure, exC_pure, tyC_pure, r_int_u8_pure, r_st_GInst_pure, r_sl_st_GInst_pure, r_st_GMiss_pure, r_int_i8_pure, r_int_i64_pure])⟩, List.forall_mem_cons.2 ⟨⟨⟨_, rfl, ⟨rfl, rfl, rfl⟩⟩, (by simp [pureA, pureL, pureR, inA, inL, inR, inO, idsIn, encs_pure, enxs_pure, enys_pure, valC_pure, exC_pure, tyC_pure, r_int_u8_pure, r_st_GInst_pure, r_sl_st_GInst_pure, r_st_GMiss_pure, r_int_i8_pure, r_int_i64_pure])⟩, List.forall_mem_cons.2 ⟨⟨⟨_, rfl, ⟨rfl, rfl, rfl⟩⟩, (by simp [pureA, pureL, pureR, inA, inL, inR, inO, idsIn, encs_pure, enxs_pure, enys_pure, valC_pure, exC_pure, tyC_pure, r_int_u8_pure, r_st_GInst_pure, r_sl_st_GInst_pure, r_st_GMiss_pure, r_int_i8_pure, r_int_i64_pure])⟩, List.forall_mem_cons.2 ⟨⟨⟨_, rfl, ⟨rfl, rfl, rfl⟩⟩, (by simp [pureA, pureL, pureR, inA, inL, inR, inO, idsIn, encs_pure, enxs_pure, enys_pure, valC_pure, exC_pure, tyC_pure, r_int_u8_pure, r_st_GInst_pure, r_sl_st_GInst_pure, r_st_GMiss_pure, r_int_i8_pure, r_int_i64_pure])⟩, (fun _ h => by cases h)⟩⟩⟩⟩⟩, ⟨hr, Nat.le_of_succ_le hm⟩, Nat.lt_succ_self _⟩
              · replace hr := cnd_f h81 hr
                refine AW.seq ?_
                refine AW.region (M := fun _ => true) ?_
                refine AL.v good (d := 96) (v := .int .i64 (IntKind.i64.wrap ((IntKind.i64.wrap (x71)) + (IntKind.i64.wrap (v5_1 * (IntKind.i64.wrap (a1))))))) rfl rfl rfl rfl ?_
                refine AL.v good (d := 97) (v := .bool ((IntKind.i64.wrap ((IntKind.i64.wrap (x71)) + (IntKind.i64.wrap (v5_1 * (IntKind.i64.wrap (a1)))))) == 0)) rfl rfl rfl rfl ?_
                refine AL.v good (d := 95) (v := .bool ((IntKind.i64.wrap ((IntKind.i64.wrap (x71)) + (IntKind.i64.wrap (v5_1 * (IntKind.i64.wrap (a1)))))) == 0)) rfl rfl rfl rfl ?_
                refine AW.if rfl (fun h82 => ?_) (fun h82 => ?_)
                · replace hr := cnd_t h82 hr
                  refine AW.region (M := fun _ => true) ?_
                  refine AL.v good (d := 98) (v := .int .i64 v5_2) rfl rfl rfl rfl ?_
                  refine AL.v good (d := 99) (v := .int .i64 (IntKind.i64.wrap (v5_2 + 1))) rfl rfl rfl rfl ?_
                  refine AL.v good (d := 15) (v := .int .i64 (IntKind.i64.wrap (v5_2 + 1))) rfl rfl rfl rfl ?_
                  refine AW.region (M := fun _ => true) ?_
                  refine AL.v good (d := 77) (v := .int .i64 v5_1) rfl rfl rfl rfl ?_
                  refine AL.v good (d := 78) (v := .int .i64 (IntKind.i64.wrap (v5_1 + 1))) rfl rfl rfl rfl ?_
                  refine AL.v good (d := 16) (v := .int .i64 (IntKind.i64.wrap (v5_1 + 1))) rfl rfl rfl rfl ?_
                  exact ⟨(m, (IntKind.i64.wrap (v5_1 + 1)), (IntKind.i64.wrap (v5_2 + 1)), v5_3), _, _, rfl, ⟨(fun _ h => by cases h), List.forall_mem_cons.2 ⟨⟨⟨_, rfl, Wv.refl _⟩, (by simp [pureA, pureL, pureR, inA, inL, inR, inO, idsIn, encs_pure, enxs_pure, enys_pure, valC_pure, exC_pure, tyC_pure, r_int_u8_pure, r_st_GInst_pure, r_sl_st_GInst_pure, r_st_GMiss_pure, r_int_i8_pure, r_int_i64_pure])⟩, List.forall_mem_cons.2 ⟨⟨⟨_, rfl, Wv.refl _⟩, (by simp [pureA, pureL, pureR, inA, inL, inR, inO, idsIn, encs_pure, enxs_pure, enys_pure, valC_pure, exC_pure, tyC_pure, r_int_u8_pure, r_st_GInst_pure, r_sl_st_GInst_pure, r_st_GMiss_pure, r_int_i8_pure, r_int_i64_pure])⟩, List.forall_mem_cons.2 ⟨⟨⟨_, rfl, Wv.refl _⟩, (by simp [pureA, pureL, pureR, inA, inL, inR, inO, idsIn, encs_pure, enxs_pure, enys_pure, valC_pure, exC_pure, tyC_pure, r_int_u8_pure, r_st_GInst_pure, r_sl_st_GInst_pure, r_st_GMiss_pure, r_int_i8_pure, r_int_i64_pure])⟩, List.forall_mem_cons.2 ⟨⟨⟨_, rfl, Wv.refl _⟩, (by simp [pureA, pureL, pureR, inA, inL, inR, inO, idsIn, encs_pure, enxs_pure, enys_pure, valC_pure, exC_pure, tyC_pure, r_int_u8_pure, r_st_GInst_pure, r_sl_st_GInst_pure, r_st_GMiss_pure, r_int_i8_pure, r_int_i64_pure])⟩, List.forall_mem_cons.2 ⟨⟨⟨_, rfl, Wv.refl _⟩, (by simp [pureA, pureL, pureR, inA, inL, inR, inO, idsIn, encs_pure, enxs_pure, enys_pure, valC_pure, exC_pure, tyC_pure, r_int_u8_pure, r_st_GInst_pure, r_sl_st_GInst_pure, r_st_GMiss_pure, r_int_i8_pure, r_int_i64_pure])⟩, List.forall_mem_cons.2 ⟨⟨⟨_, rfl, Wv.refl _⟩, (by simp [pureA, pureL, pureR, inA, inL, inR, inO, idsIn, encs_pure, enxs_pure, enys_pure, valC_pure, exC_pure, tyC_pure, r_int_u8_pure, r_st_GInst_pure, r_sl_st_GInst_pure, r_st_GMiss_pure, r_int_i8_pure, r_int_i64_pure])⟩, List.forall_mem_cons.2 ⟨⟨⟨_, rfl, Wv.refl _⟩, (by simp [pureA, pureL, pureR, inA, inL, inR, inO, idsIn, encs_pure, enxs_pure, enys_pure, valC_pure, exC_pure, tyC_pure, r_int_u8_pure, r_st_GInst_pure, r_sl_st_GInst_pure, r_st_GMiss_pure, r_int_i8_pure, r_int_i64_pure])⟩, List.forall_mem_cons.2 ⟨⟨⟨_, rfl, Wv.refl _⟩, (by simp [pureA, pureL, pureR, inA, inL, inR, inO, idsIn, encs_pure, enxs_pure, enys_pure, valC_pure, exC_pure, tyC_pure, r_int_u8_pure, r_st_GInst_pure, r_sl_st_GInst_pure, r_st_GMiss_pure, r_int_i8_pure, r_int_i64_pure])⟩, List.forall_mem_cons.2 ⟨⟨⟨_, rfl, Wv.refl _⟩, (by simp [pureA, pureL, pureR, inA, inL, inR, inO, idsIn, encs_pure, enxs_pure, enys_pure, valC_pure, exC_pure, tyC_pure, r_int_u8_pure, r_st_GInst_pure, r_sl_st_GInst_pure, r_st_GMiss_pure, r_int_i8_pure, r_int_i64_pure])⟩, List.forall_mem_cons.2 ⟨⟨⟨_, rfl, Wv.refl _⟩, (by simp [pureA, pureL, pureR, inA, inL, inR, inO, idsIn, encs_pure, enxs_pure, enys_pure, valC_pure, exC_pure, tyC_pure, r_int_u8_pure, r_st_GInst_pure, r_sl_st_GInst_pure, r_st_GMiss_pure, r_int_i8_pure, r_int_i64_pure])⟩, List.forall_mem_cons.2 ⟨⟨⟨_, rfl, Wv.refl _⟩, (by simp [pureA, pureL, pureR, inA, inL, inR, inO, idsIn, encs_pure, enxs_pure, enys_pure, valC_pure, exC_pure, tyC_pure, r_int_u8_pure, r_st_GInst_pure, r_sl_st_GInst_pure, r_st_GMiss_pure, r_int_i8_pure, r_int_i64_pure])⟩, List.forall_mem_cons.2 ⟨⟨⟨_, rfl, Wv.refl _⟩, (by simp [pureA, pureL, pureR, inA, inL, inR, inO, idsIn, encs_pure, enxs_pure, enys_pure, valC_pure, exC_pure, tyC_pure, r_int_u8_pure, r_st_GInst_pure, r_sl_st_GInst_pure, r_st_GMiss_pure, r_int_i8_pure, r_int_i64_pure])⟩, List.forall_mem_cons.2 ⟨⟨⟨_, rfl, Wv.refl _⟩, (by simp [pureA, pureL, pureR, inA, inL, inR, inO, idsIn, encs_pure, enxs_pure, enys_pure, valC_pure, exC_pure, tyC_pure, r_int_u8_pure, r_st_GInst_pure, r_sl_st_GInst_pure, r_st_GMiss_pure, r_int_i8_pure, r_int_i64_pure])⟩, (fun _ h => by cases h)⟩⟩⟩⟩⟩⟩⟩⟩⟩⟩⟩⟩⟩, List.forall_mem_cons.2 ⟨⟨⟨_, rfl, ⟨rfl, rfl, rfl⟩⟩, (by simp [pureA, pureL, pureR, inA, inL, inR, inO, idsIn, encs_pure, enxs_pure, enys_pure, valC_pure, exC_pure, tyC_pure, r_int_u8_pure, r_st_GInst_pure, r_sl_st_GInst_pure, r_st_GMiss_pure, r_int_i8_pure, r_int_i64_pure])⟩, List.forall_mem_cons.2 ⟨⟨⟨_, rfl, ⟨rfl, rfl, rfl⟩⟩, (by simp [pureA, pureL, pureR, inA, inL, inR, inO, idsIn, encs_pure, enxs_pure, enys_pure, valC_pure, exC_pure, tyC_pure, r_int_u8_pure, r_st_GInst_pure, r_sl_st_GInst_pure, r_st_GMiss_pure, r_int_i8_pure, r_int_i64_pure])⟩, List.forall_mem_cons.2 ⟨⟨⟨_, rfl, ⟨rfl, rfl, rfl⟩⟩, (by simp [pureA, pureL, pureR, inA, inL, inR, inO, idsIn, encs_pure, enxs_pure, enys_pure, valC_pure, exC_pure, tyC_pure, r_int_u8_pure, r_st_GInst_pure, r_sl_st_GInst_pure, r_st_GMiss_pure, r_int_i8_pure, r_int_i64_pure])⟩, List.forall_mem_cons.2 ⟨⟨⟨_, rfl, ⟨rfl, rfl, rfl⟩⟩, (by simp [pureA, pureL, pureR, inA, inL, inR, inO, idsIn, encs_pure, enxs_pure, enys_pure, valC_pure, exC_pure, tyC_pure, r_int_u8_pure, r_st_GInst_pure, r_sl_st_GInst_pure, r_st_GMiss_pure, r_int_i8_pure, r_int_i64_pure])⟩, (fun _ h => by cases h)⟩⟩⟩⟩⟩, ⟨hr, Nat.le_of_succ_le hm⟩, Nat.lt_succ_self _⟩
                · replace hr := cnd_f h82 hr
                  refine AW.region (M := fun _ => true) ?_
                  refine AL.v good (d := 85) (v := .sl (.own 10) 1 (r_int_i64 v5_3)) rfl rfl rfl rfl ?_
                  refine AL.v good (d := 86) (v := .int .i64 (IntKind.i64.wrap ((IntKind.i64.wrap (x71)) + (IntKind.i64.wrap (v5_1 * (IntKind.i64.wrap (a1))))))) rfl rfl rfl rfl ?_
                  obtain ⟨h83, hr⟩ := grd hr
                  refine AL.v good (d := 87) (v := .int .i64 (IntKind.i64.wrap ((1000 : Int).tdiv (IntKind.i64.wrap ((IntKind.i64.wrap (x71)) + (IntKind.i64.wrap (v5_1 * (IntKind.i64.wrap (a1))))))))) rfl rfl rfl (by simp only [aval]; exact avq_quo h83) ?_
                  refine AL.lit good (d := 88) (rows := [[.int .i64 (IntKind.i64.wrap ((1000 : Int).tdiv (IntKind.i64.wrap ((IntKind.i64.wrap (x71)) + (IntKind.i64.wrap (v5_1 * (IntKind.i64.wrap (a1))))))))]]) rfl rfl rfl rfl rfl rfl rfl rfl rfl 11 rfl ?_
                  obtain ⟨h84, hr⟩ := grd hr
                  refine AL.aw2 good (d := 89) (rows := r_int_i64 v5_3) (news := [[.int .i64 (IntKind.i64.wrap ((1000 : Int).tdiv (IntKind.i64.wrap ((IntKind.i64.wrap (x71)) + (IntKind.i64.wrap (v5_1 * (IntKind.i64.wrap (a1))))))))]]) (rows2 := r_int_i64 (v5_3 ++ [(IntKind.i64.wrap ((1000 : Int).tdiv (IntKind.i64.wrap ((IntKind.i64.wrap (x71)) + (IntKind.i64.wrap (v5_1 * (IntKind.i64.wrap (a1))))))))])) rfl rfl rfl rfl rfl rfl rfl rfl rfl (by simp) rfl rfl rfl ⟨⟨Wv.refl _, trivial⟩, trivial⟩ (by simp [r_int_i64, rowF]) (by rw [r_int_i64_length, List.length_append]; exact h84) rfl ?_
                  refine AL.v good (d := 14) (v := .sl (.own 10) 1 (r_int_i64 (v5_3 ++ [(IntKind.i64.wrap ((1000 : Int).tdiv (IntKind.i64.wrap ((IntKind.i64.wrap (x71)) + (IntKind.i64.wrap (v5_1 * (IntKind.i64.wrap (a1))))))))]))) rfl rfl rfl rfl ?_
                  refine AW.region (M := fun _ => true) ?_
                  refine AL.v good (d := 77) (v := .int .i64 v5_1) rfl rfl rfl rfl ?_
                  refine AL.v good (d := 78) (v := .int .i64 (IntKind.i64.wrap (v5_1 + 1))) rfl rfl rfl rfl ?_
                  refine AL.v good (d := 16) (v := .int .i64 (IntKind.i64.wrap (v5_1 + 1))) rfl rfl rfl rfl ?_
                  exact ⟨(m, (IntKind.i64.wrap (v5_1 + 1)), v5_2, (v5_3 ++ [(IntKind.i64.wrap ((1000 : Int).tdiv (IntKind.i64.wrap ((IntKind.i64.wrap (x71)) + (IntKind.i64.wrap (v5_1 * (IntKind.i64.wrap (a1))))))))])), _, _, rfl, ⟨(fun _ h => by cases h), List.forall_mem_cons.2 ⟨⟨⟨_, rfl, Wv.refl _⟩, (by simp [pureA, pureL, pureR, inA, inL, inR, inO, idsIn, encs_pure, enxs_pure, enys_pure, valC_pure, exC_pure, tyC_pure, r_int_u8_pure, r_st_GInst_pure, r_sl_st_GInst_pure, r_st_GMiss_pure, r_int_i8_pure, r_int_i64_pure])⟩, List.forall_mem_cons.2 ⟨⟨⟨_, rfl, Wv.refl _⟩, (by simp [pureA, pureL, pureR, inA, inL, inR, inO, idsIn, encs_pure, enxs_pure, enys_pure, valC_pure, exC_pure, tyC_pure, r_int_u8_pure, r_st_GInst_pure, r_sl_st_GInst_pure, r_st_GMiss_pure, r_int_i8_pure, r_int_i64_pure])⟩, List.forall_mem_cons.2 ⟨⟨⟨_, rfl, Wv.refl _⟩, (by simp [pureA, pureL, pureR, inA, inL, inR, inO, idsIn, encs_pure, enxs_pure, enys_pure, valC_pure, exC_pure, tyC_pure, r_int_u8_pure, r_st_GInst_pure, r_sl_st_GInst_pure, r_st_GMiss_pure, r_int_i8_pure, r_int_i64_pure])⟩, List.forall_mem_cons.2 ⟨⟨⟨_, rfl, Wv.refl _⟩, (by simp [pureA, pureL, pureR, inA, inL, inR, inO, idsIn, encs_pure, enxs_pure, enys_pure, valC_pure, exC_pure, tyC_pure, r_int_u8_pure, r_st_GInst_pure, r_sl_st_GInst_pure, r_st_GMiss_pure, r_int_i8_pure, r_int_i64_pure])⟩, List.forall_mem_cons.2 ⟨⟨⟨_, rfl, Wv.refl _⟩, (by simp [pureA, pureL, pureR, inA, inL, inR, inO, idsIn, encs_pure, enxs_pure, enys_pure, valC_pure, exC_pure, tyC_pure, r_int_u8_pure, r_st_GInst_pure, r_sl_st_GInst_pure, r_st_GMiss_pure, r_int_i8_pure, r_int_i64_pure])⟩, List.forall_mem_cons.2 ⟨⟨⟨_, rfl, Wv.refl _⟩, (by simp [pureA, pureL, pureR, inA, inL, inR, inO, idsIn, encs_pure, enxs_pure, enys_pure, valC_pure, exC_pure, tyC_pure, r_int_u8_pure, r_st_GInst_pure, r_sl_st_GInst_pure, r_st_GMiss_pure, r_int_i8_pure, r_int_i64_pure])⟩, List.forall_mem_cons.2 ⟨⟨⟨_, rfl, Wv.refl _⟩, (by simp [pureA, pureL, pureR, inA, inL, inR, inO, idsIn, encs_pure, enxs_pure, enys_pure, valC_pure, exC_pure, tyC_pure, r_int_u8_pure, r_st_GInst_pure, r_sl_st_GInst_pure, r_st_GMiss_pure, r_int_i8_pure, r_int_i64_pure])⟩, List.forall_mem_cons.2 ⟨⟨⟨_, rfl, Wv.refl _⟩, (by simp [pureA, pureL, pureR, inA, inL, inR, inO, idsIn, encs_pure, enxs_pure, enys_pure, valC_pure, exC_pure, tyC_pure, r_int_u8_pure, r_st_GInst_pure, r_sl_st_GInst_pure, r_st_GMiss_pure, r_int_i8_pure, r_int_i64_pure])⟩, List.forall_mem_cons.2 ⟨⟨⟨_, rfl, Wv.refl _⟩, (by simp [pureA, pureL, pureR, inA, inL, inR, inO, idsIn, encs_pure, enxs_pure, enys_pure, valC_pure, exC_pure, tyC_pure, r_int_u8_pure, r_st_GInst_pure, r_sl_st_GInst_pure, r_st_GMiss_pure, r_int_i8_pure, r_int_i64_pure])⟩, List.forall_mem_cons.2 ⟨⟨⟨_, rfl, Wv.refl _⟩, (by simp [pureA, pureL, pureR, inA, inL, inR, inO, idsIn, encs_pure, enxs_pure, enys_pure, valC_pure, exC_pure, tyC_pure, r_int_u8_pure, r_st_GInst_pure, r_sl_st_GInst_pure, r_st_GMiss_pure, r_int_i8_pure, r_int_i64_pure])⟩, List.forall_mem_cons.2 ⟨⟨⟨_, rfl, Wv.refl _⟩, (by simp [pureA, pureL, pureR, inA, inL, inR, inO, idsIn, encs_pure, enxs_pure, enys_pure, valC_pure, exC_pure, tyC_pure, r_int_u8_pure, r_st_GInst_pure, r_sl_st_GInst_pure, r_st_GMiss_pure, r_int_i8_pure, r_int_i64_pure])⟩, List.forall_mem_cons.2 ⟨⟨⟨_, rfl, Wv.refl _⟩, (by simp [pureA, pureL, pureR, inA, inL, inR, inO, idsIn, encs_pure, enxs_pure, enys_pure, valC_pure, exC_pure, tyC_pure, r_int_u8_pure, r_st_GInst_pure, r_sl_st_GInst_pure, r_st_GMiss_pure, r_int_i8_pure, r_int_i64_pure])⟩, List.forall_mem_cons.2 ⟨⟨⟨_, rfl, Wv.refl _⟩, (by simp [pureA, pureL, pureR, inA, inL, inR, inO, idsIn, encs_pure, enxs_pure, enys_pure, valC_pure, exC_pure, tyC_pure, r_int_u8_pure, r_st_GInst_pure, r_sl_st_GInst_pure, r_st_GMiss_pure, r_int_i8_pure, r_int_i64_pure])⟩, (fun _ h => by cases h)⟩⟩⟩⟩⟩⟩⟩⟩⟩⟩⟩⟩⟩, List.forall_mem_cons.2 ⟨⟨⟨_, rfl, ⟨rfl, rfl, rfl⟩⟩, (by simp [pureA, pureL, pureR, inA, inL, inR, inO, idsIn, encs_pure, enxs_pure, enys_pure, valC_pure, exC_pure, tyC_pure, r_int_u8_pure, r_st_GInst_pure, r_sl_st_GInst_pure, r_st_GMiss_pure, r_int_i8_pure, r_int_i64_pure])⟩, List.forall_mem_cons.2 ⟨⟨⟨_, rfl, ⟨rfl, rfl, rfl⟩⟩, (by simp [pureA, pureL, pureR, inA, inL, inR, inO, idsIn, encs_pure, enxs_pure, enys_pure, valC_pure, exC_pure, tyC_pure, r_int_u8_pure, r_st_GInst_pure, r_sl_st_GInst_pure, r_st_GMiss_pure, r_int_i8_pure, r_int_i64_pure])⟩, List.forall_mem_cons.2 ⟨⟨⟨_, rfl, ⟨rfl, rfl, rfl⟩⟩, (by simp [pureA, pureL, pureR, inA, inL, inR, inO, idsIn, encs_pure, enxs_pure, enys_pure, valC_pure, exC_pure, tyC_pure, r_int_u8_pure, r_st_GInst_pure, r_sl_st_GInst_pure, r_st_GMiss_pure, r_int_i8_pure, r_int_i64_pure])⟩, List.forall_mem_cons.2 ⟨⟨⟨_, rfl, ⟨rfl, rfl, rfl⟩⟩, (by simp [pureA, pureL, pureR, inA, inL, inR, inO, idsIn, encs_pure, enxs_pure, enys_pure, valC_pure, exC_pure, tyC_pure, r_int_u8_pure, r_st_GInst_pure, r_sl_st_GInst_pure, r_st_GMiss_pure, r_int_i8_pure, r_int_i64_pure])⟩, (fun _ h => by cases h)⟩⟩⟩⟩⟩, ⟨hr, Nat.le_of_succ_le hm⟩, Nat.lt_succ_self _⟩
            · replace hr := cnd_f h80 hr
              refine AW.exit ?_
              refine AW.seq ?_
              refine AW.seq ?_
              refine AW.region (M := fun _ => true) ?_
              refine AL.v good (d := 100) (v := .sl .ro 5 (encs q73.1)) rfl rfl rfl rfl ?_
              refine AL.ln good (d := 101) (m := q73.1.length) rfl rfl rfl rfl rfl rfl (encs_length _) ?_
              refine AL.v good (d := 102) (v := .sl (.own 10) 1 (r_int_i64 v5_3)) rfl rfl rfl rfl ?_
              refine AL.ln good (d := 103) (m := v5_3.length) rfl rfl rfl rfl rfl rfl (r_int_i64_length _) ?_
              refine AL.v good (d := 104) (v := .bool ((q73.1.length : Int) != (v5_3.length : Int))) rfl rfl rfl rfl ?_
              refine AL.vb good (d := 105) (b := ((q73.1.length : Int) != (v5_3.length : Int))) rfl rfl rfl rfl (fun g85 h86 => ?_)
              refine AL.gv good (d := 106) (c := (!g85)) (v := .sl .ro 6 (r_st_GMiss q73.2)) (rd := []) rfl rfl (by cases g85 <;> rfl) (fun h => by cases g85 <;> first | rfl | exact absurd h (by decide)) ?_
              refine AL.gln good (d := 107) (c := (!g85)) (m := q73.2.length) rfl rfl (by cases g85 <;> rfl) rfl rfl (fun h => by cases g85 <;> first | rfl | exact absurd h (by decide)) (r_st_GMiss_length _) ?_
              refine AL.gv good (d := 108) (c := (!g85)) (v := .int .i64 v5_2) (rd := []) rfl rfl (by cases g85 <;> rfl) (fun h => by cases g85 <;> first | rfl | exact absurd h (by decide)) ?_
              refine AL.gv good (d := 109) (c := (!g85)) (v := .bool ((q73.2.length : Int) != v5_2)) (rd := []) rfl rfl (by cases g85 <;> rfl) (fun h => by cases g85 <;> first | rfl | exact absurd h (by decide)) ?_
              refine AL.v good (d := 110) (v := .bool (g85 || ((q73.2.length : Int) != v5_2))) (rd := []) rfl rfl rfl (by cases g85 <;> rfl) ?_
              subst h86
              refine AW.if rfl (fun h87 => ?_) (fun h87 => ?_)
              · replace hr := cnd_t h87 hr
                refine AW.seq ?_
                refine AW.region (M := fun _ => true) ?_
                refine AL.v good (d := 6) (v := .bool false) rfl rfl rfl rfl ?_
                refine AW.ret ?_
                obtain rfl := Option.some.inj hr
                exact RetQ.w good (.inr rfl) rfl rfl (Wv.refl _) (by simp [pureA, pureL, pureR, inA, inL, inR, inO, idsIn, encs_pure, enxs_pure, enys_pure, valC_pure, exC_pure, tyC_pure, r_int_u8_pure, r_st_GInst_pure, r_sl_st_GInst_pure, r_st_GMiss_pure, r_int_i8_pure, r_int_i64_pure])
              · replace hr := cnd_f h87 hr
                refine AW.skip ?_
                refine AW.seq ?_
                refine AW.seq ?_
                refine AW.region (M := fun _ => true) ?_
                refine AL.v good (d := 18) (v := .int .i64 0) rfl rfl rfl rfl ?_
                refine AW.block ?_
                refine AW.lens 12 rfl (fun hl96 => ?_)
                replace hl96 : q73.1.length ≤ 9223372036854775807 := by rw [← encs_length q73.1]; exact hl96
                refine AW.lpw (fun x : Nat × Nat => [(0, .sl .ro 1 (r_int_i8 a0)), (1, .int .i8 a1), (2, .int .i8 a2), (7, .sl (.own 2) 7 (r_st_GInst q5)), (8, .sl (.own 5) 7 (r_st_GInst q7)), (9, .sl (.own 8) 7 (r_st_GInst q9)), (10, .int .i64 (v1_1 : Int)), (12, .sl .ro 5 (encs q73.1)), (13, .sl .ro 6 (r_st_GMiss q73.2)), (14, .sl (.own 10) 1 (r_int_i64 v5_3)), (18, .int .i64 (x.2 : Int))]) (fun x => [(2, .row 109 7 (r_st_GInst q5).length), (5, .row 109 7 (r_st_GInst q7).length), (8, .row 109 7 (r_st_GInst q9).length), (10, .row 2 1 (r_int_i64 v5_3).length)]) (fun x => s_f9_l6 x.1 a0 a1 a2 q1 q5 q7 q9 v1_1 q73 v5_3 x.2 = some r ∧ x.1 ≤ m) (fun x => x.1) (m, 0) ⟨(fun _ h => by cases h), List.forall_mem_cons.2 ⟨⟨⟨_, rfl, Wv.refl _⟩, (by simp [pureA, pureL, pureR, inA, inL, inR, inO, idsIn, encs_pure, enxs_pure, enys_pure, valC_pure, exC_pure, tyC_pure, r_int_u8_pure, r_st_GInst_pure, r_sl_st_GInst_pure, r_st_GMiss_pure, r_int_i8_pure, r_int_i64_pure])⟩, List.forall_mem_cons.2 ⟨⟨⟨_, rfl, Wv.refl _⟩, (by simp [pureA, pureL, pureR, inA, inL, inR, inO, idsIn, encs_pure, enxs_pure, enys_pure, valC_pure, exC_pure, tyC_pure, r_int_u8_pure, r_st_GInst_pure, r_sl_st_GInst_pure, r_st_GMiss_pure, r_int_i8_pure, r_int_i64_pure])⟩, List.forall_mem_cons.2 ⟨⟨⟨_, rfl, Wv.refl _⟩, (by simp [pureA, pureL, pureR, inA, inL, inR, inO, idsIn, encs_pure, enxs_pure, enys_pure, valC_pure, exC_pure, tyC_pure, r_int_u8_pure, r_st_GInst_pure, r_sl_st_GInst_pure, r_st_GMiss_pure, r_int_i8_pure, r_int_i64_pure])⟩, List.forall_mem_cons.2 ⟨⟨⟨_, rfl, Wv.refl _⟩, (by simp [pureA, pureL, pureR, inA, inL, inR, inO, idsIn, encs_pure, enxs_pure, enys_pure, valC_pure, exC_pure, tyC_pure, r_int_u8_pure, r_st_GInst_pure, r_sl_st_GInst_pure, r_st_GMiss_pure, r_int_i8_pure, r_int_i64_pure])⟩, List.forall_mem_cons.2 ⟨⟨⟨_, rfl, Wv.refl _⟩, (by simp [pureA, pureL, pureR, inA, inL, inR, inO, idsIn, encs_pure, enxs_pure, enys_pure, valC_pure, exC_pure, tyC_pure, r_int_u8_pure, r_st_GInst_pure, r_sl_st_GInst_pure, r_st_GMiss_pure, r_int_i8_pure, r_int_i64_pure])⟩, List.forall_mem_cons.2 ⟨⟨⟨_, rfl, Wv.refl _⟩, (by simp [pureA, pureL, pureR, inA, inL, inR, inO, idsIn, encs_pure, enxs_pure, enys_pure, valC_pure, exC_pure, tyC_pure, r_int_u8_pure, r_st_GInst_pure, r_sl_st_GInst_pure, r_st_GMiss_pure, r_int_i8_pure, r_int_i64_pure])⟩, List.forall_mem_cons.2 ⟨⟨⟨_, rfl, Wv.refl _⟩, (by simp [pureA, pureL, pureR, inA, inL, inR, inO, idsIn, encs_pure, enxs_pure, enys_pure, valC_pure, exC_pure, tyC_pure, r_int_u8_pure, r_st_GInst_pure, r_sl_st_GInst_pure, r_st_GMiss_pure, r_int_i8_pure, r_int_i64_pure])⟩, List.forall_mem_cons.2 ⟨⟨⟨_, rfl, Wv.refl _⟩, (by simp [pureA, pureL, pureR, inA, inL, inR, inO, idsIn, encs_pure, enxs_pure, enys_pure, valC_pure, exC_pure, tyC_pure, r_int_u8_pure, r_st_GInst_pure, r_sl_st_GInst_pure, r_st_GMiss_pure, r_int_i8_pure, r_int_i64_pure])⟩, List.forall_mem_cons.2 ⟨⟨⟨_, rfl, Wv.refl _⟩, (by simp [pureA, pureL, pureR, inA, inL, inR, inO, idsIn, encs_pure, enxs_pure, enys_pure, valC_pure, exC_pure, tyC_pure, r_int_u8_pure, r_st_GInst_pure, r_sl_st_GInst_pure, r_st_GMiss_pure, r_int_i8_pure, r_int_i64_pure])⟩, List.forall_mem_cons.2 ⟨⟨⟨_, rfl, Wv.refl _⟩, (by simp [pureA, pureL, pureR, inA, inL, inR, inO, idsIn, encs_pure, enxs_pure, enys_pure, valC_pure, exC_pure, tyC_pure, r_int_u8_pure, r_st_GInst_pure, r_sl_st_GInst_pure, r_st_GMiss_pure, r_int_i8_pure, r_int_i64_pure])⟩, List.forall_mem_cons.2 ⟨⟨⟨_, rfl, Wv.refl _⟩, (by simp [pureA, pureL, pureR, inA, inL, inR, inO, idsIn, encs_pure, enxs_pure, enys_pure, valC_pure, exC_pure, tyC_pure, r_int_u8_pure, r_st_GInst_pure, r_sl_st_GInst_pure, r_st_GMiss_pure, r_int_i8_pure, r_int_i64_pure])⟩, (fun _ h => by cases h)⟩⟩⟩⟩⟩⟩⟩⟩⟩⟩⟩, List.forall_mem_cons.2 ⟨⟨⟨_, rfl, ⟨rfl, rfl, rfl⟩⟩, (by simp [pureA, pureL, pureR, inA, inL, inR, inO, idsIn, encs_pure, enxs_pure, enys_pure, valC_pure, exC_pure, tyC_pure, r_int_u8_pure, r_st_GInst_pure, r_sl_st_GInst_pure, r_st_GMiss_pure, r_int_i8_pure, r_int_i64_pure])⟩, List.forall_mem_cons.2 ⟨⟨⟨_, rfl, ⟨rfl, rfl, rfl⟩⟩, (by simp [pureA, pureL, pureR, inA, inL, inR, inO, idsIn, encs_pure, enxs_pure, enys_pure, valC_pure, exC_pure, tyC_pure, r_int_u8_pure, r_st_GInst_pure, r_sl_st_GInst_pure, r_st_GMiss_pure, r_int_i8_pure, r_int_i64_pure])⟩, List.forall_mem_cons.2 ⟨⟨⟨_, rfl, ⟨rfl, rfl, rfl⟩⟩, (by simp [pureA, pureL, pureR, inA, inL, inR, inO, idsIn, encs_pure, enxs_pure, enys_pure, valC_pure, exC_pure, tyC_pure, r_int_u8_pure, r_st_GInst_pure, r_sl_st_GInst_pure, r_st_GMiss_pure, r_int_i8_pure, r_int_i64_pure])⟩, List.forall_mem_cons.2 ⟨⟨⟨_, rfl, ⟨rfl, rfl, rfl⟩⟩, (by simp [pureA, pureL, pureR, inA, inL, inR, inO, idsIn, encs_pure, enxs_pure, enys_pure, valC_pure, exC_pure, tyC_pure, r_int_u8_pure, r_st_GInst_pure, r_sl_st_GInst_pure, r_st_GMiss_pure, r_int_i8_pure, r_int_i64_pure])⟩, (fun _ h => by cases h)⟩⟩⟩⟩⟩ ⟨hr, Nat.le_refl _⟩ (fun ⟨m, v6_1⟩ hx => ?_)
                obtain ⟨hr, hm⟩ := hx
                try dsimp only at hr hm
                cases m with
                | zero => rw [s_f9_l6] at hr; cases hr
                | succ m =>
                  rw [s_f9_l6] at hr
                  show AW Try.prog _ _ _ (mkS 157 [(0, .sl .ro 1 (r_int_i8 a0)), (1, .int .i8 a1), (2, .int .i8 a2), (7, .sl (.own 2) 7 (r_st_GInst q5)), (8, .sl (.own 5) 7 (r_st_GInst q7)), (9, .sl (.own 8) 7 (r_st_GInst q9)), (10, .int .i64 (v1_1 : Int)), (12, .sl .ro 5 (encs q73.1)), (13, .sl .ro 6 (r_st_GMiss q73.2)), (14, .sl (.own 10) 1 (r_int_i64 v5_3)), (18, .int .i64 (v6_1 : Int))] [(2, .row 109 7 (r_st_GInst q5).length), (5, .row 109 7 (r_st_GInst q7).length), (8, .row 109 7 (r_st_GInst q9).length), (10, .row 2 1 (r_int_i64 v5_3).length)])
                  refine AW.seq ?_
                  refine AW.seq ?_
                  refine AW.region (M := fun _ => true) ?_
                  refine AL.v good (d := 111) (v := .int .i64 (v6_1 : Int)) rfl rfl rfl rfl ?_
                  refine AL.v good (d := 112) (v := .sl .ro 5 (encs q73.1)) rfl rfl rfl rfl ?_
                  refine AL.ln good (d := 113) (m := q73.1.length) rfl rfl rfl rfl rfl rfl (encs_length _) ?_
                  refine AL.v good (d := 114) (v := .bool (decide ((v6_1 : Int) < (q73.1.length : Int)))) rfl rfl rfl rfl ?_
                  refine AW.if rfl (fun h97 => ?_) (fun h97 => ?_)
                  · replace hr := cnd_t h97 hr
                    refine AW.skip ?_
                    refine AW.seq ?_
                    refine AW.block ?_
                    refine AW.seq ?_
                    refine AW.draw (M := fun i => false) good.wide (by kernel_rfl) ?_
                    refine AL.v good (d := 117) (v := .sl .ro 5 (encs q73.1)) rfl rfl rfl rfl ?_
                    refine AL.v good (d := 118) (v := .int .i64 (v6_1 : Int)) rfl rfl rfl rfl ?_
                    obtain ⟨x98, h99, hr⟩ := bnd1 hr
                    refine AL.ix good (d := 119) (r := [.int .i64 x98.kind, .int .i64 x98.i, .bool x98.b, .str x98.s, .sl .ro 5 (encs x98.t)]) rfl rfl rfl rfl rfl rfl rfl (Int.natCast_nonneg _) (encs_get h99) ?_
                    refine AL.v good (d := 120) (v := .ep [.int .i64 x98.i, .bool x98.b, .str x98.s, .sl .ro 5 (encs x98.t)]) rfl rfl rfl rfl ?_
                    refine AL.v good (d := 121) (v := .int .i64 x98.i) rfl rfl rfl rfl ?_
                    refine AL.v good (d := 122) (v := .sl (.own 10) 1 (r_int_i64 v5_3)) rfl rfl rfl rfl ?_
                    refine AL.v good (d := 123) (v := .int .i64 (v6_1 : Int)) rfl rfl rfl rfl ?_
                    obtain ⟨x100, h101, hr⟩ := bnd1 hr
                    refine AL.ix good (d := 124) (r := [.int .i64 x100]) rfl rfl rfl rfl rfl rfl rfl (Int.natCast_nonneg _) (r_int_i64_get h101) ?_
                    refine AL.v good (d := 125) (v := .int .i64 x100) rfl rfl rfl rfl ?_
                    refine AL.v good (d := 126) (v := .bool (x98.i != x100)) rfl rfl rfl rfl ?_
                    refine AW.if rfl (fun h102 => ?_) (fun h102 => ?_)
                    · replace hr := cnd_t h102 hr
                      refine AW.seq ?_
                      refine AW.region (M := fun _ => true) ?_
                      refine AL.v good (d := 6) (v := .bool false) rfl rfl rfl rfl ?_
                      refine AW.ret ?_
                      obtain rfl := Option.some.inj hr
                      exact RetQ.w good (.inr rfl) rfl rfl (Wv.refl _) (by simp [pureA, pureL, pureR, inA, inL, inR, inO, idsIn, encs_pure, enxs_pure, enys_pure, valC_pure, exC_pure, tyC_pure, r_int_u8_pure, r_st_GInst_pure, r_sl_st_GInst_pure, r_st_GMiss_pure, r_int_i8_pure, r_int_i64_pure])
                    · replace hr := cnd_f h102 hr
                      refine AW.skip ?_
                      refine AW.region (M := fun _ => true) ?_
                      refine AL.v good (d := 115) (v := .int .i64 (v6_1 : Int)) rfl rfl rfl rfl ?_
                      refine AL.v good (d := 116) (v := .int .i64 (IntKind.i64.wrap ((v6_1 : Int) + 1))) rfl rfl rfl rfl ?_
                      refine AL.v good (d := 18) (v := .int .i64 (IntKind.i64.wrap ((v6_1 : Int) + 1))) rfl rfl rfl rfl ?_
                      exact ⟨(m, (v6_1 + 1)), _, _, rfl, ⟨(fun _ h => by cases h), List.forall_mem_cons.2 ⟨⟨⟨_, rfl, Wv.refl _⟩, (by simp [pureA, pureL, pureR, inA, inL, inR, inO, idsIn, encs_pure, enxs_pure, enys_pure, valC_pure, exC_pure, tyC_pure, r_int_u8_pure, r_st_GInst_pure, r_sl_st_GInst_pure, r_st_GMiss_pure, r_int_i8_pure, r_int_i64_pure])⟩, List.forall_mem_cons.2 ⟨⟨⟨_, rfl, Wv.refl _⟩, (by simp [pureA, pureL, pureR, inA, inL, inR, inO, idsIn, encs_pure, enxs_pure, enys_pure, valC_pure, exC_pure, tyC_pure, r_int_u8_pure, r_st_GInst_pure, r_sl_st_GInst_pure, r_st_GMiss_pure, r_int_i8_pure, r_int_i64_pure])⟩, List.forall_mem_cons.2 ⟨⟨⟨_, rfl, Wv.refl _⟩, (by simp [pureA, pureL, pureR, inA, inL, inR, inO, idsIn, encs_pure, enxs_pure, enys_pure, valC_pure, exC_pure, tyC_pure, r_int_u8_pure, r_st_GInst_pure, r_sl_st_GInst_pure, r_st_GMiss_pure, r_int_i8_pure, r_int_i64_pure])⟩, List.forall_mem_cons.2 ⟨⟨⟨_, rfl, Wv.refl _⟩, (by simp [pureA, pureL, pureR, inA, inL, inR, inO, idsIn, encs_pure, enxs_pure, enys_pure, valC_pure, exC_pure, tyC_pure, r_int_u8_pure, r_st_GInst_pure, r_sl_st_GInst_pure, r_st_GMiss_pure, r_int_i8_pure, r_int_i64_pure])⟩, List.forall_mem_cons.2 ⟨⟨⟨_, rfl, Wv.refl _⟩, (by simp [pureA, pureL, pureR, inA, inL, inR, inO, idsIn, encs_pure, enxs_pure, enys_pure, valC_pure, exC_pure, tyC_pure, r_int_u8_pure, r_st_GInst_pure, r_sl_st_GInst_pure, r_st_GMiss_pure, r_int_i8_pure, r_int_i64_pure])⟩, List.forall_mem_cons.2 ⟨⟨⟨_, rfl, Wv.refl _⟩, (by simp [pureA, pureL, pureR, inA, inL, inR, inO, idsIn, encs_pure, enxs_pure, enys_pure, valC_pure, exC_pure, tyC_pure, r_int_u8_pure, r_st_GInst_pure, r_sl_st_GInst_pure, r_st_GMiss_pure, r_int_i8_pure, r_int_i64_pure])⟩, List.forall_mem_cons.2 ⟨⟨⟨_, rfl, Wv.refl _⟩, (by simp [pureA, pureL, pureR, inA, inL, inR, inO, idsIn, encs_pure, enxs_pure, enys_pure, valC_pure, exC_pure, tyC_pure, r_int_u8_pure, r_st_GInst_pure, r_sl_st_GInst_pure, r_st_GMiss_pure, r_int_i8_pure, r_int_i64_pure])⟩, List.forall_mem_cons.2 ⟨⟨⟨_, rfl, Wv.refl _⟩, (by simp [pureA, pureL, pureR, inA, inL, inR, inO, idsIn, encs_pure, enxs_pure, enys_pure, valC_pure, exC_pure, tyC_pure, r_int_u8_pure, r_st_GInst_pure, r_sl_st_GInst_pure, r_st_GMiss_pure, r_int_i8_pure, r_int_i64_pure])⟩, List.forall_mem_cons.2 ⟨⟨⟨_, rfl, Wv.refl _⟩, (by simp [pureA, pureL, pureR, inA, inL, inR, inO, idsIn, encs_pure, enxs_pure, enys_pure, valC_pure, exC_pure, tyC_pure, r_int_u8_pure, r_st_GInst_pure, r_sl_st_GInst_pure, r_st_GMiss_pure, r_int_i8_pure, r_int_i64_pure])⟩, List.forall_mem_cons.2 ⟨⟨⟨_, rfl, Wv.refl _⟩, (by simp [pureA, pureL, pureR, inA, inL, inR, inO, idsIn, encs_pure, enxs_pure, enys_pure, valC_pure, exC_pure, tyC_pure, r_int_u8_pure, r_st_GInst_pure, r_sl_st_GInst_pure, r_st_GMiss_pure, r_int_i8_pure, r_int_i64_pure])⟩, List.forall_mem_cons.2 ⟨⟨⟨_, rfl, (wnx h97 hl96)⟩, (by simp [pureA, pureL, pureR, inA, inL, inR, inO, idsIn, encs_pure, enxs_pure, enys_pure, valC_pure, exC_pure, tyC_pure, r_int_u8_pure, r_st_GInst_pure, r_sl_st_GInst_pure, r_st_GMiss_pure, r_int_i8_pure, r_int_i64_pure])⟩, (fun _ h => by cases h)⟩⟩⟩⟩⟩⟩⟩⟩⟩⟩⟩, List.forall_mem_cons.2 ⟨⟨⟨_, rfl, ⟨rfl, rfl, rfl⟩⟩, (by simp [pureA, pureL, pureR, inA, inL, inR, inO, idsIn, encs_pure, enxs_pure, enys_pure, valC_pure, exC_pure, tyC_pure, r_int_u8_pure, r_st_GInst_pure, r_sl_st_GInst_pure, r_st_GMiss_pure, r_int_i8_pure, r_int_i64_pure])⟩, List.forall_mem_cons.2 ⟨⟨⟨_, rfl, ⟨rfl, rfl, rfl⟩⟩, (by simp [pureA, pureL, pureR, inA, inL, inR, inO, idsIn, encs_pure, enxs_pure, enys_pure, valC_pure, exC_pure, tyC_pure, r_int_u8_pure, r_st_GInst_pure, r_sl_st_GInst_pure, r_st_GMiss_pure, r_int_i8_pure, r_int_i64_pure])⟩, List.forall_mem_cons.2 ⟨⟨⟨_, rfl, ⟨rfl, rfl, rfl⟩⟩, (by simp [pureA, pureL, pureR, inA, inL, inR, inO, idsIn, encs_pure, enxs_pure, enys_pure, valC_pure, exC_pure, tyC_pure, r_int_u8_pure, r_st_GInst_pure, r_sl_st_GInst_pure, r_st_GMiss_pure, r_int_i8_pure, r_int_i64_pure])⟩, List.forall_mem_cons.2 ⟨⟨⟨_, rfl, ⟨rfl, rfl, rfl⟩⟩, (by simp [pureA, pureL, pureR, inA, inL, inR, inO, idsIn, encs_pure, enxs_pure, enys_pure, valC_pure, exC_pure, tyC_pure, r_int_u8_pure, r_st_GInst_pure, r_sl_st_GInst_pure, r_st_GMiss_pure, r_int_i8_pure, r_int_i64_pure])⟩, (fun _ h => by cases h)⟩⟩⟩⟩⟩, ⟨hr, Nat.le_of_succ_le hm⟩, Nat.lt_succ_self _⟩
                  · replace hr := cnd_f h97 hr
                    refine AW.exit ?_
                    refine AW.seq ?_
                    refine AW.region (M := fun _ => true) ?_
                    refine AL.v good (d := 19) (v := .int .i64 0) rfl rfl rfl rfl ?_
                    refine AW.block ?_
                    refine AW.lens 13 rfl (fun hl116 => ?_)
                    replace hl116 : q73.2.length ≤ 9223372036854775807 := by rw [← r_st_GMiss_length q73.2]; exact hl116
                    refine AW.lpw (fun x : Nat × Nat => [(0, .sl .ro 1 (r_int_i8 a0)), (1, .int .i8 a1), (2, .int .i8 a2), (7, .sl (.own 2) 7 (r_st_GInst q5)), (8, .sl (.own 5) 7 (r_st_GInst q7)), (9, .sl (.own 8) 7 (r_st_GInst q9)), (10, .int .i64 (v1_1 : Int)), (13, .sl .ro 6 (r_st_GMiss q73.2)), (19, .int .i64 (x.2 : Int))]) (fun x => [(2, .row 109 7 (r_st_GInst q5).length), (5, .row 109 7 (r_st_GInst q7).length), (8, .row 109 7 (r_st_GInst q9).length)]) (fun x => s_f9_l7 x.1 a0 a1 a2 q1 q5 q7 q9 v1_1 q73 x.2 = some r ∧ x.1 ≤ m) (fun x => x.1) (m, 0) ⟨(fun _ h => by cases h), List.forall_mem_cons.2 ⟨⟨⟨_, rfl, Wv.refl _⟩, (by simp [pureA, pureL, pureR, inA, inL, inR, inO, idsIn, encs_pure, enxs_pure, enys_pure, valC_pure, exC_pure, tyC_pure, r_int_u8_pure, r_st_GInst_pure, r_sl_st_GInst_pure, r_st_GMiss_pure, r_int_i8_pure, r_int_i64_pure])⟩, List.forall_mem_cons.2 ⟨⟨⟨_, rfl, Wv.refl _⟩, (by simp [pureA, pureL, pureR, inA, inL, inR, inO, idsIn, encs_pure, enxs_pure, enys_pure, valC_pure, exC_pure, tyC_pure, r_int_u8_pure, r_st_GInst_pure, r_sl_st_GInst_pure, r_st_GMiss_pure, r_int_i8_pure, r_int_i64_pure])⟩, List.forall_mem_cons.2 ⟨⟨⟨_, rfl, Wv.refl _⟩, (by simp [pureA, pureL, pureR, inA, inL, inR, inO, idsIn, encs_pure, enxs_pure, enys_pure, valC_pure, exC_pure, tyC_pure, r_int_u8_pure, r_st_GInst_pure, r_sl_st_GInst_pure, r_st_GMiss_pure, r_int_i8_pure, r_int_i64_pure])⟩, List.forall_mem_cons.2 ⟨⟨⟨_, rfl, Wv.refl _⟩, (by simp [pureA, pureL, pureR, inA, inL, inR, inO, idsIn, encs_pure, enxs_pure, enys_pure, valC_pure, exC_pure, tyC_pure, r_int_u8_pure, r_st_GInst_pure, r_sl_st_GInst_pure, r_st_GMiss_pure, r_int_i8_pure, r_int_i64_pure])⟩, List.forall_mem_cons.2 ⟨⟨⟨_, rfl, Wv.refl _⟩, (by simp [pureA, pureL, pureR, inA, inL, inR, inO, idsIn, encs_pure, enxs_pure, enys_pure, valC_pure, exC_pure, tyC_pure, r_int_u8_pure, r_st_GInst_pure, r_sl_st_GInst_pure, r_st_GMiss_pure, r_int_i8_pure, r_int_i64_pure])⟩, List.forall_mem_cons.2 ⟨⟨⟨_, rfl, Wv.refl _⟩, (by simp [pureA, pureL, pureR, inA, inL, inR, inO, idsIn, encs_pure, enxs_pure, enys_pure, valC_pure, exC_pure, tyC_pure, r_int_u8_pure, r_st_GInst_pure, r_sl_st_GInst_pure, r_st_GMiss_pure, r_int_i8_pure, r_int_i64_pure])⟩, List.forall_mem_cons.2 ⟨⟨⟨_, rfl, Wv.refl _⟩, (by simp [pureA, pureL, pureR, inA, inL, inR, inO, idsIn, encs_pure, enxs_pure, enys_pure, valC_pure, exC_pure, tyC_pure, r_int_u8_pure, r_st_GInst_pure, r_sl_st_GInst_pure, r_st_GMiss_pure, r_int_i8_pure, r_int_i64_pure])⟩, List.forall_mem_cons.2 ⟨⟨⟨_, rfl, Wv.refl _⟩, (by simp [pureA, pureL, pureR, inA, inL, inR, inO, idsIn, encs_pure, enxs_pure, enys_pure, valC_pure, exC_pure, tyC_pure, r_int_u8_pure, r_st_GInst_pure, r_sl_st_GInst_pure, r_st_GMiss_pure, r_int_i8_pure, r_int_i64_pure])⟩, List.forall_mem_cons.2 ⟨⟨⟨_, rfl, Wv.refl _⟩, (by simp [pureA, pureL, pureR, inA, inL, inR, inO, idsIn, encs_pure, enxs_pure, enys_pure, valC_pure, exC_pure, tyC_pure, r_int_u8_pure, r_st_GInst_pure, r_sl_st_GInst_pure, r_st_GMiss_pure, r_int_i8_pure, r_int_i64_pure])⟩, (fun _ h => by cases h)⟩⟩⟩⟩⟩⟩⟩⟩⟩, List.forall_mem_cons.2 ⟨⟨⟨_, rfl, ⟨rfl, rfl, rfl⟩⟩, (by simp [pureA, pureL, pureR, inA, inL, inR, inO, idsIn, encs_pure, enxs_pure, enys_pure, valC_pure, exC_pure, tyC_pure, r_int_u8_pure, r_st_GInst_pure, r_sl_st_GInst_pure, r_st_GMiss_pure, r_int_i8_pure, r_int_i64_pure])⟩, List.forall_mem_cons.2 ⟨⟨⟨_, rfl, ⟨rfl, rfl, rfl⟩⟩, (by simp [pureA, pureL, pureR, inA, inL, inR, inO, idsIn, encs_pure, enxs_pure, enys_pure, valC_pure, exC_pure, tyC_pure, r_int_u8_pure, r_st_GInst_pure, r_sl_st_GInst_pure, r_st_GMiss_pure, r_int_i8_pure, r_int_i64_pure])⟩, List.forall_mem_cons.2 ⟨⟨⟨_, rfl, ⟨rfl, rfl, rfl⟩⟩, (by simp [pureA, pureL, pureR, inA, inL, inR, inO, idsIn, encs_pure, enxs_pure, enys_pure, valC_pure, exC_pure, tyC_pure, r_int_u8_pure, r_st_GInst_pure, r_sl_st_GInst_pure, r_st_GMiss_pure, r_int_i8_pure, r_int_i64_pure])⟩, (fun _ h => by cases h)⟩⟩⟩⟩ ⟨hr, Nat.le_refl _⟩ (fun ⟨m, v7_1⟩ hx => ?_)
                    obtain ⟨hr, hm⟩ := hx
                    try dsimp only at hr hm
                    cases m with
                    | zero => rw [s_f9_l7] at hr; cases hr
                    | succ m =>
                      rw [s_f9_l7] at hr
                      show AW Try.prog _ _ _ (mkS 157 [(0, .sl .ro 1 (r_int_i8 a0)), (1, .int .i8 a1), (2, .int .i8 a2), (7, .sl (.own 2) 7 (r_st_GInst q5)), (8, .sl (.own 5) 7 (r_st_GInst q7)), (9, .sl (.own 8) 7 (r_st_GInst q9)), (10, .int .i64 (v1_1 : Int)), (13, .sl .ro 6 (r_st_GMiss q73.2)), (19, .int .i64 (v7_1 : Int))] [(2, .row 109 7 (r_st_GInst q5).length), (5, .row 109 7 (r_st_GInst q7).length), (8, .row 109 7 (r_st_GInst q9).length)])
                      refine AW.seq ?_
                      refine AW.seq ?_
                      refine AW.region (M := fun _ => true) ?_
                      refine AL.v good (d := 127) (v := .int .i64 (v7_1 : Int)) rfl rfl rfl rfl ?_
                      refine AL.v good (d := 128) (v := .sl .ro 6 (r_st_GMiss q73.2)) rfl rfl rfl rfl ?_
                      refine AL.ln good (d := 129) (m := q73.2.length) rfl rfl rfl rfl rfl rfl (r_st_GMiss_length _) ?_
                      refine AL.v good (d := 130) (v := .bool (decide ((v7_1 : Int) < (q73.2.length : Int)))) rfl rfl rfl rfl ?_
                      refine AW.if rfl (fun h117 => ?_) (fun h117 => ?_)
                      · replace hr := cnd_t h117 hr
                        refine AW.skip ?_
                        refine AW.seq ?_
                        refine AW.block ?_
                        refine AW.seq ?_
                        refine AW.region (M := fun _ => true) ?_
                        refine AL.v good (d := 133) (v := .sl .ro 6 (r_st_GMiss q73.2)) rfl rfl rfl rfl ?_
                        refine AL.v good (d := 134) (v := .int .i64 (v7_1 : Int)) rfl rfl rfl rfl ?_
                        obtain ⟨x118, h119, hr⟩ := bnd1 hr
                        refine AL.ix good (d := 135) (r := [.int .i64 x118.f0, .int .i64 x118.f1.kind, .int .i64 x118.f1.i, .bool x118.f1.b, .str x118.f1.s, .sl .ro 5 (encs x118.f1.t)]) rfl rfl rfl rfl rfl rfl rfl (Int.natCast_nonneg _) (r_st_GMiss_get h119) ?_
                        refine AL.v good (d := 136) (v := .ep [.int .i64 x118.f0, .int .i64 x118.f1.kind, .int .i64 x118.f1.i, .bool x118.f1.b, .str x118.f1.s, .sl .ro 5 (encs x118.f1.t)]) rfl rfl rfl rfl ?_
                        refine AL.v good (d := 137) (v := .int .i64 x118.f0) rfl rfl rfl rfl ?_
                        refine AL.v good (d := 138) (v := .bool (x118.f0 != 2)) rfl rfl rfl rfl ?_
                        refine AL.v good (d := 139) (v := .bool (x118.f0 != 2)) rfl rfl rfl rfl ?_
                        refine AL.cs 139 rfl (fun h120 => ?_) (fun h120 => ?_)
                        · replace hr := cnd_t h120 hr
                          refine AL.sk good (d := 140) rfl rfl rfl ?_
                          refine AL.sk good (d := 141) rfl rfl rfl ?_
                          refine AL.sk good (d := 142) rfl rfl rfl ?_
                          refine AL.sk good (d := 143) rfl rfl rfl ?_
                          refine AL.sk good (d := 144) rfl rfl rfl ?_
                          refine AL.sk good (d := 145) rfl rfl rfl ?_
                          refine AL.sk good (d := 146) rfl rfl rfl ?_
                          refine AL.v good (d := 147) (v := .bool true) rfl rfl rfl rfl ?_
                          refine AL.v good (d := 148) (v := .bool true) rfl rfl rfl rfl ?_
                          refine AL.sk good (d := 149) rfl rfl rfl ?_
                          refine AL.sk good (d := 150) rfl rfl rfl ?_
                          refine AL.sk good (d := 151) rfl rfl rfl ?_
                          refine AL.sk good (d := 152) rfl rfl rfl ?_
                          refine AL.sk good (d := 153) rfl rfl rfl ?_
                          refine AL.sk good (d := 154) rfl rfl rfl ?_
                          refine AL.sk good (d := 155) rfl rfl rfl ?_
                          refine AL.v good (d := 156) (v := .bool true) rfl rfl rfl rfl ?_
                          refine AW.if rfl (fun h => ?_) (fun h => by cases h)
                          refine AW.seq ?_
                          refine AW.region (M := fun _ => true) ?_
                          refine AL.v good (d := 6) (v := .bool false) rfl rfl rfl rfl ?_
                          refine AW.ret ?_
                          obtain rfl := Option.some.inj hr
                          exact RetQ.w good (.inr rfl) rfl rfl (Wv.refl _) (by simp [pureA, pureL, pureR, inA, inL, inR, inO, idsIn, encs_pure, enxs_pure, enys_pure, valC_pure, exC_pure, tyC_pure, r_int_u8_pure, r_st_GInst_pure, r_sl_st_GInst_pure, r_st_GMiss_pure, r_int_i8_pure, r_int_i64_pure])
                        · replace hr := cnd_f h120 hr
                          refine AL.v good (d := 140) (v := .sl .ro 6 (r_st_GMiss q73.2)) rfl rfl rfl rfl ?_
                          refine AL.v good (d := 141) (v := .int .i64 (v7_1 : Int)) rfl rfl rfl rfl ?_
                          obtain ⟨x121, h122, hr⟩ := bnd1 hr
                          refine AL.ix good (d := 142) (r := [.int .i64 x121.f0, .int .i64 x121.f1.kind, .int .i64 x121.f1.i, .bool x121.f1.b, .str x121.f1.s, .sl .ro 5 (encs x121.f1.t)]) rfl rfl rfl rfl rfl rfl rfl (Int.natCast_nonneg _) (r_st_GMiss_get h122) ?_
                          refine AL.v good (d := 143) (v := .ep [.int .i64 x121.f1.kind, .int .i64 x121.f1.i, .bool x121.f1.b, .str x121.f1.s, .sl .ro 5 (encs x121.f1.t)]) rfl rfl rfl rfl ?_
                          refine AL.v good (d := 144) (v := .ep [.int .i64 x121.f1.i, .bool x121.f1.b, .str x121.f1.s, .sl .ro 5 (encs x121.f1.t)]) rfl rfl rfl rfl ?_
                          refine AL.v good (d := 145) (v := .int .i64 x121.f1.i) rfl rfl rfl rfl ?_
                          refine AL.v good (d := 146) (v := .bool (x121.f1.i != 0)) rfl rfl rfl rfl ?_
                          refine AL.v good (d := 147) (v := .bool (x121.f1.i != 0)) rfl rfl rfl rfl ?_
                          refine AL.v good (d := 148) (v := .bool (x121.f1.i != 0)) rfl rfl rfl rfl ?_
                          refine AL.cs 148 rfl (fun h123 => ?_) (fun h123 => ?_)
                          · replace hr := cnd_t h123 hr
                            refine AL.sk good (d := 149) rfl rfl rfl ?_
                            refine AL.sk good (d := 150) rfl rfl rfl ?_
                            refine AL.sk good (d := 151) rfl rfl rfl ?_
                            refine AL.sk good (d := 152) rfl rfl rfl ?_
                            refine AL.sk good (d := 153) rfl rfl rfl ?_
                            refine AL.sk good (d := 154) rfl rfl rfl ?_
                            refine AL.sk good (d := 155) rfl rfl rfl ?_
                            refine AL.v good (d := 156) (v := .bool true) rfl rfl rfl rfl ?_
                            refine AW.if rfl (fun h => ?_) (fun h => by cases h)
                            refine AW.seq ?_
                            refine AW.region (M := fun _ => true) ?_
                            refine AL.v good (d := 6) (v := .bool false) rfl rfl rfl rfl ?_
                            refine AW.ret ?_
                            obtain rfl := Option.some.inj hr
                            exact RetQ.w good (.inr rfl) rfl rfl (Wv.refl _) (by simp [pureA, pureL, pureR, inA, inL, inR, inO, idsIn, encs_pure, enxs_pure, enys_pure, valC_pure, exC_pure, tyC_pure, r_int_u8_pure, r_st_GInst_pure, r_sl_st_GInst_pure, r_st_GMiss_pure, r_int_i8_pure, r_int_i64_pure])
                          · replace hr := cnd_f h123 hr
                            refine AL.v good (d := 149) (v := .sl .ro 6 (r_st_GMiss q73.2)) rfl rfl rfl rfl ?_
                            refine AL.v good (d := 150) (v := .int .i64 (v7_1 : Int)) rfl rfl rfl rfl ?_
                            obtain ⟨x124, h125, hr⟩ := bnd1 hr
                            refine AL.ix good (d := 151) (r := [.int .i64 x124.f0, .int .i64 x124.f1.kind, .int .i64 x124.f1.i, .bool x124.f1.b, .str x124.f1.s, .sl .ro 5 (encs x124.f1.t)]) rfl rfl rfl rfl rfl rfl rfl (Int.natCast_nonneg _) (r_st_GMiss_get h125) ?_
                            refine AL.v good (d := 152) (v := .ep [.int .i64 x124.f1.kind, .int .i64 x124.f1.i, .bool x124.f1.b, .str x124.f1.s, .sl .ro 5 (encs x124.f1.t)]) rfl rfl rfl rfl ?_
                            refine AL.v good (d := 153) (v := .ep [.int .i64 x124.f1.kind, .int .i64 x124.f1.i, .bool x124.f1.b, .str x124.f1.s, .sl .ro 5 (encs x124.f1.t)]) rfl rfl rfl rfl ?_
                            refine AL.v good (d := 154) (v := .int .i64 x124.f1.kind) rfl rfl rfl rfl ?_
                            refine AL.v good (d := 155) (v := .bool (x124.f1.kind != 1)) rfl rfl rfl rfl ?_
                            refine AL.v good (d := 156) (v := .bool (x124.f1.kind != 1)) rfl rfl rfl rfl ?_
                            refine AW.if rfl (fun h126 => ?_) (fun h126 => ?_)
                            · replace hr := cnd_t h126 hr
                              refine AW.seq ?_
                              refine AW.region (M := fun _ => true) ?_
                              refine AL.v good (d := 6) (v := .bool false) rfl rfl rfl rfl ?_
                              refine AW.ret ?_
                              obtain rfl := Option.some.inj hr
                              exact RetQ.w good (.inr rfl) rfl rfl (Wv.refl _) (by simp [pureA, pureL, pureR, inA, inL, inR, inO, idsIn, encs_pure, enxs_pure, enys_pure, valC_pure, exC_pure, tyC_pure, r_int_u8_pure, r_st_GInst_pure, r_sl_st_GInst_pure, r_st_GMiss_pure, r_int_i8_pure, r_int_i64_pure])
                            · replace hr := cnd_f h126 hr
                              refine AW.skip ?_
                              refine AW.region (M := fun _ => true) ?_
                              refine AL.v good (d := 131) (v := .int .i64 (v7_1 : Int)) rfl rfl rfl rfl ?_
                              refine AL.v good (d := 132) (v := .int .i64 (IntKind.i64.wrap ((v7_1 : Int) + 1))) rfl rfl rfl rfl ?_
                              refine AL.v good (d := 19) (v := .int .i64 (IntKind.i64.wrap ((v7_1 : Int) + 1))) rfl rfl rfl rfl ?_
                              exact ⟨(m, (v7_1 + 1)), _, _, rfl, ⟨(fun _ h => by cases h), List.forall_mem_cons.2 ⟨⟨⟨_, rfl, Wv.refl _⟩, (by simp [pureA, pureL, pureR, inA, inL, inR, inO, idsIn, encs_pure, enxs_pure, enys_pure, valC_pure, exC_pure, tyC_pure, r_int_u8_pure, r_st_GInst_pure, r_sl_st_GInst_pure, r_st_GMiss_pure, r_int_i8_pure, r_int_i64_pure])⟩, List.forall_mem_cons.2 ⟨⟨⟨_, rfl, Wv.refl _⟩, (by simp [pureA, pureL, pureR, inA, inL, inR, inO, idsIn, encs_pure, enxs_pure, enys_pure, valC_pure, exC_pure, tyC_pure, r_int_u8_pure, r_st_GInst_pure, r_sl_st_GInst_pure, r_st_GMiss_pure, r_int_i8_pure, r_int_i64_pure])⟩, List.forall_mem_cons.2 ⟨⟨⟨_, rfl, Wv.refl _⟩, (by simp [pureA, pureL, pureR, inA, inL, inR, inO, idsIn, encs_pure, enxs_pure, enys_pure, valC_pure, exC_pure, tyC_pure, r_int_u8_pure, r_st_GInst_pure, r_sl_st_GInst_pure, r_st_GMiss_pure, r_int_i8_pure, r_int_i64_pure])⟩, List.forall_mem_cons.2 ⟨⟨⟨_, rfl, Wv.refl _⟩, (by simp [pureA, pureL, pureR, inA, inL, inR, inO, idsIn, encs_pure, enxs_pure, enys_pure, valC_pure, exC_pure, tyC_pure, r_int_u8_pure, r_st_GInst_pure, r_sl_st_GInst_pure, r_st_GMiss_pure, r_int_i8_pure, r_int_i64_pure])⟩, List.forall_mem_cons.2 ⟨⟨⟨_, rfl, Wv.refl _⟩, (by simp [pureA, pureL, pureR, inA, inL, inR, inO, idsIn, encs_pure, enxs_pure, enys_pure, valC_pure, exC_pure, tyC_pure, r_int_u8_pure, r_st_GInst_pure, r_sl_st_GInst_pure, r_st_GMiss_pure, r_int_i8_pure, r_int_i64_pure])⟩, List.forall_mem_cons.2 ⟨⟨⟨_, rfl, Wv.refl _⟩, (by simp [pureA, pureL, pureR, inA, inL, inR, inO, idsIn, encs_pure, enxs_pure, enys_pure, valC_pure, exC_pure, tyC_pure, r_int_u8_pure, r_st_GInst_pure, r_sl_st_GInst_pure, r_st_GMiss_pure, r_int_i8_pure, r_int_i64_pure])⟩, List.forall_mem_cons.2 ⟨⟨⟨_, rfl, Wv.refl _⟩, (by simp [pureA, pureL, pureR, inA, inL, inR, inO, idsIn, encs_pure, enxs_pure, enys_pure, valC_pure, exC_pure, tyC_pure, r_int_u8_pure, r_st_GInst_pure, r_sl_st_GInst_pure, r_st_GMiss_pure, r_int_i8_pure, r_int_i64_pure])⟩, List.forall_mem_cons.2 ⟨⟨⟨_, rfl, Wv.refl _⟩, (by simp [pureA, pureL, pureR, inA, inL, inR, inO, idsIn, encs_pure, enxs_pure, enys_pure, valC_pure, exC_pure, tyC_pure, r_int_u8_pure, r_st_GInst_pure, r_sl_st_GInst_pure, r_st_GMiss_pure, r_int_i8_pure, r_int_i64_pure])⟩, List.forall_mem_cons.2 ⟨⟨⟨_, rfl, (wnx h117 hl116)⟩, (by simp [pureA, pureL, pureR, inA, inL, inR, inO, idsIn, encs_pure, enxs_pure, enys_pure, valC_pure, exC_pure, tyC_pure, r_int_u8_pure, r_st_GInst_pure, r_sl_st_GInst_pure, r_st_GMiss_pure, r_int_i8_pure, r_int_i64_pure])⟩, (fun _ h => by cases h)⟩⟩⟩⟩⟩⟩⟩⟩⟩, List.forall_mem_cons.2 ⟨⟨⟨_, rfl, ⟨rfl, rfl, rfl⟩⟩, (by simp [pureA, pureL, pureR, inA, inL, inR, inO, idsIn, encs_pure, enxs_pure, enys_pure, valC_pure, exC_pure, tyC_pure, r_int_u8_pure, r_st_GInst_pure, r_sl_st_GInst_pure, r_st_GMiss_pure, r_int_i8_pure, r_int_i64_pure])⟩, List.forall_mem_cons.2 ⟨⟨⟨_, rfl, ⟨rfl, rfl, rfl⟩⟩, (by simp [pureA, pureL, pureR, inA, inL, inR, inO, idsIn, encs_pure, enxs_pure, enys_pure, valC_pure, exC_pure, tyC_pure, r_int_u8_pure, r_st_GInst_pure, r_sl_st_GInst_pure, r_st_GMiss_pure, r_int_i8_pure, r_int_i64_pure])⟩, List.forall_mem_cons.2 ⟨⟨⟨_, rfl, ⟨rfl, rfl, rfl⟩⟩, (by simp [pureA, pureL, pureR, inA, inL, inR, inO, idsIn, encs_pure, enxs_pure, enys_pure, valC_pure, exC_pure, tyC_pure, r_int_u8_pure, r_st_GInst_pure, r_sl_st_GInst_pure, r_st_GMiss_pure, r_int_i8_pure, r_int_i64_pure])⟩, (fun _ h => by cases h)⟩⟩⟩⟩, ⟨hr, Nat.le_of_succ_le hm⟩, Nat.lt_succ_self _⟩
                      · replace hr := cnd_f h117 hr
                        refine AW.exit ?_
                        refine AW.region (M := fun _ => true) ?_
                        refine AL.v good (d := 58) (v := .int .i64 (v1_1 : Int)) rfl rfl rfl rfl ?_
                        refine AL.v good (d := 59) (v := .int .i64 (IntKind.i64.wrap ((v1_1 : Int) + 1))) rfl rfl rfl rfl ?_
                        refine AL.v good (d := 10) (v := .int .i64 (IntKind.i64.wrap ((v1_1 : Int) + 1))) rfl rfl rfl rfl ?_
                        exact ⟨(m, (v1_1 + 1)), _, _, rfl, ⟨(fun _ h => by cases h), List.forall_mem_cons.2 ⟨⟨⟨_, rfl, Wv.refl _⟩, (by simp [pureA, pureL, pureR, inA, inL, inR, inO, idsIn, encs_pure, enxs_pure, enys_pure, valC_pure, exC_pure, tyC_pure, r_int_u8_pure, r_st_GInst_pure, r_sl_st_GInst_pure, r_st_GMiss_pure, r_int_i8_pure, r_int_i64_pure])⟩, List.forall_mem_cons.2 ⟨⟨⟨_, rfl, Wv.refl _⟩, (by simp [pureA, pureL, pureR, inA, inL, inR, inO, idsIn, encs_pure, enxs_pure, enys_pure, valC_pure, exC_pure, tyC_pure, r_int_u8_pure, r_st_GInst_pure, r_sl_st_GInst_pure, r_st_GMiss_pure, r_int_i8_pure, r_int_i64_pure])⟩, List.forall_mem_cons.2 ⟨⟨⟨_, rfl, Wv.refl _⟩, (by simp [pureA, pureL, pureR, inA, inL, inR, inO, idsIn, encs_pure, enxs_pure, enys_pure, valC_pure, exC_pure, tyC_pure, r_int_u8_pure, r_st_GInst_pure, r_sl_st_GInst_pure, r_st_GMiss_pure, r_int_i8_pure, r_int_i64_pure])⟩, List.forall_mem_cons.2 ⟨⟨⟨_, rfl, Wv.refl _⟩, (by simp [pureA, pureL, pureR, inA, inL, inR, inO, idsIn, encs_pure, enxs_pure, enys_pure, valC_pure, exC_pure, tyC_pure, r_int_u8_pure, r_st_GInst_pure, r_sl_st_GInst_pure, r_st_GMiss_pure, r_int_i8_pure, r_int_i64_pure])⟩, List.forall_mem_cons.2 ⟨⟨⟨_, rfl, Wv.refl _⟩, (by simp [pureA, pureL, pureR, inA, inL, inR, inO, idsIn, encs_pure, enxs_pure, enys_pure, valC_pure, exC_pure, tyC_pure, r_int_u8_pure, r_st_GInst_pure, r_sl_st_GInst_pure, r_st_GMiss_pure, r_int_i8_pure, r_int_i64_pure])⟩, List.forall_mem_cons.2 ⟨⟨⟨_, rfl, Wv.refl _⟩, (by simp [pureA, pureL, pureR, inA, inL, inR, inO, idsIn, encs_pure, enxs_pure, enys_pure, valC_pure, exC_pure, tyC_pure, r_int_u8_pure, r_st_GInst_pure, r_sl_st_GInst_pure, r_st_GMiss_pure, r_int_i8_pure, r_int_i64_pure])⟩, List.forall_mem_cons.2 ⟨⟨⟨_, rfl, (wnx h70 hl69)⟩, (by simp [pureA, pureL, pureR, inA, inL, inR, inO, idsIn, encs_pure, enxs_pure, enys_pure, valC_pure, exC_pure, tyC_pure, r_int_u8_pure, r_st_GInst_pure, r_sl_st_GInst_pure, r_st_GMiss_pure, r_int_i8_pure, r_int_i64_pure])⟩, (fun _ h => by cases h)⟩⟩⟩⟩⟩⟩⟩, List.forall_mem_cons.2 ⟨⟨⟨_, rfl, ⟨rfl, rfl, rfl⟩⟩, (by simp [pureA, pureL, pureR, inA, inL, inR, inO, idsIn, encs_pure, enxs_pure, enys_pure, valC_pure, exC_pure, tyC_pure, r_int_u8_pure, r_st_GInst_pure, r_sl_st_GInst_pure, r_st_GMiss_pure, r_int_i8_pure, r_int_i64_pure])⟩, List.forall_mem_cons.2 ⟨⟨⟨_, rfl, ⟨rfl, rfl, rfl⟩⟩, (by simp [pureA, pureL, pureR, inA, inL, inR, inO, idsIn, encs_pure, enxs_pure, enys_pure, valC_pure, exC_pure, tyC_pure, r_int_u8_pure, r_st_GInst_pure, r_sl_st_GInst_pure, r_st_GMiss_pure, r_int_i8_pure, r_int_i64_pure])⟩, List.forall_mem_cons.2 ⟨⟨⟨_, rfl, ⟨rfl, rfl, rfl⟩⟩, (by simp [pureA, pureL, pureR, inA, inL, inR, inO, idsIn, encs_pure, enxs_pure, enys_pure, valC_pure, exC_pure, tyC_pure, r_int_u8_pure, r_st_GInst_pure, r_sl_st_GInst_pure, r_st_GMiss_pure, r_int_i8_pure, r_int_i64_pure])⟩, (fun _ h => by cases h)⟩⟩⟩⟩, ⟨hr, (by (try dsimp only); omega)⟩, (by (try dsimp only); omega)⟩
        · replace hr := cnd_f h70 hr
          refine AW.exit ?_
          refine AW.seq ?_
          refine AW.region (M := fun _ => true) ?_
          refine AL.v good (d := 6) (v := .bool true) rfl rfl rfl rfl ?_
          refine AW.ret ?_
          obtain rfl := Option.some.inj hr
          exact RetQ.w good (.inr rfl) rfl rfl (Wv.refl _) (by simp [pureA, pureL, pureR, inA, inL, inR, inO, idsIn, encs_pure, enxs_pure, enys_pure, valC_pure, exC_pure, tyC_pure, r_int_u8_pure, r_st_GInst_pure, r_sl_st_GInst_pure, r_st_GMiss_pure, r_int_i8_pure, r_int_i64_pure])

end Go.Proofs.Ytbcjcekoonebiaa.Tl

set_option linter.unusedVariables false
set_option linter.unusedSimpArgs false
namespace Go.Proofs.Ytbcjcekoonebiaa.Tl
open Go Go.RowKit
abbrev opF (a : Int) : GOp := GOp.mk 4 ⟨#[]⟩ (Ty.mk 0 []) [(Ex.mk ⟨#[120]⟩ (Val.mk 0 0 false ⟨#[]⟩ []) 0 []), (Ex.mk ⟨#[97, 100, 100]⟩ (Val.mk 0 0 false ⟨#[]⟩ []) 0 [(Ex.mk ⟨#[120]⟩ (Val.mk 0 0 false ⟨#[]⟩ []) 0 []), (Ex.mk ⟨#[108, 105, 116]⟩ (Val.mk 1 a false ⟨#[]⟩ []) 0 [])])] (Ex.mk ⟨#[]⟩ (Val.mk 0 0 false ⟨#[]⟩ []) 0 []) 0 0
abbrev opG (b : Int) : GOp := GOp.mk 3 ⟨#[]⟩ (Ty.mk 0 []) [(Ex.mk ⟨#[108, 116]⟩ (Val.mk 0 0 false ⟨#[]⟩ []) 0 [(Ex.mk ⟨#[120]⟩ (Val.mk 0 0 false ⟨#[]⟩ []) 0 []), (Ex.mk ⟨#[108, 105, 116]⟩ (Val.mk 1 b false ⟨#[]⟩ []) 0 [])])] (Ex.mk ⟨#[]⟩ (Val.mk 0 0 false ⟨#[]⟩ []) 0 []) 0 0
abbrev opH : GOp := GOp.mk 2 ⟨#[]⟩ (Ty.mk 0 []) [(Ex.mk ⟨#[100, 105, 118]⟩ (Val.mk 0 0 false ⟨#[]⟩ []) 0 [(Ex.mk ⟨#[108, 105, 116]⟩ (Val.mk 1 1000 false ⟨#[]⟩ []) 0 []), (Ex.mk ⟨#[120]⟩ (Val.mk 0 0 false ⟨#[]⟩ []) 0 [])])] (Ex.mk ⟨#[]⟩ (Val.mk 0 0 false ⟨#[]⟩ []) 0 []) 0 0
abbrev iAdd : GInst := ⟨⟨#[97, 100, 100]⟩, zeroV, 0⟩
abbrev iLt : GInst := ⟨⟨#[108, 116]⟩, zeroV, 0⟩
abbrev pF (a : Int) : List GInst := [iX, iX, iPush (iV a), iAdd, iEmit 2, iRet]
abbrev pG (b : Int) : List GInst := [iX, iPush (iV b), iLt, jfI 6, iX, iEmit 1, iRet]
abbrev pH : List GInst := [iPush (iV 1000), iX, iDiv, iEmit 1, iRet]
theorem gF (a : Int) : genOp (opF a) = pF a := rfl
theorem gG (b : Int) : genOp (opG b) = pG b := rfl
theorem gH : genOp opH = pH := rfl
theorem bdP_lits {p : List GInst} (h : ∀ i ∈ p, i.f1.t = []) : BdP p := fun i hi => by
  have := h i hi
  cases hv : i.f1 with
  | mk k j b s t =>
    rw [hv] at this
    simp only [Val.t] at this
    subst this
    exact ⟨Nat.zero_le _, trivial⟩
theorem arn_two {o : List UInt8} (h : arS o = 2) : ArN o 2 := ⟨by omega, fun _ => by omega, fun h' => by omega⟩
theorem arn_zero {o : List UInt8} (h : arS o = 0) : ArN o 0 := ⟨by omega, fun _ => by omega, fun h' => by omega⟩
theorem e43 (o : GOp) (p : List GInst) (hb : BdO o) (hw : WfEs o.f3) (hn : 0 < o.f3.length) (hp : genOp o = p) (hl : p.length ≤ 1000000) (hv : BdP p) : Ev (fun n => s_f43 n o) p := by
  subst hp
  unfold s_f43
  exact Ev.bind (e76 o hb) (Ev.bind (e75 o hw (fun _ => hn) hl) (Ev.bind (e51 _ hl hv) (Ev.mk _)))
theorem bd_op2 {k : Int} {es : List Ex} (hl : es.length ≤ 1000) (h : BdEs es) : BdO (GOp.mk k ⟨#[]⟩ (Ty.mk 0 []) es (Ex.mk ⟨#[]⟩ (Val.mk 0 0 false ⟨#[]⟩ []) 0 []) 0 0) := ⟨⟨by simp, trivial⟩, ⟨by simp, bd_zero, trivial⟩, hl, h⟩
theorem bdEs_x : BdE (Ex.mk ⟨#[120]⟩ (Val.mk 0 0 false ⟨#[]⟩ []) 0 []) := ⟨by simp, bd_zero, trivial⟩
theorem bdEs_i (a : Int) : BdE (Ex.mk ⟨#[108, 105, 116]⟩ (Val.mk 1 a false ⟨#[]⟩ []) 0 []) := ⟨by simp, ⟨by simp, trivial⟩, trivial⟩
theorem wf_x : WfE (Ex.mk ⟨#[120]⟩ (Val.mk 0 0 false ⟨#[]⟩ []) 0 []) := ⟨arn_zero rfl, trivial⟩
theorem wf_i (a : Int) : WfE (Ex.mk ⟨#[108, 105, 116]⟩ (Val.mk 1 a false ⟨#[]⟩ []) 0 []) := ⟨arn_zero rfl, trivial⟩
theorem eF (a : Int) : Ev (fun n => s_f43 n (opF a)) (pF a) :=
  e43 _ _ (bd_op2 (by simp) ⟨bdEs_x, ⟨by simp, bd_zero, bdEs_x, bdEs_i a, trivial⟩, trivial⟩) ⟨wf_x, ⟨arn_two rfl, wf_x, wf_i a, trivial⟩, trivial⟩ (by simp) (gF a) (by simp) (bdP_lits (by simp [Val.t]))
theorem eG (b : Int) : Ev (fun n => s_f43 n (opG b)) (pG b) :=
  e43 _ _ (bd_op2 (by simp) ⟨⟨by simp, bd_zero, bdEs_x, bdEs_i b, trivial⟩, trivial⟩) ⟨⟨arn_two rfl, wf_x, wf_i b, trivial⟩, trivial⟩ (by simp) (gG b) (by simp) (bdP_lits (by simp [Val.t]))
theorem eH : Ev (fun n => s_f43 n opH) pH :=
  e43 _ _ (bd_op2 (by simp) ⟨⟨by simp, bd_zero, bdEs_i 1000, bdEs_x, trivial⟩, trivial⟩) ⟨⟨arn_two rfl, wf_i 1000, wf_x, trivial⟩, trivial⟩ (by simp) gH (by simp) (bdP_lits (by simp [Val.t]))

/-! ### runs -/
theorem runF (a x : Int) : Ev (fun n => s_f40 n (pF a) (iV x)) ([iV x, iV (W64 (x + a))], 0) :=
  e40 (run_step rfl rfl rfl rfl (st' := [iV x]) (out' := []) rfl (by simp) (by simp) (by simp) (run_step rfl rfl rfl rfl (st' := [iV x, iV x]) (out' := []) rfl (by simp) (by simp) (by simp) (run_step rfl rfl rfl rfl (st' := [iV x, iV x, iV a]) (out' := []) rfl (by simp) (by simp) (by simp)
    (run_step rfl rfl rfl rfl (st' := [iV x, iV (W64 (x + a))]) (out' := []) rfl (by simp) (by simp) (by simp) (run_step rfl rfl rfl rfl (st' := []) (out' := [iV x, iV (W64 (x + a))]) rfl (by simp) (by simp) (by simp) (run_ret rfl rfl _ _))))) 0)
theorem lt_iV (y b : Int) : decide (cmpV (iV y) (iV b) < 0) = decide (y < b) := by
  have e := cmpV_int y b
  have e2 := cmpI_lt y b
  rw [← e2, ← e]
theorem runG (b y : Int) : Ev (fun n => s_f40 n (pG b) (iV y)) (bif decide (y < b) then [iV y] else [], 0) := by
  refine e40 (run_step rfl rfl rfl rfl (st' := [iV y]) (out' := []) rfl (by simp) (by simp) (by simp) (run_step rfl rfl rfl rfl (st' := [iV y, iV b]) (out' := []) rfl (by simp) (by simp) (by simp)
    (run_step rfl rfl rfl rfl (st' := [.mk 2 0 (decide (cmpV (iV y) (iV b) < 0)) ⟨#[]⟩ []]) (out' := []) rfl (by simp) (by simp) (by simp) (run_jf (st := []) (k := 6) rfl rfl rfl (by simp) (by simp) (by simp) ?_))) 0)
  simp only [Val.b, lt_iV]
  cases decide (y < b) with
  | true => exact run_step rfl rfl rfl rfl (st' := [iV y]) (out' := []) rfl (by simp) (by simp) (by simp) (run_step rfl rfl rfl rfl (st' := []) (out' := [iV y]) rfl (by simp) (by simp) (by simp) (run_ret rfl rfl _ _))
  | false => exact run_ret rfl rfl _ _
theorem runH0 : Ev (fun n => s_f40 n pH (iV 0)) ([], 8) :=
  e40 (run_step rfl rfl rfl rfl (st' := [iV 1000]) (out' := []) rfl (by simp) (by simp) (by simp) (run_step rfl rfl rfl rfl (st' := [iV 1000, iV 0]) (out' := []) rfl (by simp) (by simp) (by simp) (run_err rfl rfl rfl rfl (st' := []) (out' := []) rfl (by decide) (by simp) (by simp))) 0)
theorem runH (y : Int) (h : y ≠ 0) : Ev (fun n => s_f40 n pH (iV y)) ([iV (W64 (Int.tdiv 1000 y))], 0) := by
  refine e40 (run_step rfl rfl rfl rfl (st' := [iV 1000]) (out' := []) rfl (by simp) (by simp) (by simp) (run_step rfl rfl rfl rfl (st' := [iV 1000, iV y]) (out' := []) rfl (by simp) (by simp) (by simp)
    (run_step rfl rfl rfl rfl (st' := [iV (W64 (Int.tdiv 1000 y))]) (out' := []) ?_ (by simp) (by simp) (by simp) (run_step rfl rfl rfl rfl (st' := []) (out' := [iV (W64 (Int.tdiv 1000 y))]) rfl (by simp) (by simp) (by simp) (run_ret rfl rfl _ _)))) 0)
  have e : bothS ⟨#[100, 105, 118]⟩ (iV 1000) (iV y) = some (iV (W64 (Int.tdiv 1000 y)), 0) := by
    show (if y = 0 then some (zeroV, (8 : Int)) else some (.mk 1 (W64 (Int.tdiv 1000 y)) false ⟨#[]⟩ [], 0)) = _
    rw [if_neg h]
  show ((both3 ⟨#[100, 105, 118]⟩ (iV 1000) (iV y)).bind fun q => bif q.2.1 != 0 then some ([], [], q.2.1) else some ([] ++ [q.1], [], 0)) = _
  simp only [both3, e]
  rfl

/-! ### the chain -/
def oF (b y : Int) : List Int := bif decide (y < b) then (bif y == 0 then [] else [W64 (Int.tdiv 1000 y)]) else []
def mF (b y : Int) : Nat := bif decide (y < b) then (bif y == 0 then 1 else 0) else 0
abbrev mI : GMiss := ⟨2, iV 0⟩
abbrev psF (a b : Int) : List (List GInst) := [pF a, pG b, pH]
theorem chG (a b y : Int) : ChE (psF a b) 1 (iV y) ((oF b y).map iV) (List.replicate (mF b y) mI) := by
  have hr := runG b y
  unfold oF mF
  cases hc : decide (y < b) with
  | false =>
    rw [hc] at hr
    exact ch_run (k := 1) rfl (by simp) hr ⟨rfl, rfl⟩
  | true =>
    rw [hc] at hr
    simp only [cond_true] at hr ⊢
    cases hz : y == 0 with
    | true =>
      obtain rfl := eq_of_beq hz
      exact ch_run (k := 1) rfl (by simp) hr ⟨[], [mI], [], [], rfl, rfl, ch_run (k := 2) (m := []) rfl (by simp) runH0 ⟨rfl, rfl⟩, rfl, rfl⟩
    | false =>
      have hy : y ≠ 0 := by simpa using hz
      exact ch_run (k := 1) rfl (by simp) hr ⟨[iV (W64 (Int.tdiv 1000 y))], [], [], [], rfl, rfl, ch_run (k := 2) (m := []) rfl (by simp) (runH y hy) ⟨[iV (W64 (Int.tdiv 1000 y))], [], [], [], rfl, rfl, ch_end _ _, rfl, rfl⟩, rfl, rfl⟩
theorem chF (a b x : Int) : ChE (psF a b) 0 (iV x) ((oF b x ++ oF b (W64 (x + a))).map iV) (List.replicate (mF b x + mF b (W64 (x + a))) mI) := by
  have h1 := chG a b x
  have h2 := chG a b (W64 (x + a))
  refine ch_run (k := 0) rfl (by simp) (runF a x) ⟨(oF b x).map iV, List.replicate (mF b x) mI, (oF b (W64 (x + a))).map iV, List.replicate (mF b (W64 (x + a))) mI, by simp, by simp [List.replicate_append_replicate], h1, _, _, [], [], (List.append_nil _).symm, (List.append_nil _).symm, h2, rfl, rfl⟩
theorem oF_le (b y : Int) : (oF b y).length ≤ 1 := by
  unfold oF
  cases decide (y < b) <;> cases y == 0 <;> simp
theorem mF_le (b y : Int) : mF b y ≤ 1 := by
  unfold mF
  cases decide (y < b) <;> cases y == 0 <;> simp
theorem eCh (a b x : Int) : Ev (fun n => s_f44 n (psF a b) (iV x)) ((oF b x ++ oF b (W64 (x + a))).map iV, List.replicate (mF b x + mF b (W64 (x + a))) mI) := by
  have := oF_le b x
  have := oF_le b (W64 (x + a))
  have := mF_le b x
  have := mF_le b (W64 (x + a))
  exact e44 (chF a b x) (by simp; omega) (by simp; omega)

section
variable (l : List Int) (a b : Int) (q : Bool) (p5 p7 p9 : List GInst) (i : Nat)
theorem e9_7 (o : List Val) (m : Nat) (O : Ev (fun n => s_f9_l1 n l a b q p5 p7 p9 (i + 1)) true) : ∀ (k j : Nat), j + k = m → Ev (fun n => s_f9_l7 n l a b q p5 p7 p9 i (o, List.replicate m mI) j) true
  | 0, j, h => by
    refine Ev.succ ?_
    simp only [s_f9_l7]
    exact Ev.f (cj_f (by simp; omega)) O
  | k + 1, j, h => by
    have e : (List.replicate m mI)[j]? = some mI := by rw [List.getElem?_replicate, if_pos (by omega)]
    refine Ev.succ ?_
    simp only [s_f9_l7]
    exact Ev.t (cj_t (by simp; omega)) (Ev.bindc e (Ev.f rfl (Ev.bindc e (Ev.f rfl (Ev.bindc e (Ev.f rfl (e9_7 o m O k (j + 1) (by omega))))))))
theorem e9_6 (w : List Int) (m : Nat) (O : Ev (fun n => s_f9_l1 n l a b q p5 p7 p9 (i + 1)) true) : ∀ (k j : Nat), j + k = w.length → Ev (fun n => s_f9_l6 n l a b q p5 p7 p9 i (w.map iV, List.replicate m mI) w j) true
  | 0, j, h => by
    refine Ev.succ ?_
    simp only [s_f9_l6]
    exact Ev.f (cj_f (by simp; omega)) (e9_7 l a b q p5 p7 p9 i (w.map iV) m O m 0 (by omega))
  | k + 1, j, h => by
    have hj : j < w.length := by omega
    have e : w[j]? = some w[j] := List.getElem?_eq_getElem hj
    have e2 : (w.map iV)[j]? = some (iV w[j]) := by rw [List.getElem?_map, e]; rfl
    refine Ev.succ ?_
    simp only [s_f9_l6]
    exact Ev.t (cj_t (by simp; omega)) (Ev.bindc e2 (Ev.bindc e (Ev.f (by simp [Val.i]) (e9_6 w m O k (j + 1) (by omega)))))
/-- One round of what is wanted. -/
theorem e9_5r (x : Int) (c : List Val × List GMiss) (k bad : Int) (w : List Int) (y : Int) (h : IntKind.i64.wrap ((IntKind.i64.wrap x) + (IntKind.i64.wrap (k * (IntKind.i64.wrap a)))) = y) (hb : IntKind.i64.wrap b = b) (hk : k < 2) (hw : w.length ≤ 10) (R : Bool) (hbad : 0 ≤ bad ∧ bad ≤ 10)
    (K : Ev (fun n => s_f9_l5 n l a b q p5 p7 p9 i x c (IntKind.i64.wrap (k + 1)) (bad + mF b y) (w ++ oF b y)) R) : Ev (fun n => s_f9_l5 n l a b q p5 p7 p9 i x c k bad w) R := by
  refine Ev.succ ?_
  simp only [s_f9_l5]
  rw [h, hb]
  refine Ev.t (decide_eq_true hk) ?_
  unfold mF oF at K
  cases hc : decide (y < b) with
  | false =>
    have hc' := of_decide_eq_false hc
    rw [hc] at K
    simp only [cond_false, List.append_nil] at K
    refine Ev.t (decide_eq_true (by omega)) ?_
    have e : bad + ((0 : Nat) : Int) = bad := by omega
    rw [e] at K
    exact K
  | true =>
    have hc' := of_decide_eq_true hc
    rw [hc] at K
    simp only [cond_true] at K
    refine Ev.f (decide_eq_false (by omega)) ?_
    cases hz : y == 0 with
    | true =>
      rw [hz] at K
      simp only [cond_true, List.append_nil] at K
      refine Ev.t rfl ?_
      rw [wrap64 (a := bad + 1) (by omega) (by omega)]
      exact K
    | false =>
      have hy : y ≠ 0 := by simpa using hz
      rw [hz] at K
      simp only [cond_false] at K
      have e : bad + ((0 : Nat) : Int) = bad := by omega
      rw [e] at K
      exact Ev.f rfl (Ev.g hy (Ev.g (by omega) K))
end
theorem e9_1 (l : List Int) (a b : Int) (q : Bool) (ha : -128 ≤ a ∧ a ≤ 127) (hb : -128 ≤ b ∧ b ≤ 127) (hl : ∀ x ∈ l, -128 ≤ x ∧ x ≤ 127) : ∀ (m i : Nat), i + m = l.length → Ev (fun n => s_f9_l1 n l a b q (pF a) (pG b) pH i) true
  | 0, i, h => by
    refine Ev.succ ?_
    simp only [s_f9_l1]
    exact Ev.f (cj_f (by omega)) (Ev.mk _)
  | m + 1, i, h => by
    have hi : i < l.length := by omega
    have e : l[i]? = some l[i] := List.getElem?_eq_getElem hi
    obtain ⟨r0, r1⟩ := hl l[i] (List.getElem_mem hi)
    have O := e9_1 l a b q ha hb hl m (i + 1) (by omega)
    revert e r0 r1
    generalize l[i] = x
    intro e r0 r1
    refine Ev.succ ?_
    simp only [s_f9_l1]
    have wx : IntKind.i64.wrap x = x := wrap64 (by omega) (by omega)
    have wa : IntKind.i64.wrap a = a := wrap64 (by omega) (by omega)
    have wb : IntKind.i64.wrap b = b := wrap64 (by omega) (by omega)
    refine Ev.t (cj_t hi) (Ev.bindc e ?_)
    rw [wx]
    refine Ev.bind (eCh a b x) ?_
    have w0 : IntKind.i64.wrap (IntKind.i64.wrap x + IntKind.i64.wrap (0 * IntKind.i64.wrap a)) = x := by rw [wx, Int.zero_mul, wrap64 (a := 0) (by omega) (by omega), Int.add_zero, wx]
    have w1 : IntKind.i64.wrap (IntKind.i64.wrap x + IntKind.i64.wrap (1 * IntKind.i64.wrap a)) = W64 (x + a) := by rw [wx, wa, Int.one_mul, wa]
    have l1 := oF_le b x
    have l2 := oF_le b (W64 (x + a))
    have l3 := mF_le b x
    refine e9_5r l a b q (pF a) (pG b) pH i x _ 0 0 [] x w0 wb (by omega) (by simp) true ⟨by omega, by omega⟩ ?_
    rw [wrap64 (a := 0 + 1) (by omega) (by omega), show (0 : Int) + 1 = 1 by omega, show (0 : Int) + (mF b x : Int) = (mF b x : Int) by omega, List.nil_append]
    refine e9_5r l a b q (pF a) (pG b) pH i x _ 1 (mF b x : Int) (oF b x) (W64 (x + a)) w1 wb (by omega) (by omega) true ⟨by omega, by omega⟩ ?_
    rw [wrap64 (a := 1 + 1) (by omega) (by omega), show (1 : Int) + 1 = 2 by omega]
    refine Ev.succ ?_
    simp only [s_f9_l5]
    refine Ev.f (by decide) (Ev.f (by simp) ?_)
    exact e9_6 l a b q (pF a) (pG b) pH i (oF b x ++ oF b (W64 (x + a))) (mF b x + mF b (W64 (x + a))) O (oF b x ++ oF b (W64 (x + a))).length 0 (by omega)
theorem s9 (l : List Int) (a b : Int) (ha : -128 ≤ a ∧ a ≤ 127) (hb : -128 ≤ b ∧ b ≤ 127) (hl : ∀ x ∈ l, -128 ≤ x ∧ x ≤ 127) : Ev (fun n => s_f9 n l a b) true := by
  unfold s_f9
  have wa : IntKind.i64.wrap a = a := wrap64 (by omega) (by omega)
  have wb : IntKind.i64.wrap b = b := wrap64 (by omega) (by omega)
  rw [wa, wb]
  refine Ev.bind e36 (Ev.f rfl ?_)
  cases hc : decide ((l.length : Int) > 40) with
  | true => exact Ev.t rfl (Ev.mk _)
  | false => exact Ev.f rfl (Ev.bind (eF a) (Ev.bind (eG b) (Ev.bind eH (e9_1 l a b true ha hb hl l.length 0 (by omega)))))
end Go.Proofs.Ytbcjcekoonebiaa.Tl

set_option linter.unusedVariables false
set_option linter.unusedSimpArgs false
namespace Go.Proofs.Ytbcjcekoonebiaa.Tl
open Go Go.RowKit
/-- All memory as it stands may be read. -/
abbrev Pw (w : World) : Cx := Pu (fun _ _ => True) w
def ones (cs : List Value) : Prop := ∀ u ∈ cs, u.oneCell' = true

theorem RdR.of_get {C : Cx} {sz : Nat} : ∀ {rows : List (List AV)} {b off : Nat}, (∀ i r, rows[i]? = some r → r.length = sz ∧ RdC C r b (off + i * sz)) → RdR C sz rows b off
  | [], b, off, _ => by simp [RdR]
  | r :: rs, b, off, h => by
    simp only [RdR]
    have h0 := h 0 r (by simp)
    simp only [Nat.zero_mul, Nat.add_zero] at h0
    refine ⟨h0.1, h0.2, RdR.of_get fun i q hq => ?_⟩
    have := h (i + 1) q (by simpa using hq)
    rw [show off + sz + i * sz = off + (i + 1) * sz by rw [Nat.add_mul]; omega]
    exact this

section
variable {H : Type} {enc : TypeId × Value → H} {P : Program} {w : World} {base : Nat} {sp : Nat → Bool} {hd : Bool}
theorem open_sl {fuel : Nat} {t e : TypeId} {cs : List Value} {x : DataW H × List MemPlace} (ht : P.underlying t = some (.slice e)) {α : Type} (c : α → List AV) (p : α → Prop) (sz : Nat) (hsz : P.cellsOf e = sz) (h0 : 0 < sz) (hc : ∀ a, (c a).length = sz)
    (ih : ∀ n, n < fuel → ∀ cs x, DataW.trod enc P w base sp hd n e cs = some x → ∃ a : α, RdL (Pw w) (c a) cs ∧ ones cs ∧ p a)
    (h : DataW.trod enc P w base sp hd fuel t cs = some x) : ∃ (l : List α) (v : Value), cs = [v] ∧ Rd (Pw w) (.sl .ro sz (l.map c)) v ∧ v.oneCell' = true ∧ ∀ a ∈ l, p a := by
  rcases DataW.trod_slice ht h with ⟨rfl, rfl⟩ | ⟨a, len, cap, elems, rest, n, rfl, rfl, rfl, hb, hl, hm, hlen, hel, _, _⟩
  · exact ⟨[], .slice none 0 0, rfl, by simp only [Rd]; exact ⟨none, 0, rfl, Nat.le_refl _, by simp, .inl rfl, trivial⟩, rfl, by simp⟩
  · rw [hsz] at hel
    have key : ∀ k, k ≤ len → ∃ l : List α, l.length = k ∧ (∀ i y, l[i]? = some y → ∃ cs', w.cells? base (a.add (i * sz)) sz = some cs' ∧ RdL (Pw w) (c y) cs' ∧ ones cs') ∧ ∀ y ∈ l, p y := by
      intro k
      induction k with
      | zero => intro _; exact ⟨[], rfl, by simp, by simp⟩
      | succ k ihk =>
        intro hk
        obtain ⟨l, q1, q2, q3⟩ := ihk (by omega)
        have h1 := hel k (by omega)
        rw [List.getElem?_eq_getElem (by omega)] at h1
        obtain ⟨cs', h2, h3⟩ := Option.bind_eq_some_iff.1 h1
        obtain ⟨y, k1, k2, k3⟩ := ih n (by omega) cs' _ h3
        refine ⟨l ++ [y], by simp [q1], fun i z hz => ?_, fun z hz => ?_⟩
        · by_cases hi : i < k
          · rw [List.getElem?_append_left (by omega)] at hz; exact q2 i z hz
          · have hik : i = k := by
              have := (List.getElem?_eq_some_iff.1 hz).1
              simp [q1] at this
              omega
            subst hik
            rw [List.getElem?_append_right (by omega), q1] at hz
            simp at hz
            subst hz
            exact ⟨cs', h2, k1, k2⟩
        · rcases List.mem_append.1 hz with hz | hz
          · exact q3 z hz
          · simp at hz; subst hz; exact k3
    obtain ⟨l, q1, q2, q3⟩ := key len (Nat.le_refl _)
    refine ⟨l, .slice (some a) len cap, rfl, ?_, rfl, q3⟩
    simp only [Rd, List.length_map]
    refine ⟨some a, cap, by rw [q1], by omega, by simp only [maxLen] at hm; omega, ?_, trivial⟩
    cases l with
    | nil => exact .inl rfl
    | cons y0 l0 =>
      right
      have hsp : a.spot = none := by
        obtain ⟨cs', k1, _, _⟩ := q2 0 y0 rfl
        obtain ⟨_, k2, k3⟩ := World.cells?_some k1
        have k4 := k3 0 h0
        have hn : cs'[0]? = some (cs'[0]'(by omega)) := List.getElem?_eq_getElem (by omega)
        rw [hn] at k4
        simp only [Nat.zero_mul, Addr.add, if_true] at k4
        unfold World.cell? at k4
        split at k4
        · split at k4
          · cases k4
          · rename_i hs; simpa using hs
        · cases k4
      obtain ⟨b, off, spot⟩ := a
      simp only at hsp
      subst hsp
      refine ⟨b, off, rfl, RdR.of_get fun i r hr => ?_⟩
      rw [List.getElem?_map, Option.map_eq_some_iff] at hr
      obtain ⟨y, hy, rfl⟩ := hr
      obtain ⟨cs', k1, k2, k3⟩ := q2 i y hy
      obtain ⟨_, k4, k5⟩ := World.cells?_some k1
      refine ⟨hc y, RdC.mk k2 k3 (fun j u hj => ?_) (fun j hj => pu_ok fun _ => trivial)⟩
      have hjl : j < cs'.length := (List.getElem?_eq_some_iff.1 hj).1
      have := k5 j (by omega)
      rw [add_plain', add_plain'] at this
      exact this.trans hj

theorem open_i {fuel : Nat} {t : TypeId} {k : IntKind} {cs : List Value} {x : DataW H × List MemPlace} (ht : P.underlying t = some (.int k)) (h : DataW.trod enc P w base sp hd fuel t cs = some x) : ∃ n : Int, cs = [.int k n] ∧ (Lit.int k n).wf = true :=
  let ⟨n, h1, _, h2⟩ := DataW.trod_int ht h; ⟨n, h1, h2⟩
end
theorem ok_slice {P : Program} {w : World} {r : Reach} {base : Nat} {t e : TypeId} {v : Value} (ht : P.underlying t = some (.slice e)) (h : Value.okWide P w r base t v) : ∃ A n c, v = .slice A n c := by
  unfold Value.okWide at h
  rw [ht] at h
  have h : Cell.okWide P w r base t v := h
  unfold Cell.okWide at h
  rw [ht] at h
  have h : Cell.ok P w r base t v := by
    cases v <;> exact h
  unfold Cell.ok at h
  rw [ht] at h
  cases v with
  | slice A n c => exact ⟨A, n, c, rfl⟩
  | _ => exact h.elim
theorem rd_slice {w : World} {x : AV} {v u : Value} {A : Option Addr} {n c : Nat} (hv : v = .slice A n c) (hc : v.cells.toList = [u]) (h : Rd (Pw w) x u) : Rd (Pw w) x v := by
  subst hv
  have : [Value.slice A n c] = [u] := hc
  injection this with this
  rw [this]
  exact h

end Go.Proofs.Ytbcjcekoonebiaa.Tl

set_option linter.unusedVariables false
namespace Go.Proofs.Ytbcjcekoonebiaa.Tl
open Go Go.RowKit
section
variable {H : Type} {enc : TypeId × Value → H} {w : World} {base : Nat} {sp : Nat → Bool} {hd : Bool}
theorem open_slI8 (fuel : Nat) (cs : List Value) (x : DataW H × List MemPlace) (h : DataW.trod enc Try.prog w base sp hd fuel 79 cs = some x) : ∃ (l : List Int) (u : Value), cs = [u] ∧ Rd (Pw w) (.sl .ro 1 (l.map fun x => [.int .i8 x])) u ∧ u.oneCell' = true ∧ ∀ n ∈ l, (Lit.int .i8 n).wf = true := by
  refine open_sl Try.underlying79 (fun x => [.int .i8 x]) (fun n => (Lit.int .i8 n).wf = true) 1 (by kernel_rfl) (by decide) (fun _ => rfl) (fun m hm cs x hx => ?_) h
  obtain ⟨n, rfl, wn⟩ := open_i Try.underlying80 hx
  refine ⟨n, by simp [RdL, Rd], ?_, wn⟩
  intro u hu
  simp only [List.mem_cons, List.not_mem_nil, or_false] at hu
  subst hu
  rfl
end
end Go.Proofs.Ytbcjcekoonebiaa.Tl

set_option linter.unusedVariables false
namespace Go.Proofs.Ytbcjcekoonebiaa.Tl
open Go Go.RowKit
theorem ACall.law {P : Program} {f : FuncId} {args : List AV} (h : ACall P f args (.bool true)) (w : World) (vs : Array Value) (hr : RdL (Pu (fun _ _ => True) w) args vs.toList) :
    Calls P f vs w fun e w' => e = .returned (.bool true) ∧ Below w.heap.size w w' := by
  refine (h.2 _ w vs hr).mono fun e w' h => ?_
  obtain ⟨v, rfl, hv, hb⟩ := h
  simp only [Rd] at hv
  subst hv
  exact ⟨rfl, hb⟩

end Go.Proofs.Ytbcjcekoonebiaa.Tl

set_option linter.unusedVariables false
namespace Go.Proofs.Ytbcjcekoonebiaa.Tl
open Go Go.RowKit
theorem wf8 {n : Int} (h : (Lit.int .i8 n).wf = true) : -128 ≤ n ∧ n ≤ 127 := by
  simp only [Lit.wf, Bool.and_eq_true, decide_eq_true_eq] at h
  exact h
theorem vmFused_walk (a0 : List Int) (a1 a2 : Int) (w : World) (v0 : Value) (g0 : ∀ n ∈ a0, (Lit.int .i8 n).wf = true) (w1 : (Lit.int .i8 a1).wf = true) (w2 : (Lit.int .i8 a2).wf = true) (r0 : Rd (Pw w) (.sl .ro 1 (a0.map fun x => [.int .i8 x])) v0) : Calls Try.prog 9 #[v0, .int .i8 a1, .int .i8 a2] w fun e w' => e = .returned (.bool true) ∧ Below w.heap.size w w' := by
  obtain ⟨n, hn⟩ := (s9 a0 a1 a2 (wf8 w1) (wf8 w2) (fun x hx => wf8 (g0 x hx))).get
  exact (w_f9 n a0 a1 a2 true hn).law w _ ⟨r0, rfl, rfl, trivial⟩
end Go.Proofs.Ytbcjcekoonebiaa.Tl
