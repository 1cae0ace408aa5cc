/- Definitions and walks: programs one behind the other. Conditions: none. -/
import Derived.Test.YtbcjcekoonebiaaTlMd
set_option linter.unusedVariables false
set_option linter.unusedSimpArgs false
namespace Go.Proofs.Ytbcjcekoonebiaa.Tl
open Go Go.RowKit

structure GMiss where
  f0 : Int
  f1 : Val
abbrev c_sl_st_GInst (x : (List GInst)) : List AV := [.sl .ro 7 (r_st_GInst x)]
def r_sl_st_GInst (l : List (List GInst)) : List (List AV) := rowF c_sl_st_GInst l
theorem r_sl_st_GInst_length (l : List (List GInst)) : (r_sl_st_GInst l).length = l.length := rowF_length _ l
theorem r_sl_st_GInst_get {l : List (List GInst)} {j : Nat} {x : (List GInst)} (h : l[j]? = some x) : (r_sl_st_GInst l)[j]? = some (c_sl_st_GInst x) := rowF_get h
theorem r_sl_st_GInst_append (l m : List (List GInst)) : r_sl_st_GInst (l ++ m) = r_sl_st_GInst l ++ r_sl_st_GInst m := rowF_append _ l m
theorem r_sl_st_GInst_pure (S : Nat → Bool) (l : List (List GInst)) : inR S (r_sl_st_GInst l) = true := rowF_pure S (fun x => by simp [pureA, pureL, pureR, inA, inL, inR, inO, idsIn, encs_pure, enxs_pure, enys_pure, valC_pure, exC_pure, tyC_pure, c_sl_st_GInst, r_int_u8_pure, r_st_GInst_pure]) l
abbrev c_st_GMiss (x : GMiss) : List AV := [.int .i64 x.f0, .int .i64 x.f1.kind, .int .i64 x.f1.i, .bool x.f1.b, .str x.f1.s, .sl .ro 5 (encs x.f1.t)]
def r_st_GMiss (l : List GMiss) : List (List AV) := rowF c_st_GMiss l
theorem r_st_GMiss_length (l : List GMiss) : (r_st_GMiss l).length = l.length := rowF_length _ l
theorem r_st_GMiss_get {l : List GMiss} {j : Nat} {x : GMiss} (h : l[j]? = some x) : (r_st_GMiss l)[j]? = some (c_st_GMiss x) := rowF_get h
theorem r_st_GMiss_append (l m : List GMiss) : r_st_GMiss (l ++ m) = r_st_GMiss l ++ r_st_GMiss m := rowF_append _ l m
theorem r_st_GMiss_pure (S : Nat → Bool) (l : List GMiss) : inR S (r_st_GMiss l) = true := rowF_pure S (fun x => by simp [pureA, pureL, pureR, inA, inL, inR, inO, idsIn, encs_pure, enxs_pure, enys_pure, valC_pure, exC_pure, tyC_pure, c_st_GMiss, r_int_u8_pure, r_st_GInst_pure, r_sl_st_GInst_pure]) l

mutual
def s_f77 : Nat → Int → Val → (List (List GInst)) → (Ar Val) → (List GMiss) → Option (List (List GInst) × Ar Val × List GMiss)
  | 0, _, _, _, _, _ => none
  | n + 1, a0, a1, a2, a3, a4 => (bif (a0 == (a2.length : Int)) then (if a3.l.length + 1 ≤ 1000000 then (((a3.l ++ [(Val.mk 0 0 false ⟨#[]⟩ [])])[a3.l.length]?).bind fun x3 => some (a2, (Ar.mk (a3.v + 1) ((a3.l ++ [(Val.mk 0 0 false ⟨#[]⟩ [])]).set a3.l.length a1)), a4)) else none) else (if 0 ≤ a0 then ((a2[a0.toNat]?).bind fun x5 => ((s_f40 n x5 a1).bind fun q8 => (bif (q8.2 != 0) then (if a4.length + 1 ≤ 1000000 then (s_f77_l1 n a0 q8 0 a2 a3.v a3.l (a4 ++ [(GMiss.mk a0 a1)])) else none) else (s_f77_l1 n a0 q8 0 a2 a3.v a3.l a4)))) else none))
def s_f77_l1 : Nat → Int → (List Val × Int) → Nat → (List (List GInst)) → Nat → (List Val) → (List GMiss) → Option (List (List GInst) × Ar Val × List GMiss)
  | 0, _, _, _, _, _, _, _ => none
  | n + 1, a0, q8, v1_1, v1_2, v1_3, v1_4, v1_5 => (bif (decide ((v1_1 : Int) < (q8.1.length : Int))) then ((q8.1[v1_1]?).bind fun x20 => ((s_f77 n (IntKind.i64.wrap (a0 + 1)) x20 v1_2 (Ar.mk v1_3 v1_4) v1_5).bind fun q22 => (s_f77_l1 n a0 q8 (v1_1 + 1) q22.1 q22.2.1.v q22.2.1.l q22.2.2))) else some (v1_2, (Ar.mk v1_3 v1_4), v1_5))
end

theorem w_f77_1_2_3_4_5_6_a (n : Nat) (ih : ∀ (m : Nat) (a0 : Int) (a1 : Val) (a2 : List (List GInst)) (a3 : Ar Val) (a4 : List GMiss) (r : List (List GInst) × Ar Val × List GMiss), s_f77 m a0 a1 a2 a3 a4 = some r → m < n → ACallH Try.prog 77 [.int .i64 a0, .agg (valC a1), .ptr 1 0, .ptr 2 0, .ptr 4 0, .ptr 6 0] [(1, .box 90 [.sl .ro 1 (r_sl_st_GInst a2)]), (2, .box 22 [.mv 3 a3.v .hdr]), (3, .arr 24 5 a3.v (encs a3.l)), (4, .box 87 [.sl (.own 5) 6 (r_st_GMiss a4)]), (5, .row 93 6 (r_st_GMiss a4).length), (6, .box 152 [.func 77 [] [.ptr 1 0, .ptr 2 0, .ptr 4 0, .ptr 6 0]])] [(1, .box 90 [.sl .ro 1 (r_sl_st_GInst r.1)]), (2, .box 22 [.mv 3 r.2.1.v .hdr]), (3, .arr 24 5 r.2.1.v (encs r.2.1.l)), (4, .box 87 [.sl (.own 5) 6 (r_st_GMiss r.2.2)]), (5, .row 93 6 (r_st_GMiss r.2.2).length), (6, .box 152 [.func 77 [] [.ptr 1 0, .ptr 2 0, .ptr 4 0, .ptr 6 0]])] (.tup [])) (a0 : Int) (a1 : Val) (a2 : List (List GInst)) (a3 : Ar Val) (a4 : List GMiss) (r : List (List GInst) × Ar Val × List GMiss) (hr : s_f77 n a0 a1 a2 a3 a4 = some r) : ACallH Try.prog 77 [.int .i64 a0, .agg (valC a1), .ptr 1 0, .ptr 2 0, .ptr 4 0, .ptr 6 0] [(1, .box 90 [.sl .ro 1 (r_sl_st_GInst a2)]), (2, .box 22 [.mv 3 a3.v .hdr]), (3, .arr 24 5 a3.v (encs a3.l)), (4, .box 87 [.sl (.own 5) 6 (r_st_GMiss a4)]), (5, .row 93 6 (r_st_GMiss a4).length), (6, .box 152 [.func 77 [] [.ptr 1 0, .ptr 2 0, .ptr 4 0, .ptr 6 0]])] [(1, .box 90 [.sl .ro 1 (r_sl_st_GInst r.1)]), (2, .box 22 [.mv 3 r.2.1.v .hdr]), (3, .arr 24 5 r.2.1.v (encs r.2.1.l)), (4, .box 87 [.sl (.own 5) 6 (r_st_GMiss r.2.2)]), (5, .row 93 6 (r_st_GMiss r.2.2).length), (6, .box 152 [.func 77 [] [.ptr 1 0, .ptr 2 0, .ptr 4 0, .ptr 6 0]])] (.tup []) := by
  refine ACallH.go [(0, .int .i64 a0), (1, .agg (valC a1)), (2, .ptr 1 0), (3, .ptr 2 0), (4, .ptr 4 0), (5, .ptr 6 0)] [(6, .box 152 [.func 77 [] [.ptr 1 0, .ptr 2 0, .ptr 4 0, .ptr 6 0]]), (5, .row 93 6 (r_st_GMiss a4).length), (4, .box 87 [.sl (.own 5) 6 (r_st_GMiss a4)]), (3, .arr 24 5 a3.v (encs a3.l)), (2, .box 22 [.mv 3 a3.v .hdr]), (1, .box 90 [.sl .ro 1 (r_sl_st_GInst a2)])] Try.func77 rfl Try.ntmps77 rfl rfl rfl (by simp [pureA, pureL, pureR, inA, inL, inR, inO, idsIn, encs_pure, enxs_pure, enys_pure, valC_pure, exC_pure, tyC_pure, r_int_u8_pure, r_st_GInst_pure, r_sl_st_GInst_pure, r_st_GMiss_pure]) (List.forall_mem_cons.2 ⟨(by simp [pureA, pureL, pureR, inA, inL, inR, inO, idsIn, encs_pure, enxs_pure, enys_pure, valC_pure, exC_pure, tyC_pure, r_int_u8_pure, r_st_GInst_pure, r_sl_st_GInst_pure, r_st_GMiss_pure]), (List.forall_mem_cons.2 ⟨(by simp [pureA, pureL, pureR, inA, inL, inR, inO, idsIn, encs_pure, enxs_pure, enys_pure, valC_pure, exC_pure, tyC_pure, r_int_u8_pure, r_st_GInst_pure, r_sl_st_GInst_pure, r_st_GMiss_pure]), (List.forall_mem_cons.2 ⟨(by simp [pureA, pureL, pureR, inA, inL, inR, inO, idsIn, encs_pure, enxs_pure, enys_pure, valC_pure, exC_pure, tyC_pure, r_int_u8_pure, r_st_GInst_pure, r_sl_st_GInst_pure, r_st_GMiss_pure]), (List.forall_mem_cons.2 ⟨(by simp [pureA, pureL, pureR, inA, inL, inR, inO, idsIn, encs_pure, enxs_pure, enys_pure, valC_pure, exC_pure, tyC_pure, r_int_u8_pure, r_st_GInst_pure, r_sl_st_GInst_pure, r_st_GMiss_pure]), (List.forall_mem_cons.2 ⟨(by simp [pureA, pureL, pureR, inA, inL, inR, inO, idsIn, encs_pure, enxs_pure, enys_pure, valC_pure, exC_pure, tyC_pure, r_int_u8_pure, r_st_GInst_pure, r_sl_st_GInst_pure, r_st_GMiss_pure]), (List.forall_mem_cons.2 ⟨(by simp [pureA, pureL, pureR, inA, inL, inR, inO, idsIn, encs_pure, enxs_pure, enys_pure, valC_pure, exC_pure, tyC_pure, r_int_u8_pure, r_st_GInst_pure, r_sl_st_GInst_pure, r_st_GMiss_pure]), (fun _ h => by cases h)⟩)⟩)⟩)⟩)⟩)⟩) (List.forall_mem_cons.2 ⟨⟨rfl, (by simp [pureA, pureL, pureR, inA, inL, inR, inO, idsIn, encs_pure, enxs_pure, enys_pure, valC_pure, exC_pure, tyC_pure, r_int_u8_pure, r_st_GInst_pure, r_sl_st_GInst_pure, r_st_GMiss_pure])⟩, (List.forall_mem_cons.2 ⟨⟨rfl, (by simp [pureA, pureL, pureR, inA, inL, inR, inO, idsIn, encs_pure, enxs_pure, enys_pure, valC_pure, exC_pure, tyC_pure, r_int_u8_pure, r_st_GInst_pure, r_sl_st_GInst_pure, r_st_GMiss_pure])⟩, (List.forall_mem_cons.2 ⟨⟨rfl, (by simp [pureA, pureL, pureR, inA, inL, inR, inO, idsIn, encs_pure, enxs_pure, enys_pure, valC_pure, exC_pure, tyC_pure, r_int_u8_pure, r_st_GInst_pure, r_sl_st_GInst_pure, r_st_GMiss_pure])⟩, (List.forall_mem_cons.2 ⟨⟨rfl, (by simp [pureA, pureL, pureR, inA, inL, inR, inO, idsIn, encs_pure, enxs_pure, enys_pure, valC_pure, exC_pure, tyC_pure, r_int_u8_pure, r_st_GInst_pure, r_sl_st_GInst_pure, r_st_GMiss_pure])⟩, (List.forall_mem_cons.2 ⟨⟨rfl, (by simp [pureA, pureL, pureR, inA, inL, inR, inO, idsIn, encs_pure, enxs_pure, enys_pure, valC_pure, exC_pure, tyC_pure, r_int_u8_pure, r_st_GInst_pure, r_sl_st_GInst_pure, r_st_GMiss_pure])⟩, (List.forall_mem_cons.2 ⟨⟨rfl, (by simp [pureA, pureL, pureR, inA, inL, inR, inO, idsIn, encs_pure, enxs_pure, enys_pure, valC_pure, exC_pure, tyC_pure, r_int_u8_pure, r_st_GInst_pure, r_sl_st_GInst_pure, r_st_GMiss_pure])⟩, (fun _ h => by cases h)⟩)⟩)⟩)⟩)⟩)⟩) (by simp [pureA, pureL, pureR, inA, inL, inR, inO, idsIn, encs_pure, enxs_pure, enys_pure, valC_pure, exC_pure, tyC_pure, r_int_u8_pure, r_st_GInst_pure, r_sl_st_GInst_pure, r_st_GMiss_pure]) ?_
  cases n with
  | zero => rw [s_f77] at hr; cases hr
  | succ n =>
    rw [s_f77] at hr
    refine AW.seq ?_
    refine AW.region (M := fun _ => true) ?_
    refine AL.bx good (d := 7) (l := [.int .i64 a1.kind, .int .i64 a1.i, .bool a1.b, .str a1.s, .sl .ro 5 (encs a1.t)]) rfl rfl rfl rfl rfl rfl 7 rfl ?_
    refine AW.seq ?_
    refine AW.seq ?_
    refine AW.region (M := fun _ => true) ?_
    refine AL.v good (d := 12) (v := .int .i64 a0) rfl rfl rfl rfl ?_
    refine AL.v good (d := 13) (v := .sl .ro 1 (r_sl_st_GInst a2)) rfl rfl rfl rfl ?_
    refine AL.ln good (d := 14) (m := a2.length) rfl rfl rfl rfl rfl rfl (r_sl_st_GInst_length _) ?_
    refine AL.v good (d := 15) (v := .bool (a0 == (a2.length : Int))) rfl rfl rfl rfl ?_
    refine AW.if rfl (fun h1 => ?_) (fun h1 => ?_)
    · replace hr := cnd_t h1 hr
      refine AW.seq ?_
      refine AW.drawc (M := fun i => ⟨Nat.beq i 4 || Nat.beq i 5 || Nat.beq i 6 || Nat.beq i 7, bif Nat.beq i 0 then some { ids := [2] } else bif Nat.beq i 1 then some { ids := [7] } else bif Nat.beq i 2 then some { ids := [3] } else bif Nat.beq i 3 then some { ids := [8] } else bif Nat.beq i 4 then some { ids := [3] } else bif Nat.beq i 5 then some { ids := [3] } else bif Nat.beq i 6 then some { ids := [3] } else bif Nat.beq i 7 then some { ids := [2] } else none⟩) good.wide (by kernel_rfl) ?_
      refine AL.vc good (d := 16) (v := .mv 3 a3.v .hdr) rfl rfl rfl rfl rfl rfl (List.forall_mem_cons.2 ⟨.head _, (fun _ h => by cases h)⟩) ?_
      refine AL.vc good (d := 17) (v := .agg [.int .i64 a1.kind, .int .i64 a1.i, .bool a1.b, .str a1.s, .sl .ro 5 (encs a1.t)]) rfl rfl rfl rfl rfl rfl (List.forall_mem_cons.2 ⟨.head _, (fun _ h => by cases h)⟩) ?_
      refine AL.mln good (d := 18) (m := a3.l.length) rfl rfl rfl rfl rfl rfl rfl (encs_length _) (ColN.mk rfl rfl (List.forall_mem_cons.2 ⟨.head _, (fun _ h => by cases h)⟩) (fun _ h => by cases h) (fun _ h => by cases h)) ?_
      refine AL.litC good (d := 19) (rows := [[.int .i64 0, .int .i64 0, .bool false, .str ⟨#[]⟩, .sl .nil 0 []]]) rfl rfl rfl rfl rfl rfl rfl rfl rfl 8 rfl (ColN.mk rfl rfl (fun _ h => by cases h) (List.forall_mem_cons.2 ⟨.head _, (fun _ h => by cases h)⟩) (fun _ h => by cases h)) ?_
      obtain ⟨h2, hr⟩ := grd hr
      refine AL.mpp good (d := 20) (news := [(valC (Val.mk 0 0 false ⟨#[]⟩ []))]) (rows2 := encs (a3.l ++ [(Val.mk 0 0 false ⟨#[]⟩ [])])) rfl rfl rfl rfl rfl rfl rfl rfl rfl (by simp) rfl rfl rfl (by simp) ⟨⟨Wv.refl _, Wv.refl _, Wv.refl _, Wv.refl _, ⟨.inr rfl, trivial, .inr rfl⟩, trivial⟩, trivial⟩ (by simp [encs_map]) (by rw [encs_length]; simp only [List.length_append, List.length_cons, List.length_nil]; exact h2) rfl (ColN.mk rfl rfl (List.forall_mem_cons.2 ⟨.head _, (fun _ h => by cases h)⟩) (List.forall_mem_cons.2 ⟨.head _, (fun _ h => by cases h)⟩) (fun _ h => by cases h)) ?_
      obtain ⟨x3, h4, hr⟩ := bnd1 hr
      refine AL.mix good (d := 21) (q := a3.l.length) rfl rfl rfl rfl rfl rfl rfl rfl (Int.natCast_nonneg _) rfl (encs_get h4) rfl (ColN.mk rfl rfl (List.forall_mem_cons.2 ⟨.head _, (fun _ h => by cases h)⟩) (fun _ h => by cases h) (fun _ h => by cases h)) ?_
      refine AL.mst good (rows2 := encs ((a3.l ++ [(Val.mk 0 0 false ⟨#[]⟩ [])]).set a3.l.length a1)) rfl rfl rfl rfl rfl rfl rfl rfl rfl (encs_get h4) rfl rfl (encs_set _ _ _) (ColN.mk rfl rfl (List.forall_mem_cons.2 ⟨.head _, (fun _ h => by cases h)⟩) (List.forall_mem_cons.2 ⟨.head _, (fun _ h => by cases h)⟩) (fun _ h => by cases h)) ?_
      refine AL.st2c good (c2 := [.mv 3 (a3.v + 1) .hdr]) rfl rfl rfl rfl rfl rfl rfl rfl rfl rfl rfl rfl rfl ?_
      refine AW.ret ?_
      obtain rfl := Option.some.inj hr
      exact RetH.w good (.inr rfl) rfl rfl (Wv.refl _) (List.forall_mem_cons.2 ⟨rfl, (List.forall_mem_cons.2 ⟨rfl, (List.forall_mem_cons.2 ⟨rfl, (List.forall_mem_cons.2 ⟨rfl, (List.forall_mem_cons.2 ⟨rfl, (List.forall_mem_cons.2 ⟨rfl, (fun _ h => by cases h)⟩)⟩)⟩)⟩)⟩)⟩)
    · replace hr := cnd_f h1 hr
      refine AW.skip ?_
      refine AW.seq ?_
      refine AW.drawc (M := fun i => ⟨false, bif Nat.beq i 0 then some { ids := [1] } else bif Nat.beq i 3 then some { ids := [] } else bif Nat.beq i 4 then some { ids := [7] } else none⟩) good.wide (by kernel_rfl) ?_
      refine AL.vc good (d := 23) (v := .sl .ro 1 (r_sl_st_GInst a2)) rfl rfl rfl rfl rfl rfl (List.forall_mem_cons.2 ⟨.head _, (fun _ h => by cases h)⟩) ?_
      refine AL.v (nc := ⟨rfl⟩) good (d := 24) (v := .int .i64 a0) rfl rfl rfl rfl ?_
      obtain ⟨h7, hr⟩ := grd hr
      obtain ⟨x5, h6, hr⟩ := bnd1 hr
      refine AL.ix (nc := ⟨rfl⟩) good (d := 25) (r := [.sl .ro 7 (r_st_GInst x5)]) rfl rfl rfl rfl rfl rfl rfl h7 (r_sl_st_GInst_get h6) ?_
      refine AL.vc good (d := 26) (v := .sl .ro 7 (r_st_GInst x5)) rfl rfl rfl rfl rfl rfl (fun _ h => by cases h) ?_
      refine AL.vc good (d := 27) (v := .agg [.int .i64 a1.kind, .int .i64 a1.i, .bool a1.b, .str a1.s, .sl .ro 5 (encs a1.t)]) rfl rfl rfl rfl rfl rfl (List.forall_mem_cons.2 ⟨.head _, (fun _ h => by cases h)⟩) ?_
      obtain ⟨q8, h9, hr⟩ := bnd1 hr
      refine AL.cw (nc := ⟨rfl⟩) good (d := 28) (xs := [.sl .ro 7 (r_st_GInst x5), .agg (valC a1)]) (res := .tup [.sl .ro 5 (encs q8.1), .int .i64 q8.2]) rfl rfl rfl rfl rfl rfl rfl (w_f40 _ _ _ _ h9) ⟨(Wv.refl _), (Wv.refl _), trivial⟩ (by simp [pureA, pureL, pureR, inA, inL, inR, inO, idsIn, encs_pure, enxs_pure, enys_pure, valC_pure, exC_pure, tyC_pure, r_int_u8_pure, r_st_GInst_pure, r_sl_st_GInst_pure, r_st_GMiss_pure]) ?_
      refine AL.v (nc := ⟨rfl⟩) good (d := 22) (v := .tup [.sl .ro 5 (encs q8.1), .int .i64 q8.2]) rfl rfl rfl rfl ?_
      refine AL.v (nc := ⟨rfl⟩) good (d := 29) (v := .sl .ro 5 (encs q8.1)) rfl rfl rfl rfl ?_
      refine AL.v (nc := ⟨rfl⟩) good (d := 30) (v := .int .i64 q8.2) rfl rfl rfl rfl ?_
      refine AL.v (nc := ⟨rfl⟩) good (d := 8) (v := .sl .ro 5 (encs q8.1)) rfl rfl rfl rfl ?_
      refine AL.v (nc := ⟨rfl⟩) good (d := 9) (v := .int .i64 q8.2) rfl rfl rfl rfl ?_
      refine AW.seq ?_
      refine AW.seq ?_
      refine AW.region (M := fun _ => true) ?_
      refine AL.v good (d := 31) (v := .int .i64 q8.2) rfl rfl rfl rfl ?_
      refine AL.v good (d := 32) (v := .bool (q8.2 != 0)) rfl rfl rfl rfl ?_
      refine AW.if rfl (fun h10 => ?_) (fun h10 => ?_)
      · replace hr := cnd_t h10 hr
        refine AW.region (M := fun _ => true) ?_
        refine AL.v good (d := 33) (v := .sl (.own 5) 6 (r_st_GMiss a4)) rfl rfl rfl rfl ?_
        refine AL.v good (d := 34) (v := .int .i64 a0) rfl rfl rfl rfl ?_
        refine AL.v good (d := 35) (v := .agg [.int .i64 a1.kind, .int .i64 a1.i, .bool a1.b, .str a1.s, .sl .ro 5 (encs a1.t)]) rfl rfl rfl rfl ?_
        refine AL.bld good (d := 36) (l := [.int .i64 a0, .int .i64 a1.kind, .int .i64 a1.i, .bool a1.b, .str a1.s, .sl .ro 5 (encs a1.t)]) rfl rfl rfl rfl rfl rfl rfl ?_
        refine AL.lit good (d := 37) (rows := [[.int .i64 a0, .int .i64 a1.kind, .int .i64 a1.i, .bool a1.b, .str a1.s, .sl .ro 5 (encs a1.t)]]) rfl rfl rfl rfl rfl rfl rfl rfl rfl 8 rfl ?_
        obtain ⟨h11, hr⟩ := grd hr
        refine AL.aw2 good (d := 38) (rows := r_st_GMiss a4) (news := [[.int .i64 (((GMiss.mk a0 a1)).f0), .int .i64 ((((GMiss.mk a0 a1)).f1).kind), .int .i64 ((((GMiss.mk a0 a1)).f1).i), .bool ((((GMiss.mk a0 a1)).f1).b), .str ((((GMiss.mk a0 a1)).f1).s), .sl .ro 5 (encs ((((GMiss.mk a0 a1)).f1).t))]]) (rows2 := r_st_GMiss (a4 ++ [(GMiss.mk a0 a1)])) rfl rfl rfl rfl rfl rfl rfl rfl rfl (by simp) rfl rfl rfl ⟨⟨Wv.refl _, Wv.refl _, Wv.refl _, Wv.refl _, Wv.refl _, Wv.refl _, trivial⟩, trivial⟩ (by simp [r_st_GMiss, rowF]) (by rw [r_st_GMiss_length, List.length_append]; exact h11) rfl ?_
        refine AL.st2 good (c2 := [.sl (.own 5) 6 (r_st_GMiss (a4 ++ [(GMiss.mk a0 a1)]))]) rfl rfl rfl rfl rfl rfl rfl rfl rfl rfl rfl rfl ?_
        refine AW.seq ?_
        refine AW.region (M := fun _ => true) ?_
        refine AL.v good (d := 39) (v := .sl .ro 5 (encs q8.1)) rfl rfl rfl rfl ?_
        refine AL.ln good (d := 40) (m := q8.1.length) rfl rfl rfl rfl rfl rfl (encs_length _) ?_
        refine AL.v good (d := 41) (v := .int .i64 0) rfl rfl rfl rfl ?_
        refine AW.block ?_
        refine AW.lens 39 rfl (fun hl18 => ?_)
        replace hl18 : q8.1.length ≤ 9223372036854775807 := by rw [← encs_length q8.1]; exact hl18
        refine AW.lpw (fun x : Nat × Nat × (List (List GInst)) × Nat × (List Val) × (List GMiss) => [(0, .int .i64 a0), (5, .ptr 6 0), (39, .sl .ro 5 (encs q8.1)), (40, .int .i64 (q8.1.length : Int)), (41, .int .i64 (x.2.1 : Int))]) (fun x => [(1, .box 90 [.sl .ro 1 (r_sl_st_GInst x.2.2.1)]), (2, .box 22 [.mv 3 x.2.2.2.1 .hdr]), (3, .arr 24 5 x.2.2.2.1 (encs x.2.2.2.2.1)), (4, .box 87 [.sl (.own 5) 6 (r_st_GMiss x.2.2.2.2.2)]), (5, .row 93 6 (r_st_GMiss x.2.2.2.2.2).length), (6, .box 152 [.func 77 [] [.ptr 1 0, .ptr 2 0, .ptr 4 0, .ptr 6 0]])]) (fun x => s_f77_l1 x.1 a0 q8 x.2.1 x.2.2.1 x.2.2.2.1 x.2.2.2.2.1 x.2.2.2.2.2 = some r ∧ x.1 ≤ n) (fun x => x.1) (n, 0, a2, a3.v, a3.l, (a4 ++ [(GMiss.mk a0 a1)])) ⟨(idsIn_sub rfl), List.forall_mem_cons.2 ⟨⟨⟨_, rfl, Wv.refl _⟩, (by simp [pureA, pureL, pureR, inA, inL, inR, inO, idsIn, encs_pure, enxs_pure, enys_pure, valC_pure, exC_pure, tyC_pure, r_int_u8_pure, r_st_GInst_pure, r_sl_st_GInst_pure, r_st_GMiss_pure])⟩, List.forall_mem_cons.2 ⟨⟨⟨_, rfl, Wv.refl _⟩, (by simp [pureA, pureL, pureR, inA, inL, inR, inO, idsIn, encs_pure, enxs_pure, enys_pure, valC_pure, exC_pure, tyC_pure, r_int_u8_pure, r_st_GInst_pure, r_sl_st_GInst_pure, r_st_GMiss_pure])⟩, List.forall_mem_cons.2 ⟨⟨⟨_, rfl, Wv.refl _⟩, (by simp [pureA, pureL, pureR, inA, inL, inR, inO, idsIn, encs_pure, enxs_pure, enys_pure, valC_pure, exC_pure, tyC_pure, r_int_u8_pure, r_st_GInst_pure, r_sl_st_GInst_pure, r_st_GMiss_pure])⟩, List.forall_mem_cons.2 ⟨⟨⟨_, rfl, Wv.refl _⟩, (by simp [pureA, pureL, pureR, inA, inL, inR, inO, idsIn, encs_pure, enxs_pure, enys_pure, valC_pure, exC_pure, tyC_pure, r_int_u8_pure, r_st_GInst_pure, r_sl_st_GInst_pure, r_st_GMiss_pure])⟩, List.forall_mem_cons.2 ⟨⟨⟨_, rfl, Wv.refl _⟩, (by simp [pureA, pureL, pureR, inA, inL, inR, inO, idsIn, encs_pure, enxs_pure, enys_pure, valC_pure, exC_pure, tyC_pure, r_int_u8_pure, r_st_GInst_pure, r_sl_st_GInst_pure, r_st_GMiss_pure])⟩, (fun _ h => by cases h)⟩⟩⟩⟩⟩, List.forall_mem_cons.2 ⟨⟨⟨_, rfl, ⟨rfl, ⟨Wv.refl _, trivial⟩⟩⟩, (by simp [pureA, pureL, pureR, inA, inL, inR, inO, idsIn, encs_pure, enxs_pure, enys_pure, valC_pure, exC_pure, tyC_pure, r_int_u8_pure, r_st_GInst_pure, r_sl_st_GInst_pure, r_st_GMiss_pure])⟩, List.forall_mem_cons.2 ⟨⟨⟨_, rfl, ⟨rfl, ⟨Wv.refl _, trivial⟩⟩⟩, (by simp [pureA, pureL, pureR, inA, inL, inR, inO, idsIn, encs_pure, enxs_pure, enys_pure, valC_pure, exC_pure, tyC_pure, r_int_u8_pure, r_st_GInst_pure, r_sl_st_GInst_pure, r_st_GMiss_pure])⟩, List.forall_mem_cons.2 ⟨⟨⟨_, rfl, ⟨rfl, rfl, rfl, WvR.refl _⟩⟩, (by simp [pureA, pureL, pureR, inA, inL, inR, inO, idsIn, encs_pure, enxs_pure, enys_pure, valC_pure, exC_pure, tyC_pure, r_int_u8_pure, r_st_GInst_pure, r_sl_st_GInst_pure, r_st_GMiss_pure])⟩, List.forall_mem_cons.2 ⟨⟨⟨_, rfl, ⟨rfl, ⟨Wv.refl _, trivial⟩⟩⟩, (by simp [pureA, pureL, pureR, inA, inL, inR, inO, idsIn, encs_pure, enxs_pure, enys_pure, valC_pure, exC_pure, tyC_pure, r_int_u8_pure, r_st_GInst_pure, r_sl_st_GInst_pure, r_st_GMiss_pure])⟩, List.forall_mem_cons.2 ⟨⟨⟨_, rfl, ⟨rfl, rfl, rfl⟩⟩, (by simp [pureA, pureL, pureR, inA, inL, inR, inO, idsIn, encs_pure, enxs_pure, enys_pure, valC_pure, exC_pure, tyC_pure, r_int_u8_pure, r_st_GInst_pure, r_sl_st_GInst_pure, r_st_GMiss_pure])⟩, List.forall_mem_cons.2 ⟨⟨⟨_, rfl, ⟨rfl, ⟨Wv.refl _, trivial⟩⟩⟩, (by simp [pureA, pureL, pureR, inA, inL, inR, inO, idsIn, encs_pure, enxs_pure, enys_pure, valC_pure, exC_pure, tyC_pure, r_int_u8_pure, r_st_GInst_pure, r_sl_st_GInst_pure, r_st_GMiss_pure])⟩, (fun _ h => by cases h)⟩⟩⟩⟩⟩⟩⟩ ⟨hr, Nat.le_refl _⟩ (fun ⟨m, v1_1, v1_2, v1_3, v1_4, v1_5⟩ hx => ?_)
        obtain ⟨hr, hm⟩ := hx
        try dsimp only at hr hm
        cases m with
        | zero => rw [s_f77_l1] at hr; cases hr
        | succ m =>
          rw [s_f77_l1] at hr
          show AW Try.prog _ _ _ (mkS 51 [(0, .int .i64 a0), (5, .ptr 6 0), (39, .sl .ro 5 (encs q8.1)), (40, .int .i64 (q8.1.length : Int)), (41, .int .i64 (v1_1 : Int))] [(1, .box 90 [.sl .ro 1 (r_sl_st_GInst v1_2)]), (2, .box 22 [.mv 3 v1_3 .hdr]), (3, .arr 24 5 v1_3 (encs v1_4)), (4, .box 87 [.sl (.own 5) 6 (r_st_GMiss v1_5)]), (5, .row 93 6 (r_st_GMiss v1_5).length), (6, .box 152 [.func 77 [] [.ptr 1 0, .ptr 2 0, .ptr 4 0, .ptr 6 0]])])
          refine AW.seq ?_
          refine AW.region (M := fun _ => true) ?_
          refine AL.v good (d := 42) (v := .bool (decide ((v1_1 : Int) < (q8.1.length : Int)))) rfl rfl rfl rfl ?_
          refine AW.seq ?_
          refine AW.if rfl (fun h19 => ?_) (fun h19 => ?_)
          · replace hr := cnd_t h19 hr
            refine AW.skip ?_
            refine AW.seq ?_
            refine AW.block ?_
            refine AW.seq ?_
            refine AW.region (M := fun _ => true) ?_
            obtain ⟨x20, h21, hr⟩ := bnd1 hr
            refine AL.ix good (d := 43) (r := [.int .i64 x20.kind, .int .i64 x20.i, .bool x20.b, .str x20.s, .sl .ro 5 (encs x20.t)]) rfl rfl rfl rfl rfl rfl rfl (Int.natCast_nonneg _) (encs_get h21) ?_
            refine AL.v good (d := 44) (v := .agg [.int .i64 x20.kind, .int .i64 x20.i, .bool x20.b, .str x20.s, .sl .ro 5 (encs x20.t)]) rfl rfl rfl rfl ?_
            refine AL.alc good (d := 11) rfl rfl rfl rfl rfl 9 rfl ?_
            refine AL.st2 good (c2 := [.int .i64 x20.kind, .int .i64 x20.i, .bool x20.b, .str x20.s, .sl .ro 5 (encs x20.t)]) rfl rfl rfl rfl rfl rfl rfl rfl rfl rfl rfl rfl ?_
            refine AW.region (M := fun _ => true) ?_
            refine AL.v good (d := 45) (v := .func 77 [] [.ptr 1 0, .ptr 2 0, .ptr 4 0, .ptr 6 0]) rfl rfl rfl rfl ?_
            refine AL.v good (d := 46) (v := .int .i64 a0) rfl rfl rfl rfl ?_
            refine AL.v good (d := 47) (v := .int .i64 (IntKind.i64.wrap (a0 + 1))) rfl rfl rfl rfl ?_
            refine AL.v good (d := 48) (v := .agg [.int .i64 x20.kind, .int .i64 x20.i, .bool x20.b, .str x20.s, .sl .ro 5 (encs x20.t)]) rfl rfl rfl rfl ?_
            obtain ⟨q22, h23, hr⟩ := bnd1 hr
            refine AL.clW good (d := 49) (xs := [.int .i64 (IntKind.i64.wrap (a0 + 1)), .agg (valC x20), .ptr 1 0, .ptr 2 0, .ptr 4 0, .ptr 6 0]) (rd := [(1, .box 90 [.sl .ro 1 (r_sl_st_GInst v1_2)]), (2, .box 22 [.mv 3 (((Ar.mk v1_3 v1_4)).v) .hdr]), (3, .arr 24 5 (((Ar.mk v1_3 v1_4)).v) (encs (((Ar.mk v1_3 v1_4)).l))), (4, .box 87 [.sl (.own 5) 6 (r_st_GMiss v1_5)]), (5, .row 93 6 (r_st_GMiss v1_5).length), (6, .box 152 [.func 77 [] [.ptr 1 0, .ptr 2 0, .ptr 4 0, .ptr 6 0]])]) (up := [(1, .box 90 [.sl .ro 1 (r_sl_st_GInst q22.1)]), (2, .box 22 [.mv 3 q22.2.1.v .hdr]), (3, .arr 24 5 q22.2.1.v (encs q22.2.1.l)), (4, .box 87 [.sl (.own 5) 6 (r_st_GMiss q22.2.2)]), (5, .row 93 6 (r_st_GMiss q22.2.2).length), (6, .box 152 [.func 77 [] [.ptr 1 0, .ptr 2 0, .ptr 4 0, .ptr 6 0]])]) (res := .tup []) rfl rfl rfl rfl rfl rfl rfl (ih _ _ _ _ _ _ _ h23 (by omega)) ⟨(Wv.refl _), (Wv.refl _), (Wv.refl _), (Wv.refl _), (Wv.refl _), (Wv.refl _), trivial⟩ (List.forall_mem_cons.2 ⟨rfl, (List.forall_mem_cons.2 ⟨rfl, (List.forall_mem_cons.2 ⟨rfl, (List.forall_mem_cons.2 ⟨rfl, (List.forall_mem_cons.2 ⟨rfl, (List.forall_mem_cons.2 ⟨rfl, (fun _ h => by cases h)⟩)⟩)⟩)⟩)⟩)⟩) (List.forall_mem_cons.2 ⟨⟨_, .head _⟩, (List.forall_mem_cons.2 ⟨⟨_, .tail _ (.head _)⟩, (List.forall_mem_cons.2 ⟨⟨_, .tail _ (.tail _ (.head _))⟩, (List.forall_mem_cons.2 ⟨⟨_, .tail _ (.tail _ (.tail _ (.head _)))⟩, (List.forall_mem_cons.2 ⟨⟨_, .tail _ (.tail _ (.tail _ (.tail _ (.head _))))⟩, (List.forall_mem_cons.2 ⟨⟨_, .tail _ (.tail _ (.tail _ (.tail _ (.tail _ (.head _)))))⟩, (fun _ h => by cases h)⟩)⟩)⟩)⟩)⟩)⟩) rfl rfl ?_
            refine AW.region (M := fun _ => true) ?_
            refine AL.v good (d := 50) (v := .int .i64 (IntKind.i64.wrap ((v1_1 : Int) + 1))) rfl rfl rfl rfl ?_
            refine AL.v good (d := 41) (v := .int .i64 (IntKind.i64.wrap ((v1_1 : Int) + 1))) rfl rfl rfl rfl ?_
            exact ⟨(m, (v1_1 + 1), q22.1, q22.2.1.v, q22.2.1.l, q22.2.2), _, _, rfl, ⟨(idsIn_sub rfl), List.forall_mem_cons.2 ⟨⟨⟨_, rfl, Wv.refl _⟩, (by simp [pureA, pureL, pureR, inA, inL, inR, inO, idsIn, encs_pure, enxs_pure, enys_pure, valC_pure, exC_pure, tyC_pure, r_int_u8_pure, r_st_GInst_pure, r_sl_st_GInst_pure, r_st_GMiss_pure])⟩, List.forall_mem_cons.2 ⟨⟨⟨_, rfl, Wv.refl _⟩, (by simp [pureA, pureL, pureR, inA, inL, inR, inO, idsIn, encs_pure, enxs_pure, enys_pure, valC_pure, exC_pure, tyC_pure, r_int_u8_pure, r_st_GInst_pure, r_sl_st_GInst_pure, r_st_GMiss_pure])⟩, List.forall_mem_cons.2 ⟨⟨⟨_, rfl, Wv.refl _⟩, (by simp [pureA, pureL, pureR, inA, inL, inR, inO, idsIn, encs_pure, enxs_pure, enys_pure, valC_pure, exC_pure, tyC_pure, r_int_u8_pure, r_st_GInst_pure, r_sl_st_GInst_pure, r_st_GMiss_pure])⟩, List.forall_mem_cons.2 ⟨⟨⟨_, rfl, Wv.refl _⟩, (by simp [pureA, pureL, pureR, inA, inL, inR, inO, idsIn, encs_pure, enxs_pure, enys_pure, valC_pure, exC_pure, tyC_pure, r_int_u8_pure, r_st_GInst_pure, r_sl_st_GInst_pure, r_st_GMiss_pure])⟩, List.forall_mem_cons.2 ⟨⟨⟨_, rfl, (wnx h19 hl18)⟩, (by simp [pureA, pureL, pureR, inA, inL, inR, inO, idsIn, encs_pure, enxs_pure, enys_pure, valC_pure, exC_pure, tyC_pure, r_int_u8_pure, r_st_GInst_pure, r_sl_st_GInst_pure, r_st_GMiss_pure])⟩, (fun _ h => by cases h)⟩⟩⟩⟩⟩, List.forall_mem_cons.2 ⟨⟨⟨_, rfl, ⟨rfl, ⟨Wv.refl _, trivial⟩⟩⟩, (by simp [pureA, pureL, pureR, inA, inL, inR, inO, idsIn, encs_pure, enxs_pure, enys_pure, valC_pure, exC_pure, tyC_pure, r_int_u8_pure, r_st_GInst_pure, r_sl_st_GInst_pure, r_st_GMiss_pure])⟩, List.forall_mem_cons.2 ⟨⟨⟨_, rfl, ⟨rfl, ⟨Wv.refl _, trivial⟩⟩⟩, (by simp [pureA, pureL, pureR, inA, inL, inR, inO, idsIn, encs_pure, enxs_pure, enys_pure, valC_pure, exC_pure, tyC_pure, r_int_u8_pure, r_st_GInst_pure, r_sl_st_GInst_pure, r_st_GMiss_pure])⟩, List.forall_mem_cons.2 ⟨⟨⟨_, rfl, ⟨rfl, rfl, rfl, WvR.refl _⟩⟩, (by simp [pureA, pureL, pureR, inA, inL, inR, inO, idsIn, encs_pure, enxs_pure, enys_pure, valC_pure, exC_pure, tyC_pure, r_int_u8_pure, r_st_GInst_pure, r_sl_st_GInst_pure, r_st_GMiss_pure])⟩, List.forall_mem_cons.2 ⟨⟨⟨_, rfl, ⟨rfl, ⟨Wv.refl _, trivial⟩⟩⟩, (by simp [pureA, pureL, pureR, inA, inL, inR, inO, idsIn, encs_pure, enxs_pure, enys_pure, valC_pure, exC_pure, tyC_pure, r_int_u8_pure, r_st_GInst_pure, r_sl_st_GInst_pure, r_st_GMiss_pure])⟩, List.forall_mem_cons.2 ⟨⟨⟨_, rfl, ⟨rfl, rfl, rfl⟩⟩, (by simp [pureA, pureL, pureR, inA, inL, inR, inO, idsIn, encs_pure, enxs_pure, enys_pure, valC_pure, exC_pure, tyC_pure, r_int_u8_pure, r_st_GInst_pure, r_sl_st_GInst_pure, r_st_GMiss_pure])⟩, List.forall_mem_cons.2 ⟨⟨⟨_, rfl, ⟨rfl, ⟨Wv.refl _, trivial⟩⟩⟩, (by simp [pureA, pureL, pureR, inA, inL, inR, inO, idsIn, encs_pure, enxs_pure, enys_pure, valC_pure, exC_pure, tyC_pure, r_int_u8_pure, r_st_GInst_pure, r_sl_st_GInst_pure, r_st_GMiss_pure])⟩, (fun _ h => by cases h)⟩⟩⟩⟩⟩⟩⟩, ⟨hr, Nat.le_of_succ_le hm⟩, Nat.lt_succ_self _⟩
          · replace hr := cnd_f h19 hr
            refine AW.exit ?_
            obtain rfl := Option.some.inj hr
            exact RetH.w good (.inl rfl) rfl rfl (Wv.refl _) (List.forall_mem_cons.2 ⟨rfl, (List.forall_mem_cons.2 ⟨rfl, (List.forall_mem_cons.2 ⟨rfl, (List.forall_mem_cons.2 ⟨rfl, (List.forall_mem_cons.2 ⟨rfl, (List.forall_mem_cons.2 ⟨rfl, (fun _ h => by cases h)⟩)⟩)⟩)⟩)⟩)⟩)
      · replace hr := cnd_f h10 hr
        refine AW.skip ?_
        refine AW.seq ?_
        refine AW.region (M := fun _ => true) ?_
        refine AL.v good (d := 39) (v := .sl .ro 5 (encs q8.1)) rfl rfl rfl rfl ?_
        refine AL.ln good (d := 40) (m := q8.1.length) rfl rfl rfl rfl rfl rfl (encs_length _) ?_
        refine AL.v good (d := 41) (v := .int .i64 0) rfl rfl rfl rfl ?_
        refine AW.block ?_
        refine AW.lens 39 rfl (fun hl30 => ?_)
        replace hl30 : q8.1.length ≤ 9223372036854775807 := by rw [← encs_length q8.1]; exact hl30
        refine AW.lpw (fun x : Nat × Nat × (List (List GInst)) × Nat × (List Val) × (List GMiss) => [(0, .int .i64 a0), (5, .ptr 6 0), (39, .sl .ro 5 (encs q8.1)), (40, .int .i64 (q8.1.length : Int)), (41, .int .i64 (x.2.1 : Int))]) (fun x => [(1, .box 90 [.sl .ro 1 (r_sl_st_GInst x.2.2.1)]), (2, .box 22 [.mv 3 x.2.2.2.1 .hdr]), (3, .arr 24 5 x.2.2.2.1 (encs x.2.2.2.2.1)), (4, .box 87 [.sl (.own 5) 6 (r_st_GMiss x.2.2.2.2.2)]), (5, .row 93 6 (r_st_GMiss x.2.2.2.2.2).length), (6, .box 152 [.func 77 [] [.ptr 1 0, .ptr 2 0, .ptr 4 0, .ptr 6 0]])]) (fun x => s_f77_l1 x.1 a0 q8 x.2.1 x.2.2.1 x.2.2.2.1 x.2.2.2.2.1 x.2.2.2.2.2 = some r ∧ x.1 ≤ n) (fun x => x.1) (n, 0, a2, a3.v, a3.l, a4) ⟨(idsIn_sub rfl), List.forall_mem_cons.2 ⟨⟨⟨_, rfl, Wv.refl _⟩, (by simp [pureA, pureL, pureR, inA, inL, inR, inO, idsIn, encs_pure, enxs_pure, enys_pure, valC_pure, exC_pure, tyC_pure, r_int_u8_pure, r_st_GInst_pure, r_sl_st_GInst_pure, r_st_GMiss_pure])⟩, List.forall_mem_cons.2 ⟨⟨⟨_, rfl, Wv.refl _⟩, (by simp [pureA, pureL, pureR, inA, inL, inR, inO, idsIn, encs_pure, enxs_pure, enys_pure, valC_pure, exC_pure, tyC_pure, r_int_u8_pure, r_st_GInst_pure, r_sl_st_GInst_pure, r_st_GMiss_pure])⟩, List.forall_mem_cons.2 ⟨⟨⟨_, rfl, Wv.refl _⟩, (by simp [pureA, pureL, pureR, inA, inL, inR, inO, idsIn, encs_pure, enxs_pure, enys_pure, valC_pure, exC_pure, tyC_pure, r_int_u8_pure, r_st_GInst_pure, r_sl_st_GInst_pure, r_st_GMiss_pure])⟩, List.forall_mem_cons.2 ⟨⟨⟨_, rfl, Wv.refl _⟩, (by simp [pureA, pureL, pureR, inA, inL, inR, inO, idsIn, encs_pure, enxs_pure, enys_pure, valC_pure, exC_pure, tyC_pure, r_int_u8_pure, r_st_GInst_pure, r_sl_st_GInst_pure, r_st_GMiss_pure])⟩, List.forall_mem_cons.2 ⟨⟨⟨_, rfl, Wv.refl _⟩, (by simp [pureA, pureL, pureR, inA, inL, inR, inO, idsIn, encs_pure, enxs_pure, enys_pure, valC_pure, exC_pure, tyC_pure, r_int_u8_pure, r_st_GInst_pure, r_sl_st_GInst_pure, r_st_GMiss_pure])⟩, (fun _ h => by cases h)⟩⟩⟩⟩⟩, List.forall_mem_cons.2 ⟨⟨⟨_, rfl, ⟨rfl, ⟨Wv.refl _, trivial⟩⟩⟩, (by simp [pureA, pureL, pureR, inA, inL, inR, inO, idsIn, encs_pure, enxs_pure, enys_pure, valC_pure, exC_pure, tyC_pure, r_int_u8_pure, r_st_GInst_pure, r_sl_st_GInst_pure, r_st_GMiss_pure])⟩, List.forall_mem_cons.2 ⟨⟨⟨_, rfl, ⟨rfl, ⟨Wv.refl _, trivial⟩⟩⟩, (by simp [pureA, pureL, pureR, inA, inL, inR, inO, idsIn, encs_pure, enxs_pure, enys_pure, valC_pure, exC_pure, tyC_pure, r_int_u8_pure, r_st_GInst_pure, r_sl_st_GInst_pure, r_st_GMiss_pure])⟩, List.forall_mem_cons.2 ⟨⟨⟨_, rfl, ⟨rfl, rfl, rfl, WvR.refl _⟩⟩, (by simp [pureA, pureL, pureR, inA, inL, inR, inO, idsIn, encs_pure, enxs_pure, enys_pure, valC_pure, exC_pure, tyC_pure, r_int_u8_pure, r_st_GInst_pure, r_sl_st_GInst_pure, r_st_GMiss_pure])⟩, List.forall_mem_cons.2 ⟨⟨⟨_, rfl, ⟨rfl, ⟨Wv.refl _, trivial⟩⟩⟩, (by simp [pureA, pureL, pureR, inA, inL, inR, inO, idsIn, encs_pure, enxs_pure, enys_pure, valC_pure, exC_pure, tyC_pure, r_int_u8_pure, r_st_GInst_pure, r_sl_st_GInst_pure, r_st_GMiss_pure])⟩, List.forall_mem_cons.2 ⟨⟨⟨_, rfl, ⟨rfl, rfl, rfl⟩⟩, (by simp [pureA, pureL, pureR, inA, inL, inR, inO, idsIn, encs_pure, enxs_pure, enys_pure, valC_pure, exC_pure, tyC_pure, r_int_u8_pure, r_st_GInst_pure, r_sl_st_GInst_pure, r_st_GMiss_pure])⟩, List.forall_mem_cons.2 ⟨⟨⟨_, rfl, ⟨rfl, ⟨Wv.refl _, trivial⟩⟩⟩, (by simp [pureA, pureL, pureR, inA, inL, inR, inO, idsIn, encs_pure, enxs_pure, enys_pure, valC_pure, exC_pure, tyC_pure, r_int_u8_pure, r_st_GInst_pure, r_sl_st_GInst_pure, r_st_GMiss_pure])⟩, (fun _ h => by cases h)⟩⟩⟩⟩⟩⟩⟩ ⟨hr, Nat.le_refl _⟩ (fun ⟨m, v2_1, v2_2, v2_3, v2_4, v2_5⟩ hx => ?_)
        obtain ⟨hr, hm⟩ := hx
        try dsimp only at hr hm
        cases m with
        | zero => rw [s_f77_l1] at hr; cases hr
        | succ m =>
          rw [s_f77_l1] at hr
          show AW Try.prog _ _ _ (mkS 51 [(0, .int .i64 a0), (5, .ptr 6 0), (39, .sl .ro 5 (encs q8.1)), (40, .int .i64 (q8.1.length : Int)), (41, .int .i64 (v2_1 : Int))] [(1, .box 90 [.sl .ro 1 (r_sl_st_GInst v2_2)]), (2, .box 22 [.mv 3 v2_3 .hdr]), (3, .arr 24 5 v2_3 (encs v2_4)), (4, .box 87 [.sl (.own 5) 6 (r_st_GMiss v2_5)]), (5, .row 93 6 (r_st_GMiss v2_5).length), (6, .box 152 [.func 77 [] [.ptr 1 0, .ptr 2 0, .ptr 4 0, .ptr 6 0]])])
          refine AW.seq ?_
          refine AW.region (M := fun _ => true) ?_
          refine AL.v good (d := 42) (v := .bool (decide ((v2_1 : Int) < (q8.1.length : Int)))) rfl rfl rfl rfl ?_
          refine AW.seq ?_
          refine AW.if rfl (fun h31 => ?_) (fun h31 => ?_)
          · replace hr := cnd_t h31 hr
            refine AW.skip ?_
            refine AW.seq ?_
            refine AW.block ?_
            refine AW.seq ?_
            refine AW.region (M := fun _ => true) ?_
            obtain ⟨x32, h33, hr⟩ := bnd1 hr
            refine AL.ix good (d := 43) (r := [.int .i64 x32.kind, .int .i64 x32.i, .bool x32.b, .str x32.s, .sl .ro 5 (encs x32.t)]) rfl rfl rfl rfl rfl rfl rfl (Int.natCast_nonneg _) (encs_get h33) ?_
            refine AL.v good (d := 44) (v := .agg [.int .i64 x32.kind, .int .i64 x32.i, .bool x32.b, .str x32.s, .sl .ro 5 (encs x32.t)]) rfl rfl rfl rfl ?_
            refine AL.alc good (d := 11) rfl rfl rfl rfl rfl 8 rfl ?_
            refine AL.st2 good (c2 := [.int .i64 x32.kind, .int .i64 x32.i, .bool x32.b, .str x32.s, .sl .ro 5 (encs x32.t)]) rfl rfl rfl rfl rfl rfl rfl rfl rfl rfl rfl rfl ?_
            refine AW.region (M := fun _ => true) ?_
            refine AL.v good (d := 45) (v := .func 77 [] [.ptr 1 0, .ptr 2 0, .ptr 4 0, .ptr 6 0]) rfl rfl rfl rfl ?_
            refine AL.v good (d := 46) (v := .int .i64 a0) rfl rfl rfl rfl ?_
            refine AL.v good (d := 47) (v := .int .i64 (IntKind.i64.wrap (a0 + 1))) rfl rfl rfl rfl ?_
            refine AL.v good (d := 48) (v := .agg [.int .i64 x32.kind, .int .i64 x32.i, .bool x32.b, .str x32.s, .sl .ro 5 (encs x32.t)]) rfl rfl rfl rfl ?_
            obtain ⟨q34, h35, hr⟩ := bnd1 hr
            refine AL.clW good (d := 49) (xs := [.int .i64 (IntKind.i64.wrap (a0 + 1)), .agg (valC x32), .ptr 1 0, .ptr 2 0, .ptr 4 0, .ptr 6 0]) (rd := [(1, .box 90 [.sl .ro 1 (r_sl_st_GInst v2_2)]), (2, .box 22 [.mv 3 (((Ar.mk v2_3 v2_4)).v) .hdr]), (3, .arr 24 5 (((Ar.mk v2_3 v2_4)).v) (encs (((Ar.mk v2_3 v2_4)).l))), (4, .box 87 [.sl (.own 5) 6 (r_st_GMiss v2_5)]), (5, .row 93 6 (r_st_GMiss v2_5).length), (6, .box 152 [.func 77 [] [.ptr 1 0, .ptr 2 0, .ptr 4 0, .ptr 6 0]])]) (up := [(1, .box 90 [.sl .ro 1 (r_sl_st_GInst q34.1)]), (2, .box 22 [.mv 3 q34.2.1.v .hdr]), (3, .arr 24 5 q34.2.1.v (encs q34.2.1.l)), (4, .box 87 [.sl (.own 5) 6 (r_st_GMiss q34.2.2)]), (5, .row 93 6 (r_st_GMiss q34.2.2).length), (6, .box 152 [.func 77 [] [.ptr 1 0, .ptr 2 0, .ptr 4 0, .ptr 6 0]])]) (res := .tup []) rfl rfl rfl rfl rfl rfl rfl (ih _ _ _ _ _ _ _ h35 (by omega)) ⟨(Wv.refl _), (Wv.refl _), (Wv.refl _), (Wv.refl _), (Wv.refl _), (Wv.refl _), trivial⟩ (List.forall_mem_cons.2 ⟨rfl, (List.forall_mem_cons.2 ⟨rfl, (List.forall_mem_cons.2 ⟨rfl, (List.forall_mem_cons.2 ⟨rfl, (List.forall_mem_cons.2 ⟨rfl, (List.forall_mem_cons.2 ⟨rfl, (fun _ h => by cases h)⟩)⟩)⟩)⟩)⟩)⟩) (List.forall_mem_cons.2 ⟨⟨_, .head _⟩, (List.forall_mem_cons.2 ⟨⟨_, .tail _ (.head _)⟩, (List.forall_mem_cons.2 ⟨⟨_, .tail _ (.tail _ (.head _))⟩, (List.forall_mem_cons.2 ⟨⟨_, .tail _ (.tail _ (.tail _ (.head _)))⟩, (List.forall_mem_cons.2 ⟨⟨_, .tail _ (.tail _ (.tail _ (.tail _ (.head _))))⟩, (List.forall_mem_cons.2 ⟨⟨_, .tail _ (.tail _ (.tail _ (.tail _ (.tail _ (.head _)))))⟩, (fun _ h => by cases h)⟩)⟩)⟩)⟩)⟩)⟩) rfl rfl ?_
            refine AW.region (M := fun _ => true) ?_
            refine AL.v good (d := 50) (v := .int .i64 (IntKind.i64.wrap ((v2_1 : Int) + 1))) rfl rfl rfl rfl ?_
            refine AL.v good (d := 41) (v := .int .i64 (IntKind.i64.wrap ((v2_1 : Int) + 1))) rfl rfl rfl rfl ?_
            exact ⟨(m, (v2_1 + 1), q34.1, q34.2.1.v, q34.2.1.l, q34.2.2), _, _, rfl, ⟨(idsIn_sub rfl), List.forall_mem_cons.2 ⟨⟨⟨_, rfl, Wv.refl _⟩, (by simp [pureA, pureL, pureR, inA, inL, inR, inO, idsIn, encs_pure, enxs_pure, enys_pure, valC_pure, exC_pure, tyC_pure, r_int_u8_pure, r_st_GInst_pure, r_sl_st_GInst_pure, r_st_GMiss_pure])⟩, List.forall_mem_cons.2 ⟨⟨⟨_, rfl, Wv.refl _⟩, (by simp [pureA, pureL, pureR, inA, inL, inR, inO, idsIn, encs_pure, enxs_pure, enys_pure, valC_pure, exC_pure, tyC_pure, r_int_u8_pure, r_st_GInst_pure, r_sl_st_GInst_pure, r_st_GMiss_pure])⟩, List.forall_mem_cons.2 ⟨⟨⟨_, rfl, Wv.refl _⟩, (by simp [pureA, pureL, pureR, inA, inL, inR, inO, idsIn, encs_pure, enxs_pure, enys_pure, valC_pure, exC_pure, tyC_pure, r_int_u8_pure, r_st_GInst_pure, r_sl_st_GInst_pure, r_st_GMiss_pure])⟩, List.forall_mem_cons.2 ⟨⟨⟨_, rfl, Wv.refl _⟩, (by simp [pureA, pureL, pureR, inA, inL, inR, inO, idsIn, encs_pure, enxs_pure, enys_pure, valC_pure, exC_pure, tyC_pure, r_int_u8_pure, r_st_GInst_pure, r_sl_st_GInst_pure, r_st_GMiss_pure])⟩, List.forall_mem_cons.2 ⟨⟨⟨_, rfl, (wnx h31 hl30)⟩, (by simp [pureA, pureL, pureR, inA, inL, inR, inO, idsIn, encs_pure, enxs_pure, enys_pure, valC_pure, exC_pure, tyC_pure, r_int_u8_pure, r_st_GInst_pure, r_sl_st_GInst_pure, r_st_GMiss_pure])⟩, (fun _ h => by cases h)⟩⟩⟩⟩⟩, List.forall_mem_cons.2 ⟨⟨⟨_, rfl, ⟨rfl, ⟨Wv.refl _, trivial⟩⟩⟩, (by simp [pureA, pureL, pureR, inA, inL, inR, inO, idsIn, encs_pure, enxs_pure, enys_pure, valC_pure, exC_pure, tyC_pure, r_int_u8_pure, r_st_GInst_pure, r_sl_st_GInst_pure, r_st_GMiss_pure])⟩, List.forall_mem_cons.2 ⟨⟨⟨_, rfl, ⟨rfl, ⟨Wv.refl _, trivial⟩⟩⟩, (by simp [pureA, pureL, pureR, inA, inL, inR, inO, idsIn, encs_pure, enxs_pure, enys_pure, valC_pure, exC_pure, tyC_pure, r_int_u8_pure, r_st_GInst_pure, r_sl_st_GInst_pure, r_st_GMiss_pure])⟩, List.forall_mem_cons.2 ⟨⟨⟨_, rfl, ⟨rfl, rfl, rfl, WvR.refl _⟩⟩, (by simp [pureA, pureL, pureR, inA, inL, inR, inO, idsIn, encs_pure, enxs_pure, enys_pure, valC_pure, exC_pure, tyC_pure, r_int_u8_pure, r_st_GInst_pure, r_sl_st_GInst_pure, r_st_GMiss_pure])⟩, List.forall_mem_cons.2 ⟨⟨⟨_, rfl, ⟨rfl, ⟨Wv.refl _, trivial⟩⟩⟩, (by simp [pureA, pureL, pureR, inA, inL, inR, inO, idsIn, encs_pure, enxs_pure, enys_pure, valC_pure, exC_pure, tyC_pure, r_int_u8_pure, r_st_GInst_pure, r_sl_st_GInst_pure, r_st_GMiss_pure])⟩, List.forall_mem_cons.2 ⟨⟨⟨_, rfl, ⟨rfl, rfl, rfl⟩⟩, (by simp [pureA, pureL, pureR, inA, inL, inR, inO, idsIn, encs_pure, enxs_pure, enys_pure, valC_pure, exC_pure, tyC_pure, r_int_u8_pure, r_st_GInst_pure, r_sl_st_GInst_pure, r_st_GMiss_pure])⟩, List.forall_mem_cons.2 ⟨⟨⟨_, rfl, ⟨rfl, ⟨Wv.refl _, trivial⟩⟩⟩, (by simp [pureA, pureL, pureR, inA, inL, inR, inO, idsIn, encs_pure, enxs_pure, enys_pure, valC_pure, exC_pure, tyC_pure, r_int_u8_pure, r_st_GInst_pure, r_sl_st_GInst_pure, r_st_GMiss_pure])⟩, (fun _ h => by cases h)⟩⟩⟩⟩⟩⟩⟩, ⟨hr, Nat.le_of_succ_le hm⟩, Nat.lt_succ_self _⟩
          · replace hr := cnd_f h31 hr
            refine AW.exit ?_
            obtain rfl := Option.some.inj hr
            exact RetH.w good (.inl rfl) rfl rfl (Wv.refl _) (List.forall_mem_cons.2 ⟨rfl, (List.forall_mem_cons.2 ⟨rfl, (List.forall_mem_cons.2 ⟨rfl, (List.forall_mem_cons.2 ⟨rfl, (List.forall_mem_cons.2 ⟨rfl, (List.forall_mem_cons.2 ⟨rfl, (fun _ h => by cases h)⟩)⟩)⟩)⟩)⟩)⟩)
theorem w_f77_1_2_3_4_5_6 (n : Nat) : ∀ (a0 : Int) (a1 : Val) (a2 : List (List GInst)) (a3 : Ar Val) (a4 : List GMiss) (r : List (List GInst) × Ar Val × List GMiss) (hr : s_f77 n a0 a1 a2 a3 a4 = some r), ACallH Try.prog 77 [.int .i64 a0, .agg (valC a1), .ptr 1 0, .ptr 2 0, .ptr 4 0, .ptr 6 0] [(1, .box 90 [.sl .ro 1 (r_sl_st_GInst a2)]), (2, .box 22 [.mv 3 a3.v .hdr]), (3, .arr 24 5 a3.v (encs a3.l)), (4, .box 87 [.sl (.own 5) 6 (r_st_GMiss a4)]), (5, .row 93 6 (r_st_GMiss a4).length), (6, .box 152 [.func 77 [] [.ptr 1 0, .ptr 2 0, .ptr 4 0, .ptr 6 0]])] [(1, .box 90 [.sl .ro 1 (r_sl_st_GInst r.1)]), (2, .box 22 [.mv 3 r.2.1.v .hdr]), (3, .arr 24 5 r.2.1.v (encs r.2.1.l)), (4, .box 87 [.sl (.own 5) 6 (r_st_GMiss r.2.2)]), (5, .row 93 6 (r_st_GMiss r.2.2).length), (6, .box 152 [.func 77 [] [.ptr 1 0, .ptr 2 0, .ptr 4 0, .ptr 6 0]])] (.tup []) := by
  induction n using Nat.strongRecOn with
  | _ n ih =>
    intro a0 a1 a2 a3 a4 r hr
    exact w_f77_1_2_3_4_5_6_a n (fun m a0 a1 a2 a3 a4 r h hm => ih m hm a0 a1 a2 a3 a4 r h) a0 a1 a2 a3 a4 r hr


theorem w_f77_0_2_3_4_5_6_a (n : Nat) (ih : ∀ (m : Nat) (a0 : Int) (a1 : Val) (a2 : List (List GInst)) (a3 : Ar Val) (a4 : List GMiss) (r : List (List GInst) × Ar Val × List GMiss), s_f77 m a0 a1 a2 a3 a4 = some r → m < n → ACallH Try.prog 77 [.int .i64 a0, .agg (valC a1), .ptr 0 0, .ptr 2 0, .ptr 4 0, .ptr 6 0] [(0, .box 90 [.sl .ro 1 (r_sl_st_GInst a2)]), (2, .box 22 [.mv 3 a3.v .hdr]), (3, .arr 24 5 a3.v (encs a3.l)), (4, .box 87 [.sl (.own 5) 6 (r_st_GMiss a4)]), (5, .row 93 6 (r_st_GMiss a4).length), (6, .box 152 [.func 77 [] [.ptr 0 0, .ptr 2 0, .ptr 4 0, .ptr 6 0]])] [(0, .box 90 [.sl .ro 1 (r_sl_st_GInst r.1)]), (2, .box 22 [.mv 3 r.2.1.v .hdr]), (3, .arr 24 5 r.2.1.v (encs r.2.1.l)), (4, .box 87 [.sl (.own 5) 6 (r_st_GMiss r.2.2)]), (5, .row 93 6 (r_st_GMiss r.2.2).length), (6, .box 152 [.func 77 [] [.ptr 0 0, .ptr 2 0, .ptr 4 0, .ptr 6 0]])] (.tup [])) (a0 : Int) (a1 : Val) (a2 : List (List GInst)) (a3 : Ar Val) (a4 : List GMiss) (r : List (List GInst) × Ar Val × List GMiss) (hr : s_f77 n a0 a1 a2 a3 a4 = some r) : ACallH Try.prog 77 [.int .i64 a0, .agg (valC a1), .ptr 0 0, .ptr 2 0, .ptr 4 0, .ptr 6 0] [(0, .box 90 [.sl .ro 1 (r_sl_st_GInst a2)]), (2, .box 22 [.mv 3 a3.v .hdr]), (3, .arr 24 5 a3.v (encs a3.l)), (4, .box 87 [.sl (.own 5) 6 (r_st_GMiss a4)]), (5, .row 93 6 (r_st_GMiss a4).length), (6, .box 152 [.func 77 [] [.ptr 0 0, .ptr 2 0, .ptr 4 0, .ptr 6 0]])] [(0, .box 90 [.sl .ro 1 (r_sl_st_GInst r.1)]), (2, .box 22 [.mv 3 r.2.1.v .hdr]), (3, .arr 24 5 r.2.1.v (encs r.2.1.l)), (4, .box 87 [.sl (.own 5) 6 (r_st_GMiss r.2.2)]), (5, .row 93 6 (r_st_GMiss r.2.2).length), (6, .box 152 [.func 77 [] [.ptr 0 0, .ptr 2 0, .ptr 4 0, .ptr 6 0]])] (.tup []) := by
  refine ACallH.go [(0, .int .i64 a0), (1, .agg (valC a1)), (2, .ptr 0 0), (3, .ptr 2 0), (4, .ptr 4 0), (5, .ptr 6 0)] [(6, .box 152 [.func 77 [] [.ptr 0 0, .ptr 2 0, .ptr 4 0, .ptr 6 0]]), (5, .row 93 6 (r_st_GMiss a4).length), (4, .box 87 [.sl (.own 5) 6 (r_st_GMiss a4)]), (3, .arr 24 5 a3.v (encs a3.l)), (2, .box 22 [.mv 3 a3.v .hdr]), (0, .box 90 [.sl .ro 1 (r_sl_st_GInst a2)])] Try.func77 rfl Try.ntmps77 rfl rfl rfl (by simp [pureA, pureL, pureR, inA, inL, inR, inO, idsIn, encs_pure, enxs_pure, enys_pure, valC_pure, exC_pure, tyC_pure, r_int_u8_pure, r_st_GInst_pure, r_sl_st_GInst_pure, r_st_GMiss_pure]) (List.forall_mem_cons.2 ⟨(by simp [pureA, pureL, pureR, inA, inL, inR, inO, idsIn, encs_pure, enxs_pure, enys_pure, valC_pure, exC_pure, tyC_pure, r_int_u8_pure, r_st_GInst_pure, r_sl_st_GInst_pure, r_st_GMiss_pure]), (List.forall_mem_cons.2 ⟨(by simp [pureA, pureL, pureR, inA, inL, inR, inO, idsIn, encs_pure, enxs_pure, enys_pure, valC_pure, exC_pure, tyC_pure, r_int_u8_pure, r_st_GInst_pure, r_sl_st_GInst_pure, r_st_GMiss_pure]), (List.forall_mem_cons.2 ⟨(by simp [pureA, pureL, pureR, inA, inL, inR, inO, idsIn, encs_pure, enxs_pure, enys_pure, valC_pure, exC_pure, tyC_pure, r_int_u8_pure, r_st_GInst_pure, r_sl_st_GInst_pure, r_st_GMiss_pure]), (List.forall_mem_cons.2 ⟨(by simp [pureA, pureL, pureR, inA, inL, inR, inO, idsIn, encs_pure, enxs_pure, enys_pure, valC_pure, exC_pure, tyC_pure, r_int_u8_pure, r_st_GInst_pure, r_sl_st_GInst_pure, r_st_GMiss_pure]), (List.forall_mem_cons.2 ⟨(by simp [pureA, pureL, pureR, inA, inL, inR, inO, idsIn, encs_pure, enxs_pure, enys_pure, valC_pure, exC_pure, tyC_pure, r_int_u8_pure, r_st_GInst_pure, r_sl_st_GInst_pure, r_st_GMiss_pure]), (List.forall_mem_cons.2 ⟨(by simp [pureA, pureL, pureR, inA, inL, inR, inO, idsIn, encs_pure, enxs_pure, enys_pure, valC_pure, exC_pure, tyC_pure, r_int_u8_pure, r_st_GInst_pure, r_sl_st_GInst_pure, r_st_GMiss_pure]), (fun _ h => by cases h)⟩)⟩)⟩)⟩)⟩)⟩) (List.forall_mem_cons.2 ⟨⟨rfl, (by simp [pureA, pureL, pureR, inA, inL, inR, inO, idsIn, encs_pure, enxs_pure, enys_pure, valC_pure, exC_pure, tyC_pure, r_int_u8_pure, r_st_GInst_pure, r_sl_st_GInst_pure, r_st_GMiss_pure])⟩, (List.forall_mem_cons.2 ⟨⟨rfl, (by simp [pureA, pureL, pureR, inA, inL, inR, inO, idsIn, encs_pure, enxs_pure, enys_pure, valC_pure, exC_pure, tyC_pure, r_int_u8_pure, r_st_GInst_pure, r_sl_st_GInst_pure, r_st_GMiss_pure])⟩, (List.forall_mem_cons.2 ⟨⟨rfl, (by simp [pureA, pureL, pureR, inA, inL, inR, inO, idsIn, encs_pure, enxs_pure, enys_pure, valC_pure, exC_pure, tyC_pure, r_int_u8_pure, r_st_GInst_pure, r_sl_st_GInst_pure, r_st_GMiss_pure])⟩, (List.forall_mem_cons.2 ⟨⟨rfl, (by simp [pureA, pureL, pureR, inA, inL, inR, inO, idsIn, encs_pure, enxs_pure, enys_pure, valC_pure, exC_pure, tyC_pure, r_int_u8_pure, r_st_GInst_pure, r_sl_st_GInst_pure, r_st_GMiss_pure])⟩, (List.forall_mem_cons.2 ⟨⟨rfl, (by simp [pureA, pureL, pureR, inA, inL, inR, inO, idsIn, encs_pure, enxs_pure, enys_pure, valC_pure, exC_pure, tyC_pure, r_int_u8_pure, r_st_GInst_pure, r_sl_st_GInst_pure, r_st_GMiss_pure])⟩, (List.forall_mem_cons.2 ⟨⟨rfl, (by simp [pureA, pureL, pureR, inA, inL, inR, inO, idsIn, encs_pure, enxs_pure, enys_pure, valC_pure, exC_pure, tyC_pure, r_int_u8_pure, r_st_GInst_pure, r_sl_st_GInst_pure, r_st_GMiss_pure])⟩, (fun _ h => by cases h)⟩)⟩)⟩)⟩)⟩)⟩) (by simp [pureA, pureL, pureR, inA, inL, inR, inO, idsIn, encs_pure, enxs_pure, enys_pure, valC_pure, exC_pure, tyC_pure, r_int_u8_pure, r_st_GInst_pure, r_sl_st_GInst_pure, r_st_GMiss_pure]) ?_
  cases n with
  | zero => rw [s_f77] at hr; cases hr
  | succ n =>
    rw [s_f77] at hr
    refine AW.seq ?_
    refine AW.region (M := fun _ => true) ?_
    refine AL.bx good (d := 7) (l := [.int .i64 a1.kind, .int .i64 a1.i, .bool a1.b, .str a1.s, .sl .ro 5 (encs a1.t)]) rfl rfl rfl rfl rfl rfl 7 rfl ?_
    refine AW.seq ?_
    refine AW.seq ?_
    refine AW.region (M := fun _ => true) ?_
    refine AL.v good (d := 12) (v := .int .i64 a0) rfl rfl rfl rfl ?_
    refine AL.v good (d := 13) (v := .sl .ro 1 (r_sl_st_GInst a2)) rfl rfl rfl rfl ?_
    refine AL.ln good (d := 14) (m := a2.length) rfl rfl rfl rfl rfl rfl (r_sl_st_GInst_length _) ?_
    refine AL.v good (d := 15) (v := .bool (a0 == (a2.length : Int))) rfl rfl rfl rfl ?_
    refine AW.if rfl (fun h1 => ?_) (fun h1 => ?_)
    · replace hr := cnd_t h1 hr
      refine AW.seq ?_
      refine AW.drawc (M := fun i => ⟨Nat.beq i 4 || Nat.beq i 5 || Nat.beq i 6 || Nat.beq i 7, bif Nat.beq i 0 then some { ids := [2] } else bif Nat.beq i 1 then some { ids := [7] } else bif Nat.beq i 2 then some { ids := [3] } else bif Nat.beq i 3 then some { ids := [8] } else bif Nat.beq i 4 then some { ids := [3] } else bif Nat.beq i 5 then some { ids := [3] } else bif Nat.beq i 6 then some { ids := [3] } else bif Nat.beq i 7 then some { ids := [2] } else none⟩) good.wide (by kernel_rfl) ?_
      refine AL.vc good (d := 16) (v := .mv 3 a3.v .hdr) rfl rfl rfl rfl rfl rfl (List.forall_mem_cons.2 ⟨.head _, (fun _ h => by cases h)⟩) ?_
      refine AL.vc good (d := 17) (v := .agg [.int .i64 a1.kind, .int .i64 a1.i, .bool a1.b, .str a1.s, .sl .ro 5 (encs a1.t)]) rfl rfl rfl rfl rfl rfl (List.forall_mem_cons.2 ⟨.head _, (fun _ h => by cases h)⟩) ?_
      refine AL.mln good (d := 18) (m := a3.l.length) rfl rfl rfl rfl rfl rfl rfl (encs_length _) (ColN.mk rfl rfl (List.forall_mem_cons.2 ⟨.head _, (fun _ h => by cases h)⟩) (fun _ h => by cases h) (fun _ h => by cases h)) ?_
      refine AL.litC good (d := 19) (rows := [[.int .i64 0, .int .i64 0, .bool false, .str ⟨#[]⟩, .sl .nil 0 []]]) rfl rfl rfl rfl rfl rfl rfl rfl rfl 8 rfl (ColN.mk rfl rfl (fun _ h => by cases h) (List.forall_mem_cons.2 ⟨.head _, (fun _ h => by cases h)⟩) (fun _ h => by cases h)) ?_
      obtain ⟨h2, hr⟩ := grd hr
      refine AL.mpp good (d := 20) (news := [(valC (Val.mk 0 0 false ⟨#[]⟩ []))]) (rows2 := encs (a3.l ++ [(Val.mk 0 0 false ⟨#[]⟩ [])])) rfl rfl rfl rfl rfl rfl rfl rfl rfl (by simp) rfl rfl rfl (by simp) ⟨⟨Wv.refl _, Wv.refl _, Wv.refl _, Wv.refl _, ⟨.inr rfl, trivial, .inr rfl⟩, trivial⟩, trivial⟩ (by simp [encs_map]) (by rw [encs_length]; simp only [List.length_append, List.length_cons, List.length_nil]; exact h2) rfl (ColN.mk rfl rfl (List.forall_mem_cons.2 ⟨.head _, (fun _ h => by cases h)⟩) (List.forall_mem_cons.2 ⟨.head _, (fun _ h => by cases h)⟩) (fun _ h => by cases h)) ?_
      obtain ⟨x3, h4, hr⟩ := bnd1 hr
      refine AL.mix good (d := 21) (q := a3.l.length) rfl rfl rfl rfl rfl rfl rfl rfl (Int.natCast_nonneg _) rfl (encs_get h4) rfl (ColN.mk rfl rfl (List.forall_mem_cons.2 ⟨.head _, (fun _ h => by cases h)⟩) (fun _ h => by cases h) (fun _ h => by cases h)) ?_
      refine AL.mst good (rows2 := encs ((a3.l ++ [(Val.mk 0 0 false ⟨#[]⟩ [])]).set a3.l.length a1)) rfl rfl rfl rfl rfl rfl rfl rfl rfl (encs_get h4) rfl rfl (encs_set _ _ _) (ColN.mk rfl rfl (List.forall_mem_cons.2 ⟨.head _, (fun _ h => by cases h)⟩) (List.forall_mem_cons.2 ⟨.head _, (fun _ h => by cases h)⟩) (fun _ h => by cases h)) ?_
      refine AL.st2c good (c2 := [.mv 3 (a3.v + 1) .hdr]) rfl rfl rfl rfl rfl rfl rfl rfl rfl rfl rfl rfl rfl ?_
      refine AW.ret ?_
      obtain rfl := Option.some.inj hr
      exact RetH.w good (.inr rfl) rfl rfl (Wv.refl _) (List.forall_mem_cons.2 ⟨rfl, (List.forall_mem_cons.2 ⟨rfl, (List.forall_mem_cons.2 ⟨rfl, (List.forall_mem_cons.2 ⟨rfl, (List.forall_mem_cons.2 ⟨rfl, (List.forall_mem_cons.2 ⟨rfl, (fun _ h => by cases h)⟩)⟩)⟩)⟩)⟩)⟩)
    · replace hr := cnd_f h1 hr
      refine AW.skip ?_
      refine AW.seq ?_
      refine AW.drawc (M := fun i => ⟨false, bif Nat.beq i 0 then some { ids := [0] } else bif Nat.beq i 3 then some { ids := [] } else bif Nat.beq i 4 then some { ids := [7] } else none⟩) good.wide (by kernel_rfl) ?_
      refine AL.vc good (d := 23) (v := .sl .ro 1 (r_sl_st_GInst a2)) rfl rfl rfl rfl rfl rfl (List.forall_mem_cons.2 ⟨.head _, (fun _ h => by cases h)⟩) ?_
      refine AL.v (nc := ⟨rfl⟩) good (d := 24) (v := .int .i64 a0) rfl rfl rfl rfl ?_
      obtain ⟨h7, hr⟩ := grd hr
      obtain ⟨x5, h6, hr⟩ := bnd1 hr
      refine AL.ix (nc := ⟨rfl⟩) good (d := 25) (r := [.sl .ro 7 (r_st_GInst x5)]) rfl rfl rfl rfl rfl rfl rfl h7 (r_sl_st_GInst_get h6) ?_
      refine AL.vc good (d := 26) (v := .sl .ro 7 (r_st_GInst x5)) rfl rfl rfl rfl rfl rfl (fun _ h => by cases h) ?_
      refine AL.vc good (d := 27) (v := .agg [.int .i64 a1.kind, .int .i64 a1.i, .bool a1.b, .str a1.s, .sl .ro 5 (encs a1.t)]) rfl rfl rfl rfl rfl rfl (List.forall_mem_cons.2 ⟨.head _, (fun _ h => by cases h)⟩) ?_
      obtain ⟨q8, h9, hr⟩ := bnd1 hr
      refine AL.cw (nc := ⟨rfl⟩) good (d := 28) (xs := [.sl .ro 7 (r_st_GInst x5), .agg (valC a1)]) (res := .tup [.sl .ro 5 (encs q8.1), .int .i64 q8.2]) rfl rfl rfl rfl rfl rfl rfl (w_f40 _ _ _ _ h9) ⟨(Wv.refl _), (Wv.refl _), trivial⟩ (by simp [pureA, pureL, pureR, inA, inL, inR, inO, idsIn, encs_pure, enxs_pure, enys_pure, valC_pure, exC_pure, tyC_pure, r_int_u8_pure, r_st_GInst_pure, r_sl_st_GInst_pure, r_st_GMiss_pure]) ?_
      refine AL.v (nc := ⟨rfl⟩) good (d := 22) (v := .tup [.sl .ro 5 (encs q8.1), .int .i64 q8.2]) rfl rfl rfl rfl ?_
      refine AL.v (nc := ⟨rfl⟩) good (d := 29) (v := .sl .ro 5 (encs q8.1)) rfl rfl rfl rfl ?_
      refine AL.v (nc := ⟨rfl⟩) good (d := 30) (v := .int .i64 q8.2) rfl rfl rfl rfl ?_
      refine AL.v (nc := ⟨rfl⟩) good (d := 8) (v := .sl .ro 5 (encs q8.1)) rfl rfl rfl rfl ?_
      refine AL.v (nc := ⟨rfl⟩) good (d := 9) (v := .int .i64 q8.2) rfl rfl rfl rfl ?_
      refine AW.seq ?_
      refine AW.seq ?_
      refine AW.region (M := fun _ => true) ?_
      refine AL.v good (d := 31) (v := .int .i64 q8.2) rfl rfl rfl rfl ?_
      refine AL.v good (d := 32) (v := .bool (q8.2 != 0)) rfl rfl rfl rfl ?_
      refine AW.if rfl (fun h10 => ?_) (fun h10 => ?_)
      · replace hr := cnd_t h10 hr
        refine AW.region (M := fun _ => true) ?_
        refine AL.v good (d := 33) (v := .sl (.own 5) 6 (r_st_GMiss a4)) rfl rfl rfl rfl ?_
        refine AL.v good (d := 34) (v := .int .i64 a0) rfl rfl rfl rfl ?_
        refine AL.v good (d := 35) (v := .agg [.int .i64 a1.kind, .int .i64 a1.i, .bool a1.b, .str a1.s, .sl .ro 5 (encs a1.t)]) rfl rfl rfl rfl ?_
        refine AL.bld good (d := 36) (l := [.int .i64 a0, .int .i64 a1.kind, .int .i64 a1.i, .bool a1.b, .str a1.s, .sl .ro 5 (encs a1.t)]) rfl rfl rfl rfl rfl rfl rfl ?_
        refine AL.lit good (d := 37) (rows := [[.int .i64 a0, .int .i64 a1.kind, .int .i64 a1.i, .bool a1.b, .str a1.s, .sl .ro 5 (encs a1.t)]]) rfl rfl rfl rfl rfl rfl rfl rfl rfl 8 rfl ?_
        obtain ⟨h11, hr⟩ := grd hr
        refine AL.aw2 good (d := 38) (rows := r_st_GMiss a4) (news := [[.int .i64 (((GMiss.mk a0 a1)).f0), .int .i64 ((((GMiss.mk a0 a1)).f1).kind), .int .i64 ((((GMiss.mk a0 a1)).f1).i), .bool ((((GMiss.mk a0 a1)).f1).b), .str ((((GMiss.mk a0 a1)).f1).s), .sl .ro 5 (encs ((((GMiss.mk a0 a1)).f1).t))]]) (rows2 := r_st_GMiss (a4 ++ [(GMiss.mk a0 a1)])) rfl rfl rfl rfl rfl rfl rfl rfl rfl (by simp) rfl rfl rfl ⟨⟨Wv.refl _, Wv.refl _, Wv.refl _, Wv.refl _, Wv.refl _, Wv.refl _, trivial⟩, trivial⟩ (by simp [r_st_GMiss, rowF]) (by rw [r_st_GMiss_length, List.length_append]; exact h11) rfl ?_
        refine AL.st2 good (c2 := [.sl (.own 5) 6 (r_st_GMiss (a4 ++ [(GMiss.mk a0 a1)]))]) rfl rfl rfl rfl rfl rfl rfl rfl rfl rfl rfl rfl ?_
        refine AW.seq ?_
        refine AW.region (M := fun _ => true) ?_
        refine AL.v good (d := 39) (v := .sl .ro 5 (encs q8.1)) rfl rfl rfl rfl ?_
        refine AL.ln good (d := 40) (m := q8.1.length) rfl rfl rfl rfl rfl rfl (encs_length _) ?_
        refine AL.v good (d := 41) (v := .int .i64 0) rfl rfl rfl rfl ?_
        refine AW.block ?_
        refine AW.lens 39 rfl (fun hl18 => ?_)
        replace hl18 : q8.1.length ≤ 9223372036854775807 := by rw [← encs_length q8.1]; exact hl18
        refine AW.lpw (fun x : Nat × Nat × (List (List GInst)) × Nat × (List Val) × (List GMiss) => [(0, .int .i64 a0), (5, .ptr 6 0), (39, .sl .ro 5 (encs q8.1)), (40, .int .i64 (q8.1.length : Int)), (41, .int .i64 (x.2.1 : Int))]) (fun x => [(0, .box 90 [.sl .ro 1 (r_sl_st_GInst x.2.2.1)]), (2, .box 22 [.mv 3 x.2.2.2.1 .hdr]), (3, .arr 24 5 x.2.2.2.1 (encs x.2.2.2.2.1)), (4, .box 87 [.sl (.own 5) 6 (r_st_GMiss x.2.2.2.2.2)]), (5, .row 93 6 (r_st_GMiss x.2.2.2.2.2).length), (6, .box 152 [.func 77 [] [.ptr 0 0, .ptr 2 0, .ptr 4 0, .ptr 6 0]])]) (fun x => s_f77_l1 x.1 a0 q8 x.2.1 x.2.2.1 x.2.2.2.1 x.2.2.2.2.1 x.2.2.2.2.2 = some r ∧ x.1 ≤ n) (fun x => x.1) (n, 0, a2, a3.v, a3.l, (a4 ++ [(GMiss.mk a0 a1)])) ⟨(idsIn_sub rfl), List.forall_mem_cons.2 ⟨⟨⟨_, rfl, Wv.refl _⟩, (by simp [pureA, pureL, pureR, inA, inL, inR, inO, idsIn, encs_pure, enxs_pure, enys_pure, valC_pure, exC_pure, tyC_pure, r_int_u8_pure, r_st_GInst_pure, r_sl_st_GInst_pure, r_st_GMiss_pure])⟩, List.forall_mem_cons.2 ⟨⟨⟨_, rfl, Wv.refl _⟩, (by simp [pureA, pureL, pureR, inA, inL, inR, inO, idsIn, encs_pure, enxs_pure, enys_pure, valC_pure, exC_pure, tyC_pure, r_int_u8_pure, r_st_GInst_pure, r_sl_st_GInst_pure, r_st_GMiss_pure])⟩, List.forall_mem_cons.2 ⟨⟨⟨_, rfl, Wv.refl _⟩, (by simp [pureA, pureL, pureR, inA, inL, inR, inO, idsIn, encs_pure, enxs_pure, enys_pure, valC_pure, exC_pure, tyC_pure, r_int_u8_pure, r_st_GInst_pure, r_sl_st_GInst_pure, r_st_GMiss_pure])⟩, List.forall_mem_cons.2 ⟨⟨⟨_, rfl, Wv.refl _⟩, (by simp [pureA, pureL, pureR, inA, inL, inR, inO, idsIn, encs_pure, enxs_pure, enys_pure, valC_pure, exC_pure, tyC_pure, r_int_u8_pure, r_st_GInst_pure, r_sl_st_GInst_pure, r_st_GMiss_pure])⟩, List.forall_mem_cons.2 ⟨⟨⟨_, rfl, Wv.refl _⟩, (by simp [pureA, pureL, pureR, inA, inL, inR, inO, idsIn, encs_pure, enxs_pure, enys_pure, valC_pure, exC_pure, tyC_pure, r_int_u8_pure, r_st_GInst_pure, r_sl_st_GInst_pure, r_st_GMiss_pure])⟩, (fun _ h => by cases h)⟩⟩⟩⟩⟩, List.forall_mem_cons.2 ⟨⟨⟨_, rfl, ⟨rfl, ⟨Wv.refl _, trivial⟩⟩⟩, (by simp [pureA, pureL, pureR, inA, inL, inR, inO, idsIn, encs_pure, enxs_pure, enys_pure, valC_pure, exC_pure, tyC_pure, r_int_u8_pure, r_st_GInst_pure, r_sl_st_GInst_pure, r_st_GMiss_pure])⟩, List.forall_mem_cons.2 ⟨⟨⟨_, rfl, ⟨rfl, ⟨Wv.refl _, trivial⟩⟩⟩, (by simp [pureA, pureL, pureR, inA, inL, inR, inO, idsIn, encs_pure, enxs_pure, enys_pure, valC_pure, exC_pure, tyC_pure, r_int_u8_pure, r_st_GInst_pure, r_sl_st_GInst_pure, r_st_GMiss_pure])⟩, List.forall_mem_cons.2 ⟨⟨⟨_, rfl, ⟨rfl, rfl, rfl, WvR.refl _⟩⟩, (by simp [pureA, pureL, pureR, inA, inL, inR, inO, idsIn, encs_pure, enxs_pure, enys_pure, valC_pure, exC_pure, tyC_pure, r_int_u8_pure, r_st_GInst_pure, r_sl_st_GInst_pure, r_st_GMiss_pure])⟩, List.forall_mem_cons.2 ⟨⟨⟨_, rfl, ⟨rfl, ⟨Wv.refl _, trivial⟩⟩⟩, (by simp [pureA, pureL, pureR, inA, inL, inR, inO, idsIn, encs_pure, enxs_pure, enys_pure, valC_pure, exC_pure, tyC_pure, r_int_u8_pure, r_st_GInst_pure, r_sl_st_GInst_pure, r_st_GMiss_pure])⟩, List.forall_mem_cons.2 ⟨⟨⟨_, rfl, ⟨rfl, rfl, rfl⟩⟩, (by simp [pureA, pureL, pureR, inA, inL, inR, inO, idsIn, encs_pure, enxs_pure, enys_pure, valC_pure, exC_pure, tyC_pure, r_int_u8_pure, r_st_GInst_pure, r_sl_st_GInst_pure, r_st_GMiss_pure])⟩, List.forall_mem_cons.2 ⟨⟨⟨_, rfl, ⟨rfl, ⟨Wv.refl _, trivial⟩⟩⟩, (by simp [pureA, pureL, pureR, inA, inL, inR, inO, idsIn, encs_pure, enxs_pure, enys_pure, valC_pure, exC_pure, tyC_pure, r_int_u8_pure, r_st_GInst_pure, r_sl_st_GInst_pure, r_st_GMiss_pure])⟩, (fun _ h => by cases h)⟩⟩⟩⟩⟩⟩⟩ ⟨hr, Nat.le_refl _⟩ (fun ⟨m, v1_1, v1_2, v1_3, v1_4, v1_5⟩ hx => ?_)
        obtain ⟨hr, hm⟩ := hx
        try dsimp only at hr hm
        cases m with
        | zero => rw [s_f77_l1] at hr; cases hr
        | succ m =>
          rw [s_f77_l1] at hr
          show AW Try.prog _ _ _ (mkS 51 [(0, .int .i64 a0), (5, .ptr 6 0), (39, .sl .ro 5 (encs q8.1)), (40, .int .i64 (q8.1.length : Int)), (41, .int .i64 (v1_1 : Int))] [(0, .box 90 [.sl .ro 1 (r_sl_st_GInst v1_2)]), (2, .box 22 [.mv 3 v1_3 .hdr]), (3, .arr 24 5 v1_3 (encs v1_4)), (4, .box 87 [.sl (.own 5) 6 (r_st_GMiss v1_5)]), (5, .row 93 6 (r_st_GMiss v1_5).length), (6, .box 152 [.func 77 [] [.ptr 0 0, .ptr 2 0, .ptr 4 0, .ptr 6 0]])])
          refine AW.seq ?_
          refine AW.region (M := fun _ => true) ?_
          refine AL.v good (d := 42) (v := .bool (decide ((v1_1 : Int) < (q8.1.length : Int)))) rfl rfl rfl rfl ?_
          refine AW.seq ?_
          refine AW.if rfl (fun h19 => ?_) (fun h19 => ?_)
          · replace hr := cnd_t h19 hr
            refine AW.skip ?_
            refine AW.seq ?_
            refine AW.block ?_
            refine AW.seq ?_
            refine AW.region (M := fun _ => true) ?_
            obtain ⟨x20, h21, hr⟩ := bnd1 hr
            refine AL.ix good (d := 43) (r := [.int .i64 x20.kind, .int .i64 x20.i, .bool x20.b, .str x20.s, .sl .ro 5 (encs x20.t)]) rfl rfl rfl rfl rfl rfl rfl (Int.natCast_nonneg _) (encs_get h21) ?_
            refine AL.v good (d := 44) (v := .agg [.int .i64 x20.kind, .int .i64 x20.i, .bool x20.b, .str x20.s, .sl .ro 5 (encs x20.t)]) rfl rfl rfl rfl ?_
            refine AL.alc good (d := 11) rfl rfl rfl rfl rfl 9 rfl ?_
            refine AL.st2 good (c2 := [.int .i64 x20.kind, .int .i64 x20.i, .bool x20.b, .str x20.s, .sl .ro 5 (encs x20.t)]) rfl rfl rfl rfl rfl rfl rfl rfl rfl rfl rfl rfl ?_
            refine AW.region (M := fun _ => true) ?_
            refine AL.v good (d := 45) (v := .func 77 [] [.ptr 0 0, .ptr 2 0, .ptr 4 0, .ptr 6 0]) rfl rfl rfl rfl ?_
            refine AL.v good (d := 46) (v := .int .i64 a0) rfl rfl rfl rfl ?_
            refine AL.v good (d := 47) (v := .int .i64 (IntKind.i64.wrap (a0 + 1))) rfl rfl rfl rfl ?_
            refine AL.v good (d := 48) (v := .agg [.int .i64 x20.kind, .int .i64 x20.i, .bool x20.b, .str x20.s, .sl .ro 5 (encs x20.t)]) rfl rfl rfl rfl ?_
            obtain ⟨q22, h23, hr⟩ := bnd1 hr
            refine AL.clW good (d := 49) (xs := [.int .i64 (IntKind.i64.wrap (a0 + 1)), .agg (valC x20), .ptr 0 0, .ptr 2 0, .ptr 4 0, .ptr 6 0]) (rd := [(0, .box 90 [.sl .ro 1 (r_sl_st_GInst v1_2)]), (2, .box 22 [.mv 3 (((Ar.mk v1_3 v1_4)).v) .hdr]), (3, .arr 24 5 (((Ar.mk v1_3 v1_4)).v) (encs (((Ar.mk v1_3 v1_4)).l))), (4, .box 87 [.sl (.own 5) 6 (r_st_GMiss v1_5)]), (5, .row 93 6 (r_st_GMiss v1_5).length), (6, .box 152 [.func 77 [] [.ptr 0 0, .ptr 2 0, .ptr 4 0, .ptr 6 0]])]) (up := [(0, .box 90 [.sl .ro 1 (r_sl_st_GInst q22.1)]), (2, .box 22 [.mv 3 q22.2.1.v .hdr]), (3, .arr 24 5 q22.2.1.v (encs q22.2.1.l)), (4, .box 87 [.sl (.own 5) 6 (r_st_GMiss q22.2.2)]), (5, .row 93 6 (r_st_GMiss q22.2.2).length), (6, .box 152 [.func 77 [] [.ptr 0 0, .ptr 2 0, .ptr 4 0, .ptr 6 0]])]) (res := .tup []) rfl rfl rfl rfl rfl rfl rfl (ih _ _ _ _ _ _ _ h23 (by omega)) ⟨(Wv.refl _), (Wv.refl _), (Wv.refl _), (Wv.refl _), (Wv.refl _), (Wv.refl _), trivial⟩ (List.forall_mem_cons.2 ⟨rfl, (List.forall_mem_cons.2 ⟨rfl, (List.forall_mem_cons.2 ⟨rfl, (List.forall_mem_cons.2 ⟨rfl, (List.forall_mem_cons.2 ⟨rfl, (List.forall_mem_cons.2 ⟨rfl, (fun _ h => by cases h)⟩)⟩)⟩)⟩)⟩)⟩) (List.forall_mem_cons.2 ⟨⟨_, .head _⟩, (List.forall_mem_cons.2 ⟨⟨_, .tail _ (.head _)⟩, (List.forall_mem_cons.2 ⟨⟨_, .tail _ (.tail _ (.head _))⟩, (List.forall_mem_cons.2 ⟨⟨_, .tail _ (.tail _ (.tail _ (.head _)))⟩, (List.forall_mem_cons.2 ⟨⟨_, .tail _ (.tail _ (.tail _ (.tail _ (.head _))))⟩, (List.forall_mem_cons.2 ⟨⟨_, .tail _ (.tail _ (.tail _ (.tail _ (.tail _ (.head _)))))⟩, (fun _ h => by cases h)⟩)⟩)⟩)⟩)⟩)⟩) rfl rfl ?_
            refine AW.region (M := fun _ => true) ?_
            refine AL.v good (d := 50) (v := .int .i64 (IntKind.i64.wrap ((v1_1 : Int) + 1))) rfl rfl rfl rfl ?_
            refine AL.v good (d := 41) (v := .int .i64 (IntKind.i64.wrap ((v1_1 : Int) + 1))) rfl rfl rfl rfl ?_
            exact ⟨(m, (v1_1 + 1), q22.1, q22.2.1.v, q22.2.1.l, q22.2.2), _, _, rfl, ⟨(idsIn_sub rfl), List.forall_mem_cons.2 ⟨⟨⟨_, rfl, Wv.refl _⟩, (by simp [pureA, pureL, pureR, inA, inL, inR, inO, idsIn, encs_pure, enxs_pure, enys_pure, valC_pure, exC_pure, tyC_pure, r_int_u8_pure, r_st_GInst_pure, r_sl_st_GInst_pure, r_st_GMiss_pure])⟩, List.forall_mem_cons.2 ⟨⟨⟨_, rfl, Wv.refl _⟩, (by simp [pureA, pureL, pureR, inA, inL, inR, inO, idsIn, encs_pure, enxs_pure, enys_pure, valC_pure, exC_pure, tyC_pure, r_int_u8_pure, r_st_GInst_pure, r_sl_st_GInst_pure, r_st_GMiss_pure])⟩, List.forall_mem_cons.2 ⟨⟨⟨_, rfl, Wv.refl _⟩, (by simp [pureA, pureL, pureR, inA, inL, inR, inO, idsIn, encs_pure, enxs_pure, enys_pure, valC_pure, exC_pure, tyC_pure, r_int_u8_pure, r_st_GInst_pure, r_sl_st_GInst_pure, r_st_GMiss_pure])⟩, List.forall_mem_cons.2 ⟨⟨⟨_, rfl, Wv.refl _⟩, (by simp [pureA, pureL, pureR, inA, inL, inR, inO, idsIn, encs_pure, enxs_pure, enys_pure, valC_pure, exC_pure, tyC_pure, r_int_u8_pure, r_st_GInst_pure, r_sl_st_GInst_pure, r_st_GMiss_pure])⟩, List.forall_mem_cons.2 ⟨⟨⟨_, rfl, (wnx h19 hl18)⟩, (by simp [pureA, pureL, pureR, inA, inL, inR, inO, idsIn, encs_pure, enxs_pure, enys_pure, valC_pure, exC_pure, tyC_pure, r_int_u8_pure, r_st_GInst_pure, r_sl_st_GInst_pure, r_st_GMiss_pure])⟩, (fun _ h => by cases h)⟩⟩⟩⟩⟩, List.forall_mem_cons.2 ⟨⟨⟨_, rfl, ⟨rfl, ⟨Wv.refl _, trivial⟩⟩⟩, (by simp [pureA, pureL, pureR, inA, inL, inR, inO, idsIn, encs_pure, enxs_pure, enys_pure, valC_pure, exC_pure, tyC_pure, r_int_u8_pure, r_st_GInst_pure, r_sl_st_GInst_pure, r_st_GMiss_pure])⟩, List.forall_mem_cons.2 ⟨⟨⟨_, rfl, ⟨rfl, ⟨Wv.refl _, trivial⟩⟩⟩, (by simp [pureA, pureL, pureR, inA, inL, inR, inO, idsIn, encs_pure, enxs_pure, enys_pure, valC_pure, exC_pure, tyC_pure, r_int_u8_pure, r_st_GInst_pure, r_sl_st_GInst_pure, r_st_GMiss_pure])⟩, List.forall_mem_cons.2 ⟨⟨⟨_, rfl, ⟨rfl, rfl, rfl, WvR.refl _⟩⟩, (by simp [pureA, pureL, pureR, inA, inL, inR, inO, idsIn, encs_pure, enxs_pure, enys_pure, valC_pure, exC_pure, tyC_pure, r_int_u8_pure, r_st_GInst_pure, r_sl_st_GInst_pure, r_st_GMiss_pure])⟩, List.forall_mem_cons.2 ⟨⟨⟨_, rfl, ⟨rfl, ⟨Wv.refl _, trivial⟩⟩⟩, (by simp [pureA, pureL, pureR, inA, inL, inR, inO, idsIn, encs_pure, enxs_pure, enys_pure, valC_pure, exC_pure, tyC_pure, r_int_u8_pure, r_st_GInst_pure, r_sl_st_GInst_pure, r_st_GMiss_pure])⟩, List.forall_mem_cons.2 ⟨⟨⟨_, rfl, ⟨rfl, rfl, rfl⟩⟩, (by simp [pureA, pureL, pureR, inA, inL, inR, inO, idsIn, encs_pure, enxs_pure, enys_pure, valC_pure, exC_pure, tyC_pure, r_int_u8_pure, r_st_GInst_pure, r_sl_st_GInst_pure, r_st_GMiss_pure])⟩, List.forall_mem_cons.2 ⟨⟨⟨_, rfl, ⟨rfl, ⟨Wv.refl _, trivial⟩⟩⟩, (by simp [pureA, pureL, pureR, inA, inL, inR, inO, idsIn, encs_pure, enxs_pure, enys_pure, valC_pure, exC_pure, tyC_pure, r_int_u8_pure, r_st_GInst_pure, r_sl_st_GInst_pure, r_st_GMiss_pure])⟩, (fun _ h => by cases h)⟩⟩⟩⟩⟩⟩⟩, ⟨hr, Nat.le_of_succ_le hm⟩, Nat.lt_succ_self _⟩
          · replace hr := cnd_f h19 hr
            refine AW.exit ?_
            obtain rfl := Option.some.inj hr
            exact RetH.w good (.inl rfl) rfl rfl (Wv.refl _) (List.forall_mem_cons.2 ⟨rfl, (List.forall_mem_cons.2 ⟨rfl, (List.forall_mem_cons.2 ⟨rfl, (List.forall_mem_cons.2 ⟨rfl, (List.forall_mem_cons.2 ⟨rfl, (List.forall_mem_cons.2 ⟨rfl, (fun _ h => by cases h)⟩)⟩)⟩)⟩)⟩)⟩)
      · replace hr := cnd_f h10 hr
        refine AW.skip ?_
        refine AW.seq ?_
        refine AW.region (M := fun _ => true) ?_
        refine AL.v good (d := 39) (v := .sl .ro 5 (encs q8.1)) rfl rfl rfl rfl ?_
        refine AL.ln good (d := 40) (m := q8.1.length) rfl rfl rfl rfl rfl rfl (encs_length _) ?_
        refine AL.v good (d := 41) (v := .int .i64 0) rfl rfl rfl rfl ?_
        refine AW.block ?_
        refine AW.lens 39 rfl (fun hl30 => ?_)
        replace hl30 : q8.1.length ≤ 9223372036854775807 := by rw [← encs_length q8.1]; exact hl30
        refine AW.lpw (fun x : Nat × Nat × (List (List GInst)) × Nat × (List Val) × (List GMiss) => [(0, .int .i64 a0), (5, .ptr 6 0), (39, .sl .ro 5 (encs q8.1)), (40, .int .i64 (q8.1.length : Int)), (41, .int .i64 (x.2.1 : Int))]) (fun x => [(0, .box 90 [.sl .ro 1 (r_sl_st_GInst x.2.2.1)]), (2, .box 22 [.mv 3 x.2.2.2.1 .hdr]), (3, .arr 24 5 x.2.2.2.1 (encs x.2.2.2.2.1)), (4, .box 87 [.sl (.own 5) 6 (r_st_GMiss x.2.2.2.2.2)]), (5, .row 93 6 (r_st_GMiss x.2.2.2.2.2).length), (6, .box 152 [.func 77 [] [.ptr 0 0, .ptr 2 0, .ptr 4 0, .ptr 6 0]])]) (fun x => s_f77_l1 x.1 a0 q8 x.2.1 x.2.2.1 x.2.2.2.1 x.2.2.2.2.1 x.2.2.2.2.2 = some r ∧ x.1 ≤ n) (fun x => x.1) (n, 0, a2, a3.v, a3.l, a4) ⟨(idsIn_sub rfl), List.forall_mem_cons.2 ⟨⟨⟨_, rfl, Wv.refl _⟩, (by simp [pureA, pureL, pureR, inA, inL, inR, inO, idsIn, encs_pure, enxs_pure, enys_pure, valC_pure, exC_pure, tyC_pure, r_int_u8_pure, r_st_GInst_pure, r_sl_st_GInst_pure, r_st_GMiss_pure])⟩, List.forall_mem_cons.2 ⟨⟨⟨_, rfl, Wv.refl _⟩, (by simp [pureA, pureL, pureR, inA, inL, inR, inO, idsIn, encs_pure, enxs_pure, enys_pure, valC_pure, exC_pure, tyC_pure, r_int_u8_pure, r_st_GInst_pure, r_sl_st_GInst_pure, r_st_GMiss_pure])⟩, List.forall_mem_cons.2 ⟨⟨⟨_, rfl, Wv.refl _⟩, (by simp [pureA, pureL, pureR, inA, inL, inR, inO, idsIn, encs_pure, enxs_pure, enys_pure, valC_pure, exC_pure, tyC_pure, r_int_u8_pure, r_st_GInst_pure, r_sl_st_GInst_pure, r_st_GMiss_pure])⟩, List.forall_mem_cons.2 ⟨⟨⟨_, rfl, Wv.refl _⟩, (by simp [pureA, pureL, pureR, inA, inL, inR, inO, idsIn, encs_pure, enxs_pure, enys_pure, valC_pure, exC_pure, tyC_pure, r_int_u8_pure, r_st_GInst_pure, r_sl_st_GInst_pure, r_st_GMiss_pure])⟩, List.forall_mem_cons.2 ⟨⟨⟨_, rfl, Wv.refl _⟩, (by simp [pureA, pureL, pureR, inA, inL, inR, inO, idsIn, encs_pure, enxs_pure, enys_pure, valC_pure, exC_pure, tyC_pure, r_int_u8_pure, r_st_GInst_pure, r_sl_st_GInst_pure, r_st_GMiss_pure])⟩, (fun _ h => by cases h)⟩⟩⟩⟩⟩, List.forall_mem_cons.2 ⟨⟨⟨_, rfl, ⟨rfl, ⟨Wv.refl _, trivial⟩⟩⟩, (by simp [pureA, pureL, pureR, inA, inL, inR, inO, idsIn, encs_pure, enxs_pure, enys_pure, valC_pure, exC_pure, tyC_pure, r_int_u8_pure, r_st_GInst_pure, r_sl_st_GInst_pure, r_st_GMiss_pure])⟩, List.forall_mem_cons.2 ⟨⟨⟨_, rfl, ⟨rfl, ⟨Wv.refl _, trivial⟩⟩⟩, (by simp [pureA, pureL, pureR, inA, inL, inR, inO, idsIn, encs_pure, enxs_pure, enys_pure, valC_pure, exC_pure, tyC_pure, r_int_u8_pure, r_st_GInst_pure, r_sl_st_GInst_pure, r_st_GMiss_pure])⟩, List.forall_mem_cons.2 ⟨⟨⟨_, rfl, ⟨rfl, rfl, rfl, WvR.refl _⟩⟩, (by simp [pureA, pureL, pureR, inA, inL, inR, inO, idsIn, encs_pure, enxs_pure, enys_pure, valC_pure, exC_pure, tyC_pure, r_int_u8_pure, r_st_GInst_pure, r_sl_st_GInst_pure, r_st_GMiss_pure])⟩, List.forall_mem_cons.2 ⟨⟨⟨_, rfl, ⟨rfl, ⟨Wv.refl _, trivial⟩⟩⟩, (by simp [pureA, pureL, pureR, inA, inL, inR, inO, idsIn, encs_pure, enxs_pure, enys_pure, valC_pure, exC_pure, tyC_pure, r_int_u8_pure, r_st_GInst_pure, r_sl_st_GInst_pure, r_st_GMiss_pure])⟩, List.forall_mem_cons.2 ⟨⟨⟨_, rfl, ⟨rfl, rfl, rfl⟩⟩, (by simp [pureA, pureL, pureR, inA, inL, inR, inO, idsIn, encs_pure, enxs_pure, enys_pure, valC_pure, exC_pure, tyC_pure, r_int_u8_pure, r_st_GInst_pure, r_sl_st_GInst_pure, r_st_GMiss_pure])⟩, List.forall_mem_cons.2 ⟨⟨⟨_, rfl, ⟨rfl, ⟨Wv.refl _, trivial⟩⟩⟩, (by simp [pureA, pureL, pureR, inA, inL, inR, inO, idsIn, encs_pure, enxs_pure, enys_pure, valC_pure, exC_pure, tyC_pure, r_int_u8_pure, r_st_GInst_pure, r_sl_st_GInst_pure, r_st_GMiss_pure])⟩, (fun _ h => by cases h)⟩⟩⟩⟩⟩⟩⟩ ⟨hr, Nat.le_refl _⟩ (fun ⟨m, v2_1, v2_2, v2_3, v2_4, v2_5⟩ hx => ?_)
        obtain ⟨hr, hm⟩ := hx
        try dsimp only at hr hm
        cases m with
        | zero => rw [s_f77_l1] at hr; cases hr
        | succ m =>
          rw [s_f77_l1] at hr
          show AW Try.prog _ _ _ (mkS 51 [(0, .int .i64 a0), (5, .ptr 6 0), (39, .sl .ro 5 (encs q8.1)), (40, .int .i64 (q8.1.length : Int)), (41, .int .i64 (v2_1 : Int))] [(0, .box 90 [.sl .ro 1 (r_sl_st_GInst v2_2)]), (2, .box 22 [.mv 3 v2_3 .hdr]), (3, .arr 24 5 v2_3 (encs v2_4)), (4, .box 87 [.sl (.own 5) 6 (r_st_GMiss v2_5)]), (5, .row 93 6 (r_st_GMiss v2_5).length), (6, .box 152 [.func 77 [] [.ptr 0 0, .ptr 2 0, .ptr 4 0, .ptr 6 0]])])
          refine AW.seq ?_
          refine AW.region (M := fun _ => true) ?_
          refine AL.v good (d := 42) (v := .bool (decide ((v2_1 : Int) < (q8.1.length : Int)))) rfl rfl rfl rfl ?_
          refine AW.seq ?_
          refine AW.if rfl (fun h31 => ?_) (fun h31 => ?_)
          · replace hr := cnd_t h31 hr
            refine AW.skip ?_
            refine AW.seq ?_
            refine AW.block ?_
            refine AW.seq ?_
            refine AW.region (M := fun _ => true) ?_
            obtain ⟨x32, h33, hr⟩ := bnd1 hr
            refine AL.ix good (d := 43) (r := [.int .i64 x32.kind, .int .i64 x32.i, .bool x32.b, .str x32.s, .sl .ro 5 (encs x32.t)]) rfl rfl rfl rfl rfl rfl rfl (Int.natCast_nonneg _) (encs_get h33) ?_
            refine AL.v good (d := 44) (v := .agg [.int .i64 x32.kind, .int .i64 x32.i, .bool x32.b, .str x32.s, .sl .ro 5 (encs x32.t)]) rfl rfl rfl rfl ?_
            refine AL.alc good (d := 11) rfl rfl rfl rfl rfl 8 rfl ?_
            refine AL.st2 good (c2 := [.int .i64 x32.kind, .int .i64 x32.i, .bool x32.b, .str x32.s, .sl .ro 5 (encs x32.t)]) rfl rfl rfl rfl rfl rfl rfl rfl rfl rfl rfl rfl ?_
            refine AW.region (M := fun _ => true) ?_
            refine AL.v good (d := 45) (v := .func 77 [] [.ptr 0 0, .ptr 2 0, .ptr 4 0, .ptr 6 0]) rfl rfl rfl rfl ?_
            refine AL.v good (d := 46) (v := .int .i64 a0) rfl rfl rfl rfl ?_
            refine AL.v good (d := 47) (v := .int .i64 (IntKind.i64.wrap (a0 + 1))) rfl rfl rfl rfl ?_
            refine AL.v good (d := 48) (v := .agg [.int .i64 x32.kind, .int .i64 x32.i, .bool x32.b, .str x32.s, .sl .ro 5 (encs x32.t)]) rfl rfl rfl rfl ?_
            obtain ⟨q34, h35, hr⟩ := bnd1 hr
            refine AL.clW good (d := 49) (xs := [.int .i64 (IntKind.i64.wrap (a0 + 1)), .agg (valC x32), .ptr 0 0, .ptr 2 0, .ptr 4 0, .ptr 6 0]) (rd := [(0, .box 90 [.sl .ro 1 (r_sl_st_GInst v2_2)]), (2, .box 22 [.mv 3 (((Ar.mk v2_3 v2_4)).v) .hdr]), (3, .arr 24 5 (((Ar.mk v2_3 v2_4)).v) (encs (((Ar.mk v2_3 v2_4)).l))), (4, .box 87 [.sl (.own 5) 6 (r_st_GMiss v2_5)]), (5, .row 93 6 (r_st_GMiss v2_5).length), (6, .box 152 [.func 77 [] [.ptr 0 0, .ptr 2 0, .ptr 4 0, .ptr 6 0]])]) (up := [(0, .box 90 [.sl .ro 1 (r_sl_st_GInst q34.1)]), (2, .box 22 [.mv 3 q34.2.1.v .hdr]), (3, .arr 24 5 q34.2.1.v (encs q34.2.1.l)), (4, .box 87 [.sl (.own 5) 6 (r_st_GMiss q34.2.2)]), (5, .row 93 6 (r_st_GMiss q34.2.2).length), (6, .box 152 [.func 77 [] [.ptr 0 0, .ptr 2 0, .ptr 4 0, .ptr 6 0]])]) (res := .tup []) rfl rfl rfl rfl rfl rfl rfl (ih _ _ _ _ _ _ _ h35 (by omega)) ⟨(Wv.refl _), (Wv.refl _), (Wv.refl _), (Wv.refl _), (Wv.refl _), (Wv.refl _), trivial⟩ (List.forall_mem_cons.2 ⟨rfl, (List.forall_mem_cons.2 ⟨rfl, (List.forall_mem_cons.2 ⟨rfl, (List.forall_mem_cons.2 ⟨rfl, (List.forall_mem_cons.2 ⟨rfl, (List.forall_mem_cons.2 ⟨rfl, (fun _ h => by cases h)⟩)⟩)⟩)⟩)⟩)⟩) (List.forall_mem_cons.2 ⟨⟨_, .head _⟩, (List.forall_mem_cons.2 ⟨⟨_, .tail _ (.head _)⟩, (List.forall_mem_cons.2 ⟨⟨_, .tail _ (.tail _ (.head _))⟩, (List.forall_mem_cons.2 ⟨⟨_, .tail _ (.tail _ (.tail _ (.head _)))⟩, (List.forall_mem_cons.2 ⟨⟨_, .tail _ (.tail _ (.tail _ (.tail _ (.head _))))⟩, (List.forall_mem_cons.2 ⟨⟨_, .tail _ (.tail _ (.tail _ (.tail _ (.tail _ (.head _)))))⟩, (fun _ h => by cases h)⟩)⟩)⟩)⟩)⟩)⟩) rfl rfl ?_
            refine AW.region (M := fun _ => true) ?_
            refine AL.v good (d := 50) (v := .int .i64 (IntKind.i64.wrap ((v2_1 : Int) + 1))) rfl rfl rfl rfl ?_
            refine AL.v good (d := 41) (v := .int .i64 (IntKind.i64.wrap ((v2_1 : Int) + 1))) rfl rfl rfl rfl ?_
            exact ⟨(m, (v2_1 + 1), q34.1, q34.2.1.v, q34.2.1.l, q34.2.2), _, _, rfl, ⟨(idsIn_sub rfl), List.forall_mem_cons.2 ⟨⟨⟨_, rfl, Wv.refl _⟩, (by simp [pureA, pureL, pureR, inA, inL, inR, inO, idsIn, encs_pure, enxs_pure, enys_pure, valC_pure, exC_pure, tyC_pure, r_int_u8_pure, r_st_GInst_pure, r_sl_st_GInst_pure, r_st_GMiss_pure])⟩, List.forall_mem_cons.2 ⟨⟨⟨_, rfl, Wv.refl _⟩, (by simp [pureA, pureL, pureR, inA, inL, inR, inO, idsIn, encs_pure, enxs_pure, enys_pure, valC_pure, exC_pure, tyC_pure, r_int_u8_pure, r_st_GInst_pure, r_sl_st_GInst_pure, r_st_GMiss_pure])⟩, List.forall_mem_cons.2 ⟨⟨⟨_, rfl, Wv.refl _⟩, (by simp [pureA, pureL, pureR, inA, inL, inR, inO, idsIn, encs_pure, enxs_pure, enys_pure, valC_pure, exC_pure, tyC_pure, r_int_u8_pure, r_st_GInst_pure, r_sl_st_GInst_pure, r_st_GMiss_pure])⟩, List.forall_mem_cons.2 ⟨⟨⟨_, rfl, Wv.refl _⟩, (by simp [pureA, pureL, pureR, inA, inL, inR, inO, idsIn, encs_pure, enxs_pure, enys_pure, valC_pure, exC_pure, tyC_pure, r_int_u8_pure, r_st_GInst_pure, r_sl_st_GInst_pure, r_st_GMiss_pure])⟩, List.forall_mem_cons.2 ⟨⟨⟨_, rfl, (wnx h31 hl30)⟩, (by simp [pureA, pureL, pureR, inA, inL, inR, inO, idsIn, encs_pure, enxs_pure, enys_pure, valC_pure, exC_pure, tyC_pure, r_int_u8_pure, r_st_GInst_pure, r_sl_st_GInst_pure, r_st_GMiss_pure])⟩, (fun _ h => by cases h)⟩⟩⟩⟩⟩, List.forall_mem_cons.2 ⟨⟨⟨_, rfl, ⟨rfl, ⟨Wv.refl _, trivial⟩⟩⟩, (by simp [pureA, pureL, pureR, inA, inL, inR, inO, idsIn, encs_pure, enxs_pure, enys_pure, valC_pure, exC_pure, tyC_pure, r_int_u8_pure, r_st_GInst_pure, r_sl_st_GInst_pure, r_st_GMiss_pure])⟩, List.forall_mem_cons.2 ⟨⟨⟨_, rfl, ⟨rfl, ⟨Wv.refl _, trivial⟩⟩⟩, (by simp [pureA, pureL, pureR, inA, inL, inR, inO, idsIn, encs_pure, enxs_pure, enys_pure, valC_pure, exC_pure, tyC_pure, r_int_u8_pure, r_st_GInst_pure, r_sl_st_GInst_pure, r_st_GMiss_pure])⟩, List.forall_mem_cons.2 ⟨⟨⟨_, rfl, ⟨rfl, rfl, rfl, WvR.refl _⟩⟩, (by simp [pureA, pureL, pureR, inA, inL, inR, inO, idsIn, encs_pure, enxs_pure, enys_pure, valC_pure, exC_pure, tyC_pure, r_int_u8_pure, r_st_GInst_pure, r_sl_st_GInst_pure, r_st_GMiss_pure])⟩, List.forall_mem_cons.2 ⟨⟨⟨_, rfl, ⟨rfl, ⟨Wv.refl _, trivial⟩⟩⟩, (by simp [pureA, pureL, pureR, inA, inL, inR, inO, idsIn, encs_pure, enxs_pure, enys_pure, valC_pure, exC_pure, tyC_pure, r_int_u8_pure, r_st_GInst_pure, r_sl_st_GInst_pure, r_st_GMiss_pure])⟩, List.forall_mem_cons.2 ⟨⟨⟨_, rfl, ⟨rfl, rfl, rfl⟩⟩, (by simp [pureA, pureL, pureR, inA, inL, inR, inO, idsIn, encs_pure, enxs_pure, enys_pure, valC_pure, exC_pure, tyC_pure, r_int_u8_pure, r_st_GInst_pure, r_sl_st_GInst_pure, r_st_GMiss_pure])⟩, List.forall_mem_cons.2 ⟨⟨⟨_, rfl, ⟨rfl, ⟨Wv.refl _, trivial⟩⟩⟩, (by simp [pureA, pureL, pureR, inA, inL, inR, inO, idsIn, encs_pure, enxs_pure, enys_pure, valC_pure, exC_pure, tyC_pure, r_int_u8_pure, r_st_GInst_pure, r_sl_st_GInst_pure, r_st_GMiss_pure])⟩, (fun _ h => by cases h)⟩⟩⟩⟩⟩⟩⟩, ⟨hr, Nat.le_of_succ_le hm⟩, Nat.lt_succ_self _⟩
          · replace hr := cnd_f h31 hr
            refine AW.exit ?_
            obtain rfl := Option.some.inj hr
            exact RetH.w good (.inl rfl) rfl rfl (Wv.refl _) (List.forall_mem_cons.2 ⟨rfl, (List.forall_mem_cons.2 ⟨rfl, (List.forall_mem_cons.2 ⟨rfl, (List.forall_mem_cons.2 ⟨rfl, (List.forall_mem_cons.2 ⟨rfl, (List.forall_mem_cons.2 ⟨rfl, (fun _ h => by cases h)⟩)⟩)⟩)⟩)⟩)⟩)
theorem w_f77_0_2_3_4_5_6 (n : Nat) : ∀ (a0 : Int) (a1 : Val) (a2 : List (List GInst)) (a3 : Ar Val) (a4 : List GMiss) (r : List (List GInst) × Ar Val × List GMiss) (hr : s_f77 n a0 a1 a2 a3 a4 = some r), ACallH Try.prog 77 [.int .i64 a0, .agg (valC a1), .ptr 0 0, .ptr 2 0, .ptr 4 0, .ptr 6 0] [(0, .box 90 [.sl .ro 1 (r_sl_st_GInst a2)]), (2, .box 22 [.mv 3 a3.v .hdr]), (3, .arr 24 5 a3.v (encs a3.l)), (4, .box 87 [.sl (.own 5) 6 (r_st_GMiss a4)]), (5, .row 93 6 (r_st_GMiss a4).length), (6, .box 152 [.func 77 [] [.ptr 0 0, .ptr 2 0, .ptr 4 0, .ptr 6 0]])] [(0, .box 90 [.sl .ro 1 (r_sl_st_GInst r.1)]), (2, .box 22 [.mv 3 r.2.1.v .hdr]), (3, .arr 24 5 r.2.1.v (encs r.2.1.l)), (4, .box 87 [.sl (.own 5) 6 (r_st_GMiss r.2.2)]), (5, .row 93 6 (r_st_GMiss r.2.2).length), (6, .box 152 [.func 77 [] [.ptr 0 0, .ptr 2 0, .ptr 4 0, .ptr 6 0]])] (.tup []) := by
  induction n using Nat.strongRecOn with
  | _ n ih =>
    intro a0 a1 a2 a3 a4 r hr
    exact w_f77_0_2_3_4_5_6_a n (fun m a0 a1 a2 a3 a4 r h hm => ih m hm a0 a1 a2 a3 a4 r h) a0 a1 a2 a3 a4 r hr

def s_f44 (n : Nat) (a0 : List (List GInst)) (a1 : Val) : Option (List Val × List GMiss) :=
  ((s_f77 n 0 a1 a0 (Ar.mk 0 []) []).bind fun q1 => some (q1.2.1.l, q1.2.2))

theorem w_f44 (n : Nat) (a0 : List (List GInst)) (a1 : Val) (r : List Val × List GMiss) (hr : s_f44 n a0 a1 = some r) : ACall Try.prog 44 [.sl .ro 1 (r_sl_st_GInst a0), .agg (valC a1)] (.tup [.sl .ro 5 (encs r.1), .sl .ro 6 (r_st_GMiss r.2)]) := by
  refine ACall.go [(0, .sl .ro 1 (r_sl_st_GInst a0)), (1, .agg (valC a1))] Try.func44 rfl Try.ntmps44 rfl rfl (by simp [pureA, pureL, pureR, inA, inL, inR, inO, idsIn, encs_pure, enxs_pure, enys_pure, valC_pure, exC_pure, tyC_pure, r_int_u8_pure, r_st_GInst_pure, r_sl_st_GInst_pure, r_st_GMiss_pure]) ?_
  rw [s_f44] at hr
  refine AW.seq ?_
  refine AW.region (M := fun _ => true) ?_
  refine AL.bx good (d := 2) (l := [.sl .ro 1 (r_sl_st_GInst a0)]) rfl rfl rfl rfl rfl rfl 0 rfl ?_
  refine AL.bx good (d := 3) (l := [.int .i64 a1.kind, .int .i64 a1.i, .bool a1.b, .str a1.s, .sl .ro 5 (encs a1.t)]) rfl rfl rfl rfl rfl rfl 1 rfl ?_
  refine AL.v good (d := 4) (v := .sl .nil 0 []) rfl rfl rfl rfl ?_
  refine AL.v good (d := 5) (v := .sl .nil 0 []) rfl rfl rfl rfl ?_
  refine AW.seq ?_
  refine AW.region (M := fun _ => true) ?_
  refine AL.alc good (d := 6) rfl rfl rfl rfl rfl 2 rfl ?_
  refine AW.adoptM 2 rfl 0 rfl 3 5 24 rfl rfl ?_
  refine AW.seq ?_
  refine AW.region (M := fun _ => true) ?_
  refine AL.alc good (d := 7) rfl rfl rfl rfl rfl 4 rfl ?_
  refine AW.adoptB 4 rfl 0 rfl 5 6 93 rfl rfl ?_
  refine AW.seq ?_
  refine AW.region (M := fun _ => true) ?_
  refine AL.alc good (d := 8) rfl rfl rfl rfl rfl 6 rfl ?_
  refine AW.seq ?_
  refine AW.region (M := fun _ => true) ?_
  refine AL.v good (d := 9) (v := .func 77 [] [.ptr 0 0, .ptr 2 0, .ptr 4 0, .ptr 6 0]) rfl rfl rfl rfl ?_
  refine AL.st2 good (c2 := [.func 77 [] [.ptr 0 0, .ptr 2 0, .ptr 4 0, .ptr 6 0]]) rfl rfl rfl rfl rfl rfl rfl rfl rfl rfl rfl rfl ?_
  refine AW.seq ?_
  refine AW.region (M := fun _ => true) ?_
  refine AL.v good (d := 10) (v := .func 77 [] [.ptr 0 0, .ptr 2 0, .ptr 4 0, .ptr 6 0]) rfl rfl rfl rfl ?_
  refine AL.v good (d := 11) (v := .agg [.int .i64 a1.kind, .int .i64 a1.i, .bool a1.b, .str a1.s, .sl .ro 5 (encs a1.t)]) rfl rfl rfl rfl ?_
  obtain ⟨q1, h2, hr⟩ := bnd1 hr
  refine AL.clW good (d := 12) (xs := [.int .i64 0, .agg (valC a1), .ptr 0 0, .ptr 2 0, .ptr 4 0, .ptr 6 0]) (rd := [(0, .box 90 [.sl .ro 1 (r_sl_st_GInst a0)]), (2, .box 22 [.mv 3 (((Ar.mk 0 [])).v) .hdr]), (3, .arr 24 5 (((Ar.mk 0 [])).v) (encs (((Ar.mk 0 [])).l))), (4, .box 87 [.sl (.own 5) 6 (r_st_GMiss [])]), (5, .row 93 6 (r_st_GMiss []).length), (6, .box 152 [.func 77 [] [.ptr 0 0, .ptr 2 0, .ptr 4 0, .ptr 6 0]])]) (up := [(0, .box 90 [.sl .ro 1 (r_sl_st_GInst q1.1)]), (2, .box 22 [.mv 3 q1.2.1.v .hdr]), (3, .arr 24 5 q1.2.1.v (encs q1.2.1.l)), (4, .box 87 [.sl (.own 5) 6 (r_st_GMiss q1.2.2)]), (5, .row 93 6 (r_st_GMiss q1.2.2).length), (6, .box 152 [.func 77 [] [.ptr 0 0, .ptr 2 0, .ptr 4 0, .ptr 6 0]])]) (res := .tup []) rfl rfl rfl rfl rfl rfl rfl (w_f77_0_2_3_4_5_6 _ _ _ _ _ _ _ h2) ⟨(Wv.refl _), (Wv.refl _), (Wv.refl _), (Wv.refl _), (Wv.refl _), (Wv.refl _), trivial⟩ (List.forall_mem_cons.2 ⟨rfl, (List.forall_mem_cons.2 ⟨rfl, (List.forall_mem_cons.2 ⟨rfl, (List.forall_mem_cons.2 ⟨rfl, (List.forall_mem_cons.2 ⟨rfl, (List.forall_mem_cons.2 ⟨rfl, (fun _ h => by cases h)⟩)⟩)⟩)⟩)⟩)⟩) (List.forall_mem_cons.2 ⟨⟨_, .head _⟩, (List.forall_mem_cons.2 ⟨⟨_, .tail _ (.head _)⟩, (List.forall_mem_cons.2 ⟨⟨_, .tail _ (.tail _ (.head _))⟩, (List.forall_mem_cons.2 ⟨⟨_, .tail _ (.tail _ (.tail _ (.head _)))⟩, (List.forall_mem_cons.2 ⟨⟨_, .tail _ (.tail _ (.tail _ (.tail _ (.head _))))⟩, (List.forall_mem_cons.2 ⟨⟨_, .tail _ (.tail _ (.tail _ (.tail _ (.tail _ (.head _)))))⟩, (fun _ h => by cases h)⟩)⟩)⟩)⟩)⟩)⟩) rfl rfl ?_
  refine AW.seq ?_
  refine AW.drawc (M := fun i => ⟨false, bif Nat.beq i 0 then some { ids := [2] } else bif Nat.beq i 1 then some { ids := [4] } else none⟩) good.wide (by kernel_rfl) ?_
  refine AL.vc good (d := 13) (v := .mv 3 q1.2.1.v .hdr) rfl rfl rfl rfl rfl rfl (List.forall_mem_cons.2 ⟨.head _, (fun _ h => by cases h)⟩) ?_
  refine AL.vc good (d := 14) (v := .sl (.own 5) 6 (r_st_GMiss q1.2.2)) rfl rfl rfl rfl rfl rfl (List.forall_mem_cons.2 ⟨.head _, (fun _ h => by cases h)⟩) ?_
  refine AL.v (nc := ⟨rfl⟩) good (d := 4) (v := .mv 3 q1.2.1.v .hdr) rfl rfl rfl rfl ?_
  refine AL.v (nc := ⟨rfl⟩) good (d := 5) (v := .sl (.own 5) 6 (r_st_GMiss q1.2.2)) rfl rfl rfl rfl ?_
  refine AW.ret ?_
  obtain rfl := Option.some.inj hr
  exact RetQ.mk good (.inr rfl) rfl rfl ⟨(wk_mv rfl (puR_pure _ (encs_pure _ _))), (wk_own (r_st_GMiss_pure _ _)), trivial⟩

end Go.Proofs.Ytbcjcekoonebiaa.Tl
