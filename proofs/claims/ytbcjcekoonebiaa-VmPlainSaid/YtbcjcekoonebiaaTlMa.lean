/- Definitions and walks: a stack of a machine. Conditions: none. -/
import Derived.Test.YtbcjcekoonebiaaTlYr
set_option linter.unusedVariables false
set_option linter.unusedSimpArgs false
namespace Go.Proofs.Ytbcjcekoonebiaa.Tl
open Go Go.RowKit

structure Mach where
  f0 : Val
  f1 : Ar Val
  f2 : List Val



def s_f111 (n : Nat) (a0 : Mach) (a1 : Val) : Option Mach :=
  (if a0.f1.l.length + 1 ≤ 1000000 then (((a0.f1.l ++ [(Val.mk 0 0 false ⟨#[]⟩ [])])[a0.f1.l.length]?).bind fun x2 => some (Mach.mk a0.f0 (Ar.mk (a0.f1.v + 1) ((a0.f1.l ++ [(Val.mk 0 0 false ⟨#[]⟩ [])]).set a0.f1.l.length a1)) a0.f2)) else none)

theorem w_f111_1_2_3 (n : Nat) (a0 : Mach) (a1 : Val) (r : Mach) (hr : s_f111 n a0 a1 = some r) : ACallH Try.prog 111 [.ptr 1 5, .agg (valC a1)] [(1, .box 144 [.int .i64 a0.f0.kind, .int .i64 a0.f0.i, .bool a0.f0.b, .str a0.f0.s, .sl .ro 5 (encs a0.f0.t), .mv 2 a0.f1.v .hdr, .sl (.own 3) 5 (encs a0.f2)]), (2, .arr 24 5 a0.f1.v (encs a0.f1.l)), (3, .row 24 5 (encs a0.f2).length)] [(1, .box 144 [.int .i64 r.f0.kind, .int .i64 r.f0.i, .bool r.f0.b, .str r.f0.s, .sl .ro 5 (encs r.f0.t), .mv 2 r.f1.v .hdr, .sl (.own 3) 5 (encs r.f2)]), (2, .arr 24 5 r.f1.v (encs r.f1.l)), (3, .row 24 5 (encs r.f2).length)] (.tup []) := by
  refine ACallH.go [(0, .ptr 1 5), (1, .agg (valC a1))] [(3, .row 24 5 (encs a0.f2).length), (2, .arr 24 5 a0.f1.v (encs a0.f1.l)), (1, .box 144 [.int .i64 a0.f0.kind, .int .i64 a0.f0.i, .bool a0.f0.b, .str a0.f0.s, .sl .ro 5 (encs a0.f0.t), .mv 2 a0.f1.v .hdr, .sl (.own 3) 5 (encs a0.f2)])] Try.func111 rfl Try.ntmps111 rfl rfl rfl (by simp [pureA, pureL, pureR, inA, inL, inR, inO, idsIn, encs_pure, enxs_pure, enys_pure, valC_pure, exC_pure, tyC_pure, r_int_u8_pure]) (List.forall_mem_cons.2 ⟨(by simp [pureA, pureL, pureR, inA, inL, inR, inO, idsIn, encs_pure, enxs_pure, enys_pure, valC_pure, exC_pure, tyC_pure, r_int_u8_pure]), (List.forall_mem_cons.2 ⟨(by simp [pureA, pureL, pureR, inA, inL, inR, inO, idsIn, encs_pure, enxs_pure, enys_pure, valC_pure, exC_pure, tyC_pure, r_int_u8_pure]), (List.forall_mem_cons.2 ⟨(by simp [pureA, pureL, pureR, inA, inL, inR, inO, idsIn, encs_pure, enxs_pure, enys_pure, valC_pure, exC_pure, tyC_pure, r_int_u8_pure]), (fun _ h => by cases h)⟩)⟩)⟩) (List.forall_mem_cons.2 ⟨⟨rfl, (by simp [pureA, pureL, pureR, inA, inL, inR, inO, idsIn, encs_pure, enxs_pure, enys_pure, valC_pure, exC_pure, tyC_pure, r_int_u8_pure])⟩, (List.forall_mem_cons.2 ⟨⟨rfl, (by simp [pureA, pureL, pureR, inA, inL, inR, inO, idsIn, encs_pure, enxs_pure, enys_pure, valC_pure, exC_pure, tyC_pure, r_int_u8_pure])⟩, (List.forall_mem_cons.2 ⟨⟨rfl, (by simp [pureA, pureL, pureR, inA, inL, inR, inO, idsIn, encs_pure, enxs_pure, enys_pure, valC_pure, exC_pure, tyC_pure, r_int_u8_pure])⟩, (fun _ h => by cases h)⟩)⟩)⟩) (by simp [pureA, pureL, pureR, inA, inL, inR, inO, idsIn, encs_pure, enxs_pure, enys_pure, valC_pure, exC_pure, tyC_pure, r_int_u8_pure]) ?_
  rw [s_f111] at hr
  refine AW.seq ?_
  refine AW.region (M := fun _ => true) ?_
  refine AL.bx good (d := 3) (l := [.int .i64 a1.kind, .int .i64 a1.i, .bool a1.b, .str a1.s, .sl .ro 5 (encs a1.t)]) rfl rfl rfl rfl rfl rfl 4 rfl ?_
  refine AW.drawc (M := fun i => ⟨Nat.beq i 6 || Nat.beq i 7 || Nat.beq i 8 || Nat.beq i 10, bif Nat.beq i 2 then some { ids := [1] } else bif Nat.beq i 3 then some { ids := [4] } else bif Nat.beq i 4 then some { ids := [2] } else bif Nat.beq i 5 then some { ids := [5] } else bif Nat.beq i 6 then some { ids := [2] } else bif Nat.beq i 7 then some { ids := [2] } else bif Nat.beq i 8 then some { ids := [2] } else bif Nat.beq i 10 then some { ids := [1] } else none⟩) good.wide (by kernel_rfl) ?_
  refine AL.v (nc := ⟨rfl⟩) good (d := 4) (v := .ptr 1 5) rfl rfl rfl rfl ?_
  refine AL.v (nc := ⟨rfl⟩) good (d := 5) (v := .ptr 1 5) rfl rfl rfl rfl ?_
  refine AL.vc good (d := 6) (v := .mv 2 a0.f1.v .hdr) rfl rfl rfl rfl rfl rfl (List.forall_mem_cons.2 ⟨.head _, (fun _ h => by cases h)⟩) ?_
  refine AL.vc good (d := 7) (v := .agg [.int .i64 a1.kind, .int .i64 a1.i, .bool a1.b, .str a1.s, .sl .ro 5 (encs a1.t)]) rfl rfl rfl rfl rfl rfl (List.forall_mem_cons.2 ⟨.head _, (fun _ h => by cases h)⟩) ?_
  refine AL.mln good (d := 8) (m := a0.f1.l.length) rfl rfl rfl rfl rfl rfl rfl (encs_length _) (ColN.mk rfl rfl (List.forall_mem_cons.2 ⟨.head _, (fun _ h => by cases h)⟩) (fun _ h => by cases h) (fun _ h => by cases h)) ?_
  refine AL.litC good (d := 9) (rows := [[.int .i64 0, .int .i64 0, .bool false, .str ⟨#[]⟩, .sl .nil 0 []]]) rfl rfl rfl rfl rfl rfl rfl rfl rfl 5 rfl (ColN.mk rfl rfl (fun _ h => by cases h) (List.forall_mem_cons.2 ⟨.head _, (fun _ h => by cases h)⟩) (fun _ h => by cases h)) ?_
  obtain ⟨h1, hr⟩ := grd hr
  refine AL.mpp good (d := 10) (news := [(valC (Val.mk 0 0 false ⟨#[]⟩ []))]) (rows2 := encs (a0.f1.l ++ [(Val.mk 0 0 false ⟨#[]⟩ [])])) rfl rfl rfl rfl rfl rfl rfl rfl rfl (by simp) rfl rfl rfl (by simp) ⟨⟨Wv.refl _, Wv.refl _, Wv.refl _, Wv.refl _, ⟨.inr rfl, trivial, .inr rfl⟩, trivial⟩, trivial⟩ (by simp [encs_map]) (by rw [encs_length]; simp only [List.length_append, List.length_cons, List.length_nil]; exact h1) rfl (ColN.mk rfl rfl (List.forall_mem_cons.2 ⟨.head _, (fun _ h => by cases h)⟩) (List.forall_mem_cons.2 ⟨.head _, (fun _ h => by cases h)⟩) (fun _ h => by cases h)) ?_
  obtain ⟨x2, h3, hr⟩ := bnd1 hr
  refine AL.mix good (d := 11) (q := a0.f1.l.length) rfl rfl rfl rfl rfl rfl rfl rfl (Int.natCast_nonneg _) rfl (encs_get h3) rfl (ColN.mk rfl rfl (List.forall_mem_cons.2 ⟨.head _, (fun _ h => by cases h)⟩) (fun _ h => by cases h) (fun _ h => by cases h)) ?_
  refine AL.mst good (rows2 := encs ((a0.f1.l ++ [(Val.mk 0 0 false ⟨#[]⟩ [])]).set a0.f1.l.length a1)) rfl rfl rfl rfl rfl rfl rfl rfl rfl (encs_get h3) rfl rfl (encs_set _ _ _) (ColN.mk rfl rfl (List.forall_mem_cons.2 ⟨.head _, (fun _ h => by cases h)⟩) (List.forall_mem_cons.2 ⟨.head _, (fun _ h => by cases h)⟩) (fun _ h => by cases h)) ?_
  refine AL.v (nc := ⟨rfl⟩) good (d := 12) (v := .ptr 1 5) rfl rfl rfl rfl ?_
  refine AL.st2c good (c2 := [.int .i64 a0.f0.kind, .int .i64 a0.f0.i, .bool a0.f0.b, .str a0.f0.s, .sl .ro 5 (encs a0.f0.t), .mv 2 (a0.f1.v + 1) .hdr, .sl (.own 3) 5 (encs a0.f2)]) rfl rfl rfl rfl rfl rfl rfl rfl rfl rfl rfl rfl rfl ?_
  obtain rfl := Option.some.inj hr
  exact RetH.w good (.inl rfl) rfl rfl (Wv.refl _) (List.forall_mem_cons.2 ⟨rfl, (List.forall_mem_cons.2 ⟨rfl, (List.forall_mem_cons.2 ⟨rfl, (fun _ h => by cases h)⟩)⟩)⟩)
theorem o_f111_1_2_3 (a : Mach) (x : Val) (h : a.f1.l.length + 1 ≤ 1000000) : ACallH Try.prog 111 [.ptr 1 5, .agg (valC x)] [(1, .box 144 [.int .i64 a.f0.kind, .int .i64 a.f0.i, .bool a.f0.b, .str a.f0.s, .sl .ro 5 (encs a.f0.t), .mv 2 a.f1.v .hdr, .sl (.own 3) 5 (encs a.f2)]), (2, .arr 24 5 a.f1.v (encs a.f1.l)), (3, .row 24 5 (encs a.f2).length)] [(1, .box 144 [.int .i64 a.f0.kind, .int .i64 a.f0.i, .bool a.f0.b, .str a.f0.s, .sl .ro 5 (encs a.f0.t), .mv 2 (a.f1.v + 1) .hdr, .sl (.own 3) 5 (encs a.f2)]), (2, .arr 24 5 (a.f1.v + 1) (encs (a.f1.l ++ [x]))), (3, .row 24 5 (encs a.f2).length)] (.tup []) :=
  w_f111_1_2_3 0 a x ⟨a.f0, ⟨a.f1.v + 1, a.f1.l ++ [x]⟩, a.f2⟩ (by simp [s_f111, h])


end Go.Proofs.Ytbcjcekoonebiaa.Tl
