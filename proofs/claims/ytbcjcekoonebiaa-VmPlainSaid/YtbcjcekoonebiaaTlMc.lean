/- Definitions and walks: a machine. Conditions: none. -/
import Derived.Test.YtbcjcekoonebiaaTlMb
import Derived.Test.YtbcjcekoonebiaaTlXm
set_option linter.unusedVariables false
set_option linter.unusedSimpArgs false
namespace Go.Proofs.Ytbcjcekoonebiaa.Tl
open Go Go.RowKit

structure GInst where
  f0 : ByteArray
  f1 : Val
  f2 : Int

def s_f73 (n : Nat) (a0 : Mach) (a1 : GInst) : Option (Mach × Int) :=
  (bif (a1.f0.data.toList == [112, 117, 115, 104]) then (if a0.f1.l.length + 1 ≤ 1000000 then some ((Mach.mk a0.f0 (Ar.mk (a0.f1.v + 1) (a0.f1.l ++ [a1.f1])) a0.f2), 0) else none) else (bif (a1.f0.data.toList == [120]) then (if a0.f1.l.length + 1 ≤ 1000000 then some ((Mach.mk a0.f0 (Ar.mk (a0.f1.v + 1) (a0.f1.l ++ [a0.f0])) a0.f2), 0) else none) else (bif (a1.f0.data.toList == [97, 116]) then (if 0 ≤ (1 : Int) ∧ (1 : Int).toNat ≤ a0.f1.l.length ∧ a0.f1.l.length ≤ 1000000 then (((a0.f1.l.drop (a0.f1.l.length - (1 : Int).toNat))[0]?).bind fun x7 => (if 0 ≤ a1.f2 then ((x7.t[a1.f2.toNat]?).bind fun x9 => (if (a0.f1.l.take (a0.f1.l.length - (1 : Int).toNat)).length + 1 ≤ 1000000 then some ((Mach.mk a0.f0 (Ar.mk ((a0.f1.v + 1) + 1) ((a0.f1.l.take (a0.f1.l.length - (1 : Int).toNat)) ++ [x9])) a0.f2), 0) else none)) else none)) else none) else (bif (a1.f0.data.toList == [116, 117, 112]) then (if 0 ≤ a1.f2 ∧ a1.f2.toNat ≤ a0.f1.l.length ∧ a0.f1.l.length ≤ 1000000 then ((tupS (a0.f1.l.drop (a0.f1.l.length - a1.f2.toNat))).bind fun q15 => (if (a0.f1.l.take (a0.f1.l.length - a1.f2.toNat)).length + 1 ≤ 1000000 then some ((Mach.mk a0.f0 (Ar.mk ((a0.f1.v + 1) + 1) ((a0.f1.l.take (a0.f1.l.length - a1.f2.toNat)) ++ [q15])) a0.f2), 0) else none)) else none) else (bif (a1.f0.data.toList == [101, 109, 105, 116]) then (if 0 ≤ a1.f2 ∧ a1.f2.toNat ≤ a0.f1.l.length ∧ a0.f1.l.length ≤ 1000000 then (if a0.f2.length + (a0.f1.l.drop (a0.f1.l.length - a1.f2.toNat)).length ≤ 1000000 then some ((Mach.mk a0.f0 (Ar.mk (a0.f1.v + 1) (a0.f1.l.take (a0.f1.l.length - a1.f2.toNat))) (a0.f2 ++ (a0.f1.l.drop (a0.f1.l.length - a1.f2.toNat)))), 0) else none) else none) else (bif (a1.f0.data.toList == [110, 101, 103]) then (if 0 ≤ (1 : Int) ∧ (1 : Int).toNat ≤ a0.f1.l.length ∧ a0.f1.l.length ≤ 1000000 then (((a0.f1.l.drop (a0.f1.l.length - (1 : Int).toNat))[0]?).bind fun x23 => ((one3 a1.f0 x23).bind fun q25 => (if (a0.f1.l.take (a0.f1.l.length - (1 : Int).toNat)).length + 1 ≤ 1000000 then some ((Mach.mk a0.f0 (Ar.mk ((a0.f1.v + 1) + 1) ((a0.f1.l.take (a0.f1.l.length - (1 : Int).toNat)) ++ [q25.1])) a0.f2), 0) else none))) else none) else (bif (a1.f0.data.toList == [110, 111, 116]) then (if 0 ≤ (1 : Int) ∧ (1 : Int).toNat ≤ a0.f1.l.length ∧ a0.f1.l.length ≤ 1000000 then (((a0.f1.l.drop (a0.f1.l.length - (1 : Int).toNat))[0]?).bind fun x30 => ((one3 a1.f0 x30).bind fun q32 => (if (a0.f1.l.take (a0.f1.l.length - (1 : Int).toNat)).length + 1 ≤ 1000000 then some ((Mach.mk a0.f0 (Ar.mk ((a0.f1.v + 1) + 1) ((a0.f1.l.take (a0.f1.l.length - (1 : Int).toNat)) ++ [q32.1])) a0.f2), 0) else none))) else none) else (bif (a1.f0.data.toList == [108, 101, 110]) then (if 0 ≤ (1 : Int) ∧ (1 : Int).toNat ≤ a0.f1.l.length ∧ a0.f1.l.length ≤ 1000000 then (((a0.f1.l.drop (a0.f1.l.length - (1 : Int).toNat))[0]?).bind fun x37 => ((one3 a1.f0 x37).bind fun q39 => (if (a0.f1.l.take (a0.f1.l.length - (1 : Int).toNat)).length + 1 ≤ 1000000 then some ((Mach.mk a0.f0 (Ar.mk ((a0.f1.v + 1) + 1) ((a0.f1.l.take (a0.f1.l.length - (1 : Int).toNat)) ++ [q39.1])) a0.f2), 0) else none))) else none) else (if 0 ≤ (2 : Int) ∧ (2 : Int).toNat ≤ a0.f1.l.length ∧ a0.f1.l.length ≤ 1000000 then (((a0.f1.l.drop (a0.f1.l.length - (2 : Int).toNat))[0]?).bind fun x43 => (((a0.f1.l.drop (a0.f1.l.length - (2 : Int).toNat))[1]?).bind fun x45 => ((both3 a1.f0 x43 x45).bind fun q47 => (bif (q47.2.1 != 0) then some ((Mach.mk a0.f0 (Ar.mk (a0.f1.v + 1) (a0.f1.l.take (a0.f1.l.length - (2 : Int).toNat))) a0.f2), q47.2.1) else (if (a0.f1.l.take (a0.f1.l.length - (2 : Int).toNat)).length + 1 ≤ 1000000 then some ((Mach.mk a0.f0 (Ar.mk ((a0.f1.v + 1) + 1) ((a0.f1.l.take (a0.f1.l.length - (2 : Int).toNat)) ++ [q47.1])) a0.f2), 0) else none))))) else none)))))))))

theorem w_f73_1_2_3 (n : Nat) (a0 : Mach) (a1 : GInst) (r : Mach × Int) (hr : s_f73 n a0 a1 = some r) : ACallH Try.prog 73 [.ptr 1 0, .agg [.str a1.f0, .int .i64 a1.f1.kind, .int .i64 a1.f1.i, .bool a1.f1.b, .str a1.f1.s, .sl .ro 5 (encs a1.f1.t), .int .i64 a1.f2]] [(1, .box 144 [.int .i64 a0.f0.kind, .int .i64 a0.f0.i, .bool a0.f0.b, .str a0.f0.s, .sl .ro 5 (encs a0.f0.t), .mv 2 a0.f1.v .hdr, .sl (.own 3) 5 (encs a0.f2)]), (2, .arr 24 5 a0.f1.v (encs a0.f1.l)), (3, .row 24 5 (encs a0.f2).length)] [(1, .box 144 [.int .i64 r.1.f0.kind, .int .i64 r.1.f0.i, .bool r.1.f0.b, .str r.1.f0.s, .sl .ro 5 (encs r.1.f0.t), .mv 2 r.1.f1.v .hdr, .sl (.own 3) 5 (encs r.1.f2)]), (2, .arr 24 5 r.1.f1.v (encs r.1.f1.l)), (3, .row 24 5 (encs r.1.f2).length)] (.int .i64 r.2) := by
  refine ACallH.go [(0, .ptr 1 0), (1, .agg [.str a1.f0, .int .i64 a1.f1.kind, .int .i64 a1.f1.i, .bool a1.f1.b, .str a1.f1.s, .sl .ro 5 (encs a1.f1.t), .int .i64 a1.f2])] [(3, .row 24 5 (encs a0.f2).length), (2, .arr 24 5 a0.f1.v (encs a0.f1.l)), (1, .box 144 [.int .i64 a0.f0.kind, .int .i64 a0.f0.i, .bool a0.f0.b, .str a0.f0.s, .sl .ro 5 (encs a0.f0.t), .mv 2 a0.f1.v .hdr, .sl (.own 3) 5 (encs a0.f2)])] Try.func73 rfl Try.ntmps73 rfl rfl rfl (by simp [pureA, pureL, pureR, inA, inL, inR, inO, idsIn, encs_pure, enxs_pure, enys_pure, valC_pure, exC_pure, tyC_pure, r_int_u8_pure]) (List.forall_mem_cons.2 ⟨(by simp [pureA, pureL, pureR, inA, inL, inR, inO, idsIn, encs_pure, enxs_pure, enys_pure, valC_pure, exC_pure, tyC_pure, r_int_u8_pure]), (List.forall_mem_cons.2 ⟨(by simp [pureA, pureL, pureR, inA, inL, inR, inO, idsIn, encs_pure, enxs_pure, enys_pure, valC_pure, exC_pure, tyC_pure, r_int_u8_pure]), (List.forall_mem_cons.2 ⟨(by simp [pureA, pureL, pureR, inA, inL, inR, inO, idsIn, encs_pure, enxs_pure, enys_pure, valC_pure, exC_pure, tyC_pure, r_int_u8_pure]), (fun _ h => by cases h)⟩)⟩)⟩) (List.forall_mem_cons.2 ⟨⟨rfl, (by simp [pureA, pureL, pureR, inA, inL, inR, inO, idsIn, encs_pure, enxs_pure, enys_pure, valC_pure, exC_pure, tyC_pure, r_int_u8_pure])⟩, (List.forall_mem_cons.2 ⟨⟨rfl, (by simp [pureA, pureL, pureR, inA, inL, inR, inO, idsIn, encs_pure, enxs_pure, enys_pure, valC_pure, exC_pure, tyC_pure, r_int_u8_pure])⟩, (List.forall_mem_cons.2 ⟨⟨rfl, (by simp [pureA, pureL, pureR, inA, inL, inR, inO, idsIn, encs_pure, enxs_pure, enys_pure, valC_pure, exC_pure, tyC_pure, r_int_u8_pure])⟩, (fun _ h => by cases h)⟩)⟩)⟩) (by simp [pureA, pureL, pureR, inA, inL, inR, inO, idsIn, encs_pure, enxs_pure, enys_pure, valC_pure, exC_pure, tyC_pure, r_int_u8_pure]) ?_
  rw [s_f73] at hr
  refine AW.seq ?_
  refine AW.region (M := fun _ => true) ?_
  refine AL.bx good (d := 3) (l := [.str a1.f0, .int .i64 a1.f1.kind, .int .i64 a1.f1.i, .bool a1.f1.b, .str a1.f1.s, .sl .ro 5 (encs a1.f1.t), .int .i64 a1.f2]) rfl rfl rfl rfl rfl rfl 4 rfl ?_
  refine AL.v good (d := 4) (v := .int .i64 0) rfl rfl rfl rfl ?_
  refine AW.seq ?_
  refine AW.seq ?_
  refine AW.region (M := fun _ => true) ?_
  refine AL.v good (d := 11) (v := .ptr 4 0) rfl rfl rfl rfl ?_
  refine AL.v good (d := 12) (v := .str a1.f0) rfl rfl rfl rfl ?_
  refine AW.block ?_
  refine AW.seq ?_
  refine AW.region (M := fun _ => true) ?_
  refine AL.sb good (d := 39) (b := (a1.f0.data.toList == [112, 117, 115, 104])) rfl rfl rfl rfl rfl rfl rfl ?_
  refine AL.v good (d := 38) (v := .bool (a1.f0.data.toList == [112, 117, 115, 104])) rfl rfl rfl rfl ?_
  refine AW.if rfl (fun h1 => ?_) (fun h1 => ?_)
  · replace hr := cnd_t h1 hr
    refine AW.drawc (M := fun i => ⟨Nat.beq i 5, bif Nat.beq i 4 then some { ids := [4] } else bif Nat.beq i 5 then some { ids := [1, 2, 3] } else none⟩) good.wide (by kernel_rfl) ?_
    refine AL.v (nc := ⟨rfl⟩) good (d := 40) (v := .ptr 1 0) rfl rfl rfl rfl ?_
    refine AL.v (nc := ⟨rfl⟩) good (d := 41) (v := .ptr 1 0) rfl rfl rfl rfl ?_
    refine AL.v (nc := ⟨rfl⟩) good (d := 42) (v := .ptr 1 5) rfl rfl rfl rfl ?_
    refine AL.v (nc := ⟨rfl⟩) good (d := 43) (v := .ptr 4 1) rfl rfl rfl rfl ?_
    refine AL.vc good (d := 44) (v := .agg [.int .i64 a1.f1.kind, .int .i64 a1.f1.i, .bool a1.f1.b, .str a1.f1.s, .sl .ro 5 (encs a1.f1.t)]) rfl rfl rfl rfl rfl rfl (List.forall_mem_cons.2 ⟨.head _, (fun _ h => by cases h)⟩) ?_
    obtain ⟨h2, hr⟩ := grd hr
    refine AL.clWc good (d := 45) (xs := [.ptr 1 5, .agg (valC a1.f1)]) (rd := [(1, .box 144 [.int .i64 a0.f0.kind, .int .i64 a0.f0.i, .bool a0.f0.b, .str a0.f0.s, .sl .ro 5 (encs a0.f0.t), .mv 2 a0.f1.v .hdr, .sl (.own 3) 5 (encs a0.f2)]), (2, .arr 24 5 a0.f1.v (encs a0.f1.l)), (3, .row 24 5 (encs a0.f2).length)]) (up := [(1, .box 144 [.int .i64 a0.f0.kind, .int .i64 a0.f0.i, .bool a0.f0.b, .str a0.f0.s, .sl .ro 5 (encs a0.f0.t), .mv 2 (a0.f1.v + 1) .hdr, .sl (.own 3) 5 (encs a0.f2)]), (2, .arr 24 5 (a0.f1.v + 1) (encs (a0.f1.l ++ [a1.f1]))), (3, .row 24 5 (encs a0.f2).length)]) (res := .tup []) rfl rfl rfl rfl rfl rfl rfl (o_f111_1_2_3 a0 a1.f1 h2) ⟨(Wv.refl _), (Wv.refl _), trivial⟩ (List.forall_mem_cons.2 ⟨rfl, (List.forall_mem_cons.2 ⟨rfl, (List.forall_mem_cons.2 ⟨rfl, (fun _ h => by cases h)⟩)⟩)⟩) (List.forall_mem_cons.2 ⟨⟨_, .head _⟩, (List.forall_mem_cons.2 ⟨⟨_, .tail _ (.head _)⟩, (List.forall_mem_cons.2 ⟨⟨_, .tail _ (.tail _ (.head _))⟩, (fun _ h => by cases h)⟩)⟩)⟩) rfl rfl (ColN.mk rfl rfl (List.forall_mem_cons.2 ⟨.head _, (List.forall_mem_cons.2 ⟨.tail _ (.head _), (List.forall_mem_cons.2 ⟨.tail _ (.tail _ (.head _)), (fun _ h => by cases h)⟩)⟩)⟩) (List.forall_mem_cons.2 ⟨.head _, (List.forall_mem_cons.2 ⟨.tail _ (.head _), (List.forall_mem_cons.2 ⟨.tail _ (.tail _ (.head _)), (fun _ h => by cases h)⟩)⟩)⟩) (fun _ h => by cases h)) ?_
    refine AW.seq ?_
    refine AW.region (M := fun _ => true) ?_
    refine AL.v good (d := 4) (v := .int .i64 0) rfl rfl rfl rfl ?_
    refine AW.ret ?_
    obtain rfl := Option.some.inj hr
    exact RetH.w good (.inr rfl) rfl rfl (Wv.refl _) (List.forall_mem_cons.2 ⟨rfl, (List.forall_mem_cons.2 ⟨rfl, (List.forall_mem_cons.2 ⟨rfl, (fun _ h => by cases h)⟩)⟩)⟩)
  · replace hr := cnd_f h1 hr
    refine AW.seq ?_
    refine AW.region (M := fun _ => true) ?_
    refine AL.sb good (d := 47) (b := (a1.f0.data.toList == [120])) rfl rfl rfl rfl rfl rfl rfl ?_
    refine AL.v good (d := 46) (v := .bool (a1.f0.data.toList == [120])) rfl rfl rfl rfl ?_
    refine AW.if rfl (fun h3 => ?_) (fun h3 => ?_)
    · replace hr := cnd_t h3 hr
      refine AW.drawc (M := fun i => ⟨Nat.beq i 7, bif Nat.beq i 6 then some { ids := [1] } else bif Nat.beq i 7 then some { ids := [1, 2, 3] } else none⟩) good.wide (by kernel_rfl) ?_
      refine AL.v (nc := ⟨rfl⟩) good (d := 48) (v := .ptr 1 0) rfl rfl rfl rfl ?_
      refine AL.v (nc := ⟨rfl⟩) good (d := 49) (v := .ptr 1 0) rfl rfl rfl rfl ?_
      refine AL.v (nc := ⟨rfl⟩) good (d := 50) (v := .ptr 1 5) rfl rfl rfl rfl ?_
      refine AL.v (nc := ⟨rfl⟩) good (d := 51) (v := .ptr 1 0) rfl rfl rfl rfl ?_
      refine AL.v (nc := ⟨rfl⟩) good (d := 52) (v := .ptr 1 0) rfl rfl rfl rfl ?_
      refine AL.v (nc := ⟨rfl⟩) good (d := 53) (v := .ptr 1 0) rfl rfl rfl rfl ?_
      refine AL.vc good (d := 54) (v := .agg [.int .i64 a0.f0.kind, .int .i64 a0.f0.i, .bool a0.f0.b, .str a0.f0.s, .sl .ro 5 (encs a0.f0.t)]) rfl rfl rfl rfl rfl rfl (List.forall_mem_cons.2 ⟨.head _, (fun _ h => by cases h)⟩) ?_
      obtain ⟨h4, hr⟩ := grd hr
      refine AL.clWc good (d := 55) (xs := [.ptr 1 5, .agg (valC a0.f0)]) (rd := [(1, .box 144 [.int .i64 a0.f0.kind, .int .i64 a0.f0.i, .bool a0.f0.b, .str a0.f0.s, .sl .ro 5 (encs a0.f0.t), .mv 2 a0.f1.v .hdr, .sl (.own 3) 5 (encs a0.f2)]), (2, .arr 24 5 a0.f1.v (encs a0.f1.l)), (3, .row 24 5 (encs a0.f2).length)]) (up := [(1, .box 144 [.int .i64 a0.f0.kind, .int .i64 a0.f0.i, .bool a0.f0.b, .str a0.f0.s, .sl .ro 5 (encs a0.f0.t), .mv 2 (a0.f1.v + 1) .hdr, .sl (.own 3) 5 (encs a0.f2)]), (2, .arr 24 5 (a0.f1.v + 1) (encs (a0.f1.l ++ [a0.f0]))), (3, .row 24 5 (encs a0.f2).length)]) (res := .tup []) rfl rfl rfl rfl rfl rfl rfl (o_f111_1_2_3 a0 a0.f0 h4) ⟨(Wv.refl _), (Wv.refl _), trivial⟩ (List.forall_mem_cons.2 ⟨rfl, (List.forall_mem_cons.2 ⟨rfl, (List.forall_mem_cons.2 ⟨rfl, (fun _ h => by cases h)⟩)⟩)⟩) (List.forall_mem_cons.2 ⟨⟨_, .head _⟩, (List.forall_mem_cons.2 ⟨⟨_, .tail _ (.head _)⟩, (List.forall_mem_cons.2 ⟨⟨_, .tail _ (.tail _ (.head _))⟩, (fun _ h => by cases h)⟩)⟩)⟩) rfl rfl (ColN.mk rfl rfl (List.forall_mem_cons.2 ⟨.head _, (List.forall_mem_cons.2 ⟨.tail _ (.head _), (List.forall_mem_cons.2 ⟨.tail _ (.tail _ (.head _)), (fun _ h => by cases h)⟩)⟩)⟩) (List.forall_mem_cons.2 ⟨.head _, (List.forall_mem_cons.2 ⟨.tail _ (.head _), (List.forall_mem_cons.2 ⟨.tail _ (.tail _ (.head _)), (fun _ h => by cases h)⟩)⟩)⟩) (fun _ h => by cases h)) ?_
      refine AW.seq ?_
      refine AW.region (M := fun _ => true) ?_
      refine AL.v good (d := 4) (v := .int .i64 0) rfl rfl rfl rfl ?_
      refine AW.ret ?_
      obtain rfl := Option.some.inj hr
      exact RetH.w good (.inr rfl) rfl rfl (Wv.refl _) (List.forall_mem_cons.2 ⟨rfl, (List.forall_mem_cons.2 ⟨rfl, (List.forall_mem_cons.2 ⟨rfl, (fun _ h => by cases h)⟩)⟩)⟩)
    · replace hr := cnd_f h3 hr
      refine AW.seq ?_
      refine AW.region (M := fun _ => true) ?_
      refine AL.sb good (d := 57) (b := (a1.f0.data.toList == [97, 116])) rfl rfl rfl rfl rfl rfl rfl ?_
      refine AL.v good (d := 56) (v := .bool (a1.f0.data.toList == [97, 116])) rfl rfl rfl rfl ?_
      refine AW.if rfl (fun h5 => ?_) (fun h5 => ?_)
      · replace hr := cnd_t h5 hr
        refine AW.drawc (M := fun i => ⟨Nat.beq i 6 || Nat.beq i 14, bif Nat.beq i 6 then some { ids := [1, 2, 3] } else bif Nat.beq i 9 then some { ids := [] } else bif Nat.beq i 11 then some { ids := [4] } else bif Nat.beq i 13 then some { ids := [] } else bif Nat.beq i 14 then some { ids := [1, 2, 3] } else none⟩) good.wide (by kernel_rfl) ?_
        refine AL.v (nc := ⟨rfl⟩) good (d := 58) (v := .ptr 1 0) rfl rfl rfl rfl ?_
        refine AL.v (nc := ⟨rfl⟩) good (d := 59) (v := .ptr 1 0) rfl rfl rfl rfl ?_
        refine AL.v (nc := ⟨rfl⟩) good (d := 60) (v := .ptr 1 5) rfl rfl rfl rfl ?_
        refine AL.v (nc := ⟨rfl⟩) good (d := 61) (v := .ptr 1 0) rfl rfl rfl rfl ?_
        refine AL.v (nc := ⟨rfl⟩) good (d := 62) (v := .ptr 1 0) rfl rfl rfl rfl ?_
        refine AL.v (nc := ⟨rfl⟩) good (d := 63) (v := .ptr 1 5) rfl rfl rfl rfl ?_
        obtain ⟨h6, hr⟩ := grd hr
        refine AL.clWc good (d := 64) (xs := [.ptr 1 5, .int .i64 1]) (rd := [(1, .box 144 [.int .i64 a0.f0.kind, .int .i64 a0.f0.i, .bool a0.f0.b, .str a0.f0.s, .sl .ro 5 (encs a0.f0.t), .mv 2 a0.f1.v .hdr, .sl (.own 3) 5 (encs a0.f2)]), (2, .arr 24 5 a0.f1.v (encs a0.f1.l)), (3, .row 24 5 (encs a0.f2).length)]) (up := [(1, .box 144 [.int .i64 a0.f0.kind, .int .i64 a0.f0.i, .bool a0.f0.b, .str a0.f0.s, .sl .ro 5 (encs a0.f0.t), .mv 2 (a0.f1.v + 1) .hdr, .sl (.own 3) 5 (encs a0.f2)]), (2, .arr 24 5 (a0.f1.v + 1) (encs (a0.f1.l.take (a0.f1.l.length - (1 : Int).toNat)))), (3, .row 24 5 (encs a0.f2).length)]) (res := .sl .ro 5 (encs (a0.f1.l.drop (a0.f1.l.length - (1 : Int).toNat)))) rfl rfl rfl rfl rfl rfl rfl (o_f72_1_2_3 a0 1 h6) ⟨(Wv.refl _), (Wv.refl _), trivial⟩ (List.forall_mem_cons.2 ⟨rfl, (List.forall_mem_cons.2 ⟨rfl, (List.forall_mem_cons.2 ⟨rfl, (fun _ h => by cases h)⟩)⟩)⟩) (List.forall_mem_cons.2 ⟨⟨_, .head _⟩, (List.forall_mem_cons.2 ⟨⟨_, .tail _ (.head _)⟩, (List.forall_mem_cons.2 ⟨⟨_, .tail _ (.tail _ (.head _))⟩, (fun _ h => by cases h)⟩)⟩)⟩) rfl rfl (ColN.mk rfl rfl (List.forall_mem_cons.2 ⟨.head _, (List.forall_mem_cons.2 ⟨.tail _ (.head _), (List.forall_mem_cons.2 ⟨.tail _ (.tail _ (.head _)), (fun _ h => by cases h)⟩)⟩)⟩) (List.forall_mem_cons.2 ⟨.head _, (List.forall_mem_cons.2 ⟨.tail _ (.head _), (List.forall_mem_cons.2 ⟨.tail _ (.tail _ (.head _)), (fun _ h => by cases h)⟩)⟩)⟩) (fun _ h => by cases h)) ?_
        obtain ⟨x7, h8, hr⟩ := bnd1 hr
        refine AL.ix (nc := ⟨rfl⟩) good (d := 65) (r := [.int .i64 x7.kind, .int .i64 x7.i, .bool x7.b, .str x7.s, .sl .ro 5 (encs x7.t)]) rfl rfl rfl rfl rfl rfl rfl (by decide) (encs_get h8) ?_
        refine AL.v (nc := ⟨rfl⟩) good (d := 66) (v := .ep [.sl .ro 5 (encs x7.t)]) rfl rfl rfl rfl ?_
        refine AL.vc good (d := 67) (v := .sl .ro 5 (encs x7.t)) rfl rfl rfl rfl rfl rfl (fun _ h => by cases h) ?_
        refine AL.v (nc := ⟨rfl⟩) good (d := 68) (v := .ptr 4 6) rfl rfl rfl rfl ?_
        refine AL.vc good (d := 69) (v := .int .i64 a1.f2) rfl rfl rfl rfl rfl rfl (List.forall_mem_cons.2 ⟨.head _, (fun _ h => by cases h)⟩) ?_
        obtain ⟨h11, hr⟩ := grd hr
        obtain ⟨x9, h10, hr⟩ := bnd1 hr
        refine AL.ix (nc := ⟨rfl⟩) good (d := 70) (r := [.int .i64 x9.kind, .int .i64 x9.i, .bool x9.b, .str x9.s, .sl .ro 5 (encs x9.t)]) rfl rfl rfl rfl rfl rfl rfl h11 (encs_get h10) ?_
        refine AL.vc good (d := 71) (v := .agg [.int .i64 x9.kind, .int .i64 x9.i, .bool x9.b, .str x9.s, .sl .ro 5 (encs x9.t)]) rfl rfl rfl rfl rfl rfl (fun _ h => by cases h) ?_
        obtain ⟨h12, hr⟩ := grd hr
        refine AL.clWc good (d := 72) (xs := [.ptr 1 5, .agg (valC x9)]) (rd := [(1, .box 144 [.int .i64 ((((Mach.mk a0.f0 (Ar.mk (a0.f1.v + 1) (a0.f1.l.take (a0.f1.l.length - (1 : Int).toNat))) a0.f2)).f0).kind), .int .i64 ((((Mach.mk a0.f0 (Ar.mk (a0.f1.v + 1) (a0.f1.l.take (a0.f1.l.length - (1 : Int).toNat))) a0.f2)).f0).i), .bool ((((Mach.mk a0.f0 (Ar.mk (a0.f1.v + 1) (a0.f1.l.take (a0.f1.l.length - (1 : Int).toNat))) a0.f2)).f0).b), .str ((((Mach.mk a0.f0 (Ar.mk (a0.f1.v + 1) (a0.f1.l.take (a0.f1.l.length - (1 : Int).toNat))) a0.f2)).f0).s), .sl .ro 5 (encs ((((Mach.mk a0.f0 (Ar.mk (a0.f1.v + 1) (a0.f1.l.take (a0.f1.l.length - (1 : Int).toNat))) a0.f2)).f0).t)), .mv 2 ((((Mach.mk a0.f0 (Ar.mk (a0.f1.v + 1) (a0.f1.l.take (a0.f1.l.length - (1 : Int).toNat))) a0.f2)).f1).v) .hdr, .sl (.own 3) 5 (encs (((Mach.mk a0.f0 (Ar.mk (a0.f1.v + 1) (a0.f1.l.take (a0.f1.l.length - (1 : Int).toNat))) a0.f2)).f2))]), (2, .arr 24 5 ((((Mach.mk a0.f0 (Ar.mk (a0.f1.v + 1) (a0.f1.l.take (a0.f1.l.length - (1 : Int).toNat))) a0.f2)).f1).v) (encs ((((Mach.mk a0.f0 (Ar.mk (a0.f1.v + 1) (a0.f1.l.take (a0.f1.l.length - (1 : Int).toNat))) a0.f2)).f1).l))), (3, .row 24 5 (encs (((Mach.mk a0.f0 (Ar.mk (a0.f1.v + 1) (a0.f1.l.take (a0.f1.l.length - (1 : Int).toNat))) a0.f2)).f2)).length)]) (up := [(1, .box 144 [.int .i64 a0.f0.kind, .int .i64 a0.f0.i, .bool a0.f0.b, .str a0.f0.s, .sl .ro 5 (encs a0.f0.t), .mv 2 ((a0.f1.v + 1) + 1) .hdr, .sl (.own 3) 5 (encs a0.f2)]), (2, .arr 24 5 ((a0.f1.v + 1) + 1) (encs ((a0.f1.l.take (a0.f1.l.length - (1 : Int).toNat)) ++ [x9]))), (3, .row 24 5 (encs a0.f2).length)]) (res := .tup []) rfl rfl rfl rfl rfl rfl rfl (o_f111_1_2_3 (Mach.mk a0.f0 (Ar.mk (a0.f1.v + 1) (a0.f1.l.take (a0.f1.l.length - (1 : Int).toNat))) a0.f2) x9 h12) ⟨(Wv.refl _), (Wv.refl _), trivial⟩ (List.forall_mem_cons.2 ⟨rfl, (List.forall_mem_cons.2 ⟨rfl, (List.forall_mem_cons.2 ⟨rfl, (fun _ h => by cases h)⟩)⟩)⟩) (List.forall_mem_cons.2 ⟨⟨_, .head _⟩, (List.forall_mem_cons.2 ⟨⟨_, .tail _ (.head _)⟩, (List.forall_mem_cons.2 ⟨⟨_, .tail _ (.tail _ (.head _))⟩, (fun _ h => by cases h)⟩)⟩)⟩) rfl rfl (ColN.mk rfl rfl (List.forall_mem_cons.2 ⟨.head _, (List.forall_mem_cons.2 ⟨.tail _ (.head _), (List.forall_mem_cons.2 ⟨.tail _ (.tail _ (.head _)), (fun _ h => by cases h)⟩)⟩)⟩) (List.forall_mem_cons.2 ⟨.head _, (List.forall_mem_cons.2 ⟨.tail _ (.head _), (List.forall_mem_cons.2 ⟨.tail _ (.tail _ (.head _)), (fun _ h => by cases h)⟩)⟩)⟩) (fun _ h => by cases h)) ?_
        refine AW.seq ?_
        refine AW.region (M := fun _ => true) ?_
        refine AL.v good (d := 4) (v := .int .i64 0) rfl rfl rfl rfl ?_
        refine AW.ret ?_
        obtain rfl := Option.some.inj hr
        exact RetH.w good (.inr rfl) rfl rfl (Wv.refl _) (List.forall_mem_cons.2 ⟨rfl, (List.forall_mem_cons.2 ⟨rfl, (List.forall_mem_cons.2 ⟨rfl, (fun _ h => by cases h)⟩)⟩)⟩)
      · replace hr := cnd_f h5 hr
        refine AW.seq ?_
        refine AW.region (M := fun _ => true) ?_
        refine AL.sb good (d := 74) (b := (a1.f0.data.toList == [116, 117, 112])) rfl rfl rfl rfl rfl rfl rfl ?_
        refine AL.v good (d := 73) (v := .bool (a1.f0.data.toList == [116, 117, 112])) rfl rfl rfl rfl ?_
        refine AW.if rfl (fun h13 => ?_) (fun h13 => ?_)
        · replace hr := cnd_t h13 hr
          refine AW.drawc (M := fun i => ⟨Nat.beq i 8 || Nat.beq i 10, bif Nat.beq i 7 then some { ids := [4] } else bif Nat.beq i 8 then some { ids := [1, 2, 3] } else bif Nat.beq i 10 then some { ids := [1, 2, 3] } else none⟩) good.wide (by kernel_rfl) ?_
          refine AL.v (nc := ⟨rfl⟩) good (d := 75) (v := .ptr 1 0) rfl rfl rfl rfl ?_
          refine AL.v (nc := ⟨rfl⟩) good (d := 76) (v := .ptr 1 0) rfl rfl rfl rfl ?_
          refine AL.v (nc := ⟨rfl⟩) good (d := 77) (v := .ptr 1 5) rfl rfl rfl rfl ?_
          refine AL.v (nc := ⟨rfl⟩) good (d := 78) (v := .ptr 1 0) rfl rfl rfl rfl ?_
          refine AL.v (nc := ⟨rfl⟩) good (d := 79) (v := .ptr 1 0) rfl rfl rfl rfl ?_
          refine AL.v (nc := ⟨rfl⟩) good (d := 80) (v := .ptr 1 5) rfl rfl rfl rfl ?_
          refine AL.v (nc := ⟨rfl⟩) good (d := 81) (v := .ptr 4 6) rfl rfl rfl rfl ?_
          refine AL.vc good (d := 82) (v := .int .i64 a1.f2) rfl rfl rfl rfl rfl rfl (List.forall_mem_cons.2 ⟨.head _, (fun _ h => by cases h)⟩) ?_
          obtain ⟨h14, hr⟩ := grd hr
          refine AL.clWc good (d := 83) (xs := [.ptr 1 5, .int .i64 a1.f2]) (rd := [(1, .box 144 [.int .i64 a0.f0.kind, .int .i64 a0.f0.i, .bool a0.f0.b, .str a0.f0.s, .sl .ro 5 (encs a0.f0.t), .mv 2 a0.f1.v .hdr, .sl (.own 3) 5 (encs a0.f2)]), (2, .arr 24 5 a0.f1.v (encs a0.f1.l)), (3, .row 24 5 (encs a0.f2).length)]) (up := [(1, .box 144 [.int .i64 a0.f0.kind, .int .i64 a0.f0.i, .bool a0.f0.b, .str a0.f0.s, .sl .ro 5 (encs a0.f0.t), .mv 2 (a0.f1.v + 1) .hdr, .sl (.own 3) 5 (encs a0.f2)]), (2, .arr 24 5 (a0.f1.v + 1) (encs (a0.f1.l.take (a0.f1.l.length - a1.f2.toNat)))), (3, .row 24 5 (encs a0.f2).length)]) (res := .sl .ro 5 (encs (a0.f1.l.drop (a0.f1.l.length - a1.f2.toNat)))) rfl rfl rfl rfl rfl rfl rfl (o_f72_1_2_3 a0 a1.f2 h14) ⟨(Wv.refl _), (Wv.refl _), trivial⟩ (List.forall_mem_cons.2 ⟨rfl, (List.forall_mem_cons.2 ⟨rfl, (List.forall_mem_cons.2 ⟨rfl, (fun _ h => by cases h)⟩)⟩)⟩) (List.forall_mem_cons.2 ⟨⟨_, .head _⟩, (List.forall_mem_cons.2 ⟨⟨_, .tail _ (.head _)⟩, (List.forall_mem_cons.2 ⟨⟨_, .tail _ (.tail _ (.head _))⟩, (fun _ h => by cases h)⟩)⟩)⟩) rfl rfl (ColN.mk rfl rfl (List.forall_mem_cons.2 ⟨.head _, (List.forall_mem_cons.2 ⟨.tail _ (.head _), (List.forall_mem_cons.2 ⟨.tail _ (.tail _ (.head _)), (fun _ h => by cases h)⟩)⟩)⟩) (List.forall_mem_cons.2 ⟨.head _, (List.forall_mem_cons.2 ⟨.tail _ (.head _), (List.forall_mem_cons.2 ⟨.tail _ (.tail _ (.head _)), (fun _ h => by cases h)⟩)⟩)⟩) (fun _ h => by cases h)) ?_
          obtain ⟨q15, h16, hr⟩ := bnd1 hr
          refine AL.cw (nc := ⟨rfl⟩) good (d := 84) (xs := [.sl .ro 5 (encs (a0.f1.l.drop (a0.f1.l.length - a1.f2.toNat)))]) (res := .agg [.int .i64 q15.kind, .int .i64 q15.i, .bool q15.b, .str q15.s, .sl .ro 5 (encs q15.t)]) rfl rfl rfl rfl rfl rfl rfl (w_tup h16) ⟨(Wv.refl _), trivial⟩ (by simp [pureA, pureL, pureR, inA, inL, inR, inO, idsIn, encs_pure, enxs_pure, enys_pure, valC_pure, exC_pure, tyC_pure, r_int_u8_pure]) ?_
          obtain ⟨h17, hr⟩ := grd hr
          refine AL.clWc good (d := 85) (xs := [.ptr 1 5, .agg (valC q15)]) (rd := [(1, .box 144 [.int .i64 ((((Mach.mk a0.f0 (Ar.mk (a0.f1.v + 1) (a0.f1.l.take (a0.f1.l.length - a1.f2.toNat))) a0.f2)).f0).kind), .int .i64 ((((Mach.mk a0.f0 (Ar.mk (a0.f1.v + 1) (a0.f1.l.take (a0.f1.l.length - a1.f2.toNat))) a0.f2)).f0).i), .bool ((((Mach.mk a0.f0 (Ar.mk (a0.f1.v + 1) (a0.f1.l.take (a0.f1.l.length - a1.f2.toNat))) a0.f2)).f0).b), .str ((((Mach.mk a0.f0 (Ar.mk (a0.f1.v + 1) (a0.f1.l.take (a0.f1.l.length - a1.f2.toNat))) a0.f2)).f0).s), .sl .ro 5 (encs ((((Mach.mk a0.f0 (Ar.mk (a0.f1.v + 1) (a0.f1.l.take (a0.f1.l.length - a1.f2.toNat))) a0.f2)).f0).t)), .mv 2 ((((Mach.mk a0.f0 (Ar.mk (a0.f1.v + 1) (a0.f1.l.take (a0.f1.l.length - a1.f2.toNat))) a0.f2)).f1).v) .hdr, .sl (.own 3) 5 (encs (((Mach.mk a0.f0 (Ar.mk (a0.f1.v + 1) (a0.f1.l.take (a0.f1.l.length - a1.f2.toNat))) a0.f2)).f2))]), (2, .arr 24 5 ((((Mach.mk a0.f0 (Ar.mk (a0.f1.v + 1) (a0.f1.l.take (a0.f1.l.length - a1.f2.toNat))) a0.f2)).f1).v) (encs ((((Mach.mk a0.f0 (Ar.mk (a0.f1.v + 1) (a0.f1.l.take (a0.f1.l.length - a1.f2.toNat))) a0.f2)).f1).l))), (3, .row 24 5 (encs (((Mach.mk a0.f0 (Ar.mk (a0.f1.v + 1) (a0.f1.l.take (a0.f1.l.length - a1.f2.toNat))) a0.f2)).f2)).length)]) (up := [(1, .box 144 [.int .i64 a0.f0.kind, .int .i64 a0.f0.i, .bool a0.f0.b, .str a0.f0.s, .sl .ro 5 (encs a0.f0.t), .mv 2 ((a0.f1.v + 1) + 1) .hdr, .sl (.own 3) 5 (encs a0.f2)]), (2, .arr 24 5 ((a0.f1.v + 1) + 1) (encs ((a0.f1.l.take (a0.f1.l.length - a1.f2.toNat)) ++ [q15]))), (3, .row 24 5 (encs a0.f2).length)]) (res := .tup []) rfl rfl rfl rfl rfl rfl rfl (o_f111_1_2_3 (Mach.mk a0.f0 (Ar.mk (a0.f1.v + 1) (a0.f1.l.take (a0.f1.l.length - a1.f2.toNat))) a0.f2) q15 h17) ⟨(Wv.refl _), (Wv.refl _), trivial⟩ (List.forall_mem_cons.2 ⟨rfl, (List.forall_mem_cons.2 ⟨rfl, (List.forall_mem_cons.2 ⟨rfl, (fun _ h => by cases h)⟩)⟩)⟩) (List.forall_mem_cons.2 ⟨⟨_, .head _⟩, (List.forall_mem_cons.2 ⟨⟨_, .tail _ (.head _)⟩, (List.forall_mem_cons.2 ⟨⟨_, .tail _ (.tail _ (.head _))⟩, (fun _ h => by cases h)⟩)⟩)⟩) rfl rfl (ColN.mk rfl rfl (List.forall_mem_cons.2 ⟨.head _, (List.forall_mem_cons.2 ⟨.tail _ (.head _), (List.forall_mem_cons.2 ⟨.tail _ (.tail _ (.head _)), (fun _ h => by cases h)⟩)⟩)⟩) (List.forall_mem_cons.2 ⟨.head _, (List.forall_mem_cons.2 ⟨.tail _ (.head _), (List.forall_mem_cons.2 ⟨.tail _ (.tail _ (.head _)), (fun _ h => by cases h)⟩)⟩)⟩) (fun _ h => by cases h)) ?_
          refine AW.seq ?_
          refine AW.region (M := fun _ => true) ?_
          refine AL.v good (d := 4) (v := .int .i64 0) rfl rfl rfl rfl ?_
          refine AW.ret ?_
          obtain rfl := Option.some.inj hr
          exact RetH.w good (.inr rfl) rfl rfl (Wv.refl _) (List.forall_mem_cons.2 ⟨rfl, (List.forall_mem_cons.2 ⟨rfl, (List.forall_mem_cons.2 ⟨rfl, (fun _ h => by cases h)⟩)⟩)⟩)
        · replace hr := cnd_f h13 hr
          refine AW.seq ?_
          refine AW.region (M := fun _ => true) ?_
          refine AL.sb good (d := 87) (b := (a1.f0.data.toList == [101, 109, 105, 116])) rfl rfl rfl rfl rfl rfl rfl ?_
          refine AL.v good (d := 86) (v := .bool (a1.f0.data.toList == [101, 109, 105, 116])) rfl rfl rfl rfl ?_
          refine AW.if rfl (fun h18 => ?_) (fun h18 => ?_)
          · replace hr := cnd_t h18 hr
            refine AW.drawc (M := fun i => ⟨Nat.beq i 10 || Nat.beq i 11 || Nat.beq i 14, bif Nat.beq i 4 then some { ids := [1], lk := some (1, 6, 1) } else bif Nat.beq i 9 then some { ids := [4] } else bif Nat.beq i 10 then some { ids := [1, 2, 3], kp := [(1, 6, 1)] } else bif Nat.beq i 11 then some { ids := [3] } else bif Nat.beq i 14 then some { ids := [1] } else none⟩) good.wide (by kernel_rfl) ?_
            refine AL.v (nc := ⟨rfl⟩) good (d := 88) (v := .ptr 1 0) rfl rfl rfl rfl ?_
            refine AL.v (nc := ⟨rfl⟩) good (d := 89) (v := .ptr 1 0) rfl rfl rfl rfl ?_
            refine AL.v (nc := ⟨rfl⟩) good (d := 90) (v := .ptr 1 0) rfl rfl rfl rfl ?_
            refine AL.v (nc := ⟨rfl⟩) good (d := 91) (v := .ptr 1 6) rfl rfl rfl rfl ?_
            refine AL.vl good (d := 92) (v := .sl (.own 3) 5 (encs a0.f2)) rfl rfl rfl rfl rfl rfl rfl rfl rfl rfl rfl rfl rfl ?_
            refine AL.v (nc := ⟨rfl⟩) good (d := 93) (v := .ptr 1 0) rfl rfl rfl rfl ?_
            refine AL.v (nc := ⟨rfl⟩) good (d := 94) (v := .ptr 1 0) rfl rfl rfl rfl ?_
            refine AL.v (nc := ⟨rfl⟩) good (d := 95) (v := .ptr 1 5) rfl rfl rfl rfl ?_
            refine AL.v (nc := ⟨rfl⟩) good (d := 96) (v := .ptr 4 6) rfl rfl rfl rfl ?_
            refine AL.vc good (d := 97) (v := .int .i64 a1.f2) rfl rfl rfl rfl rfl rfl (List.forall_mem_cons.2 ⟨.head _, (fun _ h => by cases h)⟩) ?_
            obtain ⟨h19, hr⟩ := grd hr
            refine AL.clWc good (d := 98) (xs := [.ptr 1 5, .int .i64 a1.f2]) (rd := [(1, .box 144 [.int .i64 a0.f0.kind, .int .i64 a0.f0.i, .bool a0.f0.b, .str a0.f0.s, .sl .ro 5 (encs a0.f0.t), .mv 2 a0.f1.v .hdr, .sl (.own 3) 5 (encs a0.f2)]), (2, .arr 24 5 a0.f1.v (encs a0.f1.l)), (3, .row 24 5 (encs a0.f2).length)]) (up := [(1, .box 144 [.int .i64 a0.f0.kind, .int .i64 a0.f0.i, .bool a0.f0.b, .str a0.f0.s, .sl .ro 5 (encs a0.f0.t), .mv 2 (a0.f1.v + 1) .hdr, .sl (.own 3) 5 (encs a0.f2)]), (2, .arr 24 5 (a0.f1.v + 1) (encs (a0.f1.l.take (a0.f1.l.length - a1.f2.toNat)))), (3, .row 24 5 (encs a0.f2).length)]) (res := .sl .ro 5 (encs (a0.f1.l.drop (a0.f1.l.length - a1.f2.toNat)))) rfl rfl rfl rfl rfl rfl rfl (o_f72_1_2_3 a0 a1.f2 h19) ⟨(Wv.refl _), (Wv.refl _), trivial⟩ (List.forall_mem_cons.2 ⟨rfl, (List.forall_mem_cons.2 ⟨rfl, (List.forall_mem_cons.2 ⟨rfl, (fun _ h => by cases h)⟩)⟩)⟩) (List.forall_mem_cons.2 ⟨⟨_, .head _⟩, (List.forall_mem_cons.2 ⟨⟨_, .tail _ (.head _)⟩, (List.forall_mem_cons.2 ⟨⟨_, .tail _ (.tail _ (.head _))⟩, (fun _ h => by cases h)⟩)⟩)⟩) rfl rfl (ColN.mk rfl rfl (List.forall_mem_cons.2 ⟨.head _, (List.forall_mem_cons.2 ⟨.tail _ (.head _), (List.forall_mem_cons.2 ⟨.tail _ (.tail _ (.head _)), (fun _ h => by cases h)⟩)⟩)⟩) (List.forall_mem_cons.2 ⟨.head _, (List.forall_mem_cons.2 ⟨.tail _ (.head _), (List.forall_mem_cons.2 ⟨.tail _ (.tail _ (.head _)), (fun _ h => by cases h)⟩)⟩)⟩) (List.forall_mem_cons.2 ⟨rfl, (fun _ h => by cases h)⟩)) ?_
            obtain ⟨h20, hr⟩ := grd hr
            refine AL.aw2c good (d := 99) (rows := encs a0.f2) (news := encs (a0.f1.l.drop (a0.f1.l.length - a1.f2.toNat))) (rows2 := encs (a0.f2 ++ (a0.f1.l.drop (a0.f1.l.length - a1.f2.toNat)))) rfl rfl rfl rfl rfl rfl rfl rfl rfl (by simp) rfl rfl rfl rfl (WvR.refl _) (by simp [encs_map]) (by rw [encs_length, List.length_append]; exact h20) rfl ?_
            refine AL.v (nc := ⟨rfl⟩) good (d := 100) (v := .ptr 1 0) rfl rfl rfl rfl ?_
            refine AL.v (nc := ⟨rfl⟩) good (d := 101) (v := .ptr 1 6) rfl rfl rfl rfl ?_
            refine AL.st2c good (c2 := [.int .i64 a0.f0.kind, .int .i64 a0.f0.i, .bool a0.f0.b, .str a0.f0.s, .sl .ro 5 (encs a0.f0.t), .mv 2 (a0.f1.v + 1) .hdr, .sl (.own 3) 5 (encs (a0.f2 ++ (a0.f1.l.drop (a0.f1.l.length - a1.f2.toNat))))]) rfl rfl rfl rfl rfl rfl rfl rfl rfl rfl rfl rfl rfl ?_
            refine AW.seq ?_
            refine AW.region (M := fun _ => true) ?_
            refine AL.v good (d := 4) (v := .int .i64 0) rfl rfl rfl rfl ?_
            refine AW.ret ?_
            obtain rfl := Option.some.inj hr
            exact RetH.w good (.inr rfl) rfl rfl (Wv.refl _) (List.forall_mem_cons.2 ⟨rfl, (List.forall_mem_cons.2 ⟨rfl, (List.forall_mem_cons.2 ⟨rfl, (fun _ h => by cases h)⟩)⟩)⟩)
          · replace hr := cnd_f h18 hr
            refine AW.seq ?_
            refine AW.seq ?_
            refine AW.region (M := fun _ => true) ?_
            refine AL.sb good (d := 103) (b := (a1.f0.data.toList == [110, 101, 103])) rfl rfl rfl rfl rfl rfl rfl ?_
            refine AL.v good (d := 102) (v := .bool (a1.f0.data.toList == [110, 101, 103])) rfl rfl rfl rfl ?_
            refine AW.if rfl (fun h21 => ?_) (fun h21 => ?_)
            · replace hr := cnd_t h21 hr
              refine AW.skip ?_
              refine AW.if rfl (fun h => ?_) (fun h => by cases h21.symm.trans h)
              refine AW.seq ?_
              refine AW.drawc (M := fun i => ⟨Nat.beq i 5 || Nat.beq i 13, bif Nat.beq i 1 then some { ids := [4] } else bif Nat.beq i 5 then some { ids := [1, 2, 3] } else bif Nat.beq i 7 then some { ids := [] } else bif Nat.beq i 12 then some { ids := [5] } else bif Nat.beq i 13 then some { ids := [5] } else none⟩) good.wide (by kernel_rfl) ?_
              refine AL.v (nc := ⟨rfl⟩) good (d := 107) (v := .ptr 4 0) rfl rfl rfl rfl ?_
              refine AL.vc good (d := 108) (v := .str a1.f0) rfl rfl rfl rfl rfl rfl (List.forall_mem_cons.2 ⟨.head _, (fun _ h => by cases h)⟩) ?_
              refine AL.v (nc := ⟨rfl⟩) good (d := 109) (v := .ptr 1 0) rfl rfl rfl rfl ?_
              refine AL.v (nc := ⟨rfl⟩) good (d := 110) (v := .ptr 1 0) rfl rfl rfl rfl ?_
              refine AL.v (nc := ⟨rfl⟩) good (d := 111) (v := .ptr 1 5) rfl rfl rfl rfl ?_
              obtain ⟨h22, hr⟩ := grd hr
              refine AL.clWc good (d := 112) (xs := [.ptr 1 5, .int .i64 1]) (rd := [(1, .box 144 [.int .i64 a0.f0.kind, .int .i64 a0.f0.i, .bool a0.f0.b, .str a0.f0.s, .sl .ro 5 (encs a0.f0.t), .mv 2 a0.f1.v .hdr, .sl (.own 3) 5 (encs a0.f2)]), (2, .arr 24 5 a0.f1.v (encs a0.f1.l)), (3, .row 24 5 (encs a0.f2).length)]) (up := [(1, .box 144 [.int .i64 a0.f0.kind, .int .i64 a0.f0.i, .bool a0.f0.b, .str a0.f0.s, .sl .ro 5 (encs a0.f0.t), .mv 2 (a0.f1.v + 1) .hdr, .sl (.own 3) 5 (encs a0.f2)]), (2, .arr 24 5 (a0.f1.v + 1) (encs (a0.f1.l.take (a0.f1.l.length - (1 : Int).toNat)))), (3, .row 24 5 (encs a0.f2).length)]) (res := .sl .ro 5 (encs (a0.f1.l.drop (a0.f1.l.length - (1 : Int).toNat)))) rfl rfl rfl rfl rfl rfl rfl (o_f72_1_2_3 a0 1 h22) ⟨(Wv.refl _), (Wv.refl _), trivial⟩ (List.forall_mem_cons.2 ⟨rfl, (List.forall_mem_cons.2 ⟨rfl, (List.forall_mem_cons.2 ⟨rfl, (fun _ h => by cases h)⟩)⟩)⟩) (List.forall_mem_cons.2 ⟨⟨_, .head _⟩, (List.forall_mem_cons.2 ⟨⟨_, .tail _ (.head _)⟩, (List.forall_mem_cons.2 ⟨⟨_, .tail _ (.tail _ (.head _))⟩, (fun _ h => by cases h)⟩)⟩)⟩) rfl rfl (ColN.mk rfl rfl (List.forall_mem_cons.2 ⟨.head _, (List.forall_mem_cons.2 ⟨.tail _ (.head _), (List.forall_mem_cons.2 ⟨.tail _ (.tail _ (.head _)), (fun _ h => by cases h)⟩)⟩)⟩) (List.forall_mem_cons.2 ⟨.head _, (List.forall_mem_cons.2 ⟨.tail _ (.head _), (List.forall_mem_cons.2 ⟨.tail _ (.tail _ (.head _)), (fun _ h => by cases h)⟩)⟩)⟩) (fun _ h => by cases h)) ?_
              obtain ⟨x23, h24, hr⟩ := bnd1 hr
              refine AL.ix (nc := ⟨rfl⟩) good (d := 113) (r := [.int .i64 x23.kind, .int .i64 x23.i, .bool x23.b, .str x23.s, .sl .ro 5 (encs x23.t)]) rfl rfl rfl rfl rfl rfl rfl (by decide) (encs_get h24) ?_
              refine AL.vc good (d := 114) (v := .agg [.int .i64 x23.kind, .int .i64 x23.i, .bool x23.b, .str x23.s, .sl .ro 5 (encs x23.t)]) rfl rfl rfl rfl rfl rfl (fun _ h => by cases h) ?_
              obtain ⟨q25, h26, hr⟩ := bnd1 hr
              refine AL.cw (nc := ⟨rfl⟩) good (d := 115) (xs := [.str a1.f0, .agg (valC x23)]) (res := .tup [.agg [.int .i64 q25.1.kind, .int .i64 q25.1.i, .bool q25.1.b, .str q25.1.s, .sl .ro 5 (encs q25.1.t)], .bool q25.2]) rfl rfl rfl rfl rfl rfl rfl (w61o h26) ⟨(Wv.refl _), (Wv.refl _), trivial⟩ (by simp [pureA, pureL, pureR, inA, inL, inR, inO, idsIn, encs_pure, enxs_pure, enys_pure, valC_pure, exC_pure, tyC_pure, r_int_u8_pure]) ?_
              refine AL.v (nc := ⟨rfl⟩) good (d := 106) (v := .tup [.agg [.int .i64 q25.1.kind, .int .i64 q25.1.i, .bool q25.1.b, .str q25.1.s, .sl .ro 5 (encs q25.1.t)], .bool q25.2]) rfl rfl rfl rfl ?_
              refine AL.v (nc := ⟨rfl⟩) good (d := 116) (v := .agg [.int .i64 q25.1.kind, .int .i64 q25.1.i, .bool q25.1.b, .str q25.1.s, .sl .ro 5 (encs q25.1.t)]) rfl rfl rfl rfl ?_
              refine AL.v (nc := ⟨rfl⟩) good (d := 117) (v := .bool q25.2) rfl rfl rfl rfl ?_
              refine AL.alcC good (d := 5) rfl rfl rfl rfl rfl 5 rfl (ColN.mk rfl rfl (fun _ h => by cases h) (List.forall_mem_cons.2 ⟨.head _, (fun _ h => by cases h)⟩) (fun _ h => by cases h)) ?_
              refine AL.st2c good (c2 := [.int .i64 q25.1.kind, .int .i64 q25.1.i, .bool q25.1.b, .str q25.1.s, .sl .ro 5 (encs q25.1.t)]) rfl rfl rfl rfl rfl rfl rfl rfl rfl rfl rfl rfl rfl ?_
              refine AL.v (nc := ⟨rfl⟩) good (d := 6) (v := .bool q25.2) rfl rfl rfl rfl ?_
              refine AW.drawc (M := fun i => ⟨Nat.beq i 4, bif Nat.beq i 3 then some { ids := [5] } else bif Nat.beq i 4 then some { ids := [1, 2, 3] } else none⟩) good.wide (by kernel_rfl) ?_
              refine AL.v (nc := ⟨rfl⟩) good (d := 118) (v := .ptr 1 0) rfl rfl rfl rfl ?_
              refine AL.v (nc := ⟨rfl⟩) good (d := 119) (v := .ptr 1 0) rfl rfl rfl rfl ?_
              refine AL.v (nc := ⟨rfl⟩) good (d := 120) (v := .ptr 1 5) rfl rfl rfl rfl ?_
              refine AL.vc good (d := 121) (v := .agg [.int .i64 q25.1.kind, .int .i64 q25.1.i, .bool q25.1.b, .str q25.1.s, .sl .ro 5 (encs q25.1.t)]) rfl rfl rfl rfl rfl rfl (List.forall_mem_cons.2 ⟨.head _, (fun _ h => by cases h)⟩) ?_
              obtain ⟨h27, hr⟩ := grd hr
              refine AL.clWc good (d := 122) (xs := [.ptr 1 5, .agg (valC q25.1)]) (rd := [(1, .box 144 [.int .i64 ((((Mach.mk a0.f0 (Ar.mk (a0.f1.v + 1) (a0.f1.l.take (a0.f1.l.length - (1 : Int).toNat))) a0.f2)).f0).kind), .int .i64 ((((Mach.mk a0.f0 (Ar.mk (a0.f1.v + 1) (a0.f1.l.take (a0.f1.l.length - (1 : Int).toNat))) a0.f2)).f0).i), .bool ((((Mach.mk a0.f0 (Ar.mk (a0.f1.v + 1) (a0.f1.l.take (a0.f1.l.length - (1 : Int).toNat))) a0.f2)).f0).b), .str ((((Mach.mk a0.f0 (Ar.mk (a0.f1.v + 1) (a0.f1.l.take (a0.f1.l.length - (1 : Int).toNat))) a0.f2)).f0).s), .sl .ro 5 (encs ((((Mach.mk a0.f0 (Ar.mk (a0.f1.v + 1) (a0.f1.l.take (a0.f1.l.length - (1 : Int).toNat))) a0.f2)).f0).t)), .mv 2 ((((Mach.mk a0.f0 (Ar.mk (a0.f1.v + 1) (a0.f1.l.take (a0.f1.l.length - (1 : Int).toNat))) a0.f2)).f1).v) .hdr, .sl (.own 3) 5 (encs (((Mach.mk a0.f0 (Ar.mk (a0.f1.v + 1) (a0.f1.l.take (a0.f1.l.length - (1 : Int).toNat))) a0.f2)).f2))]), (2, .arr 24 5 ((((Mach.mk a0.f0 (Ar.mk (a0.f1.v + 1) (a0.f1.l.take (a0.f1.l.length - (1 : Int).toNat))) a0.f2)).f1).v) (encs ((((Mach.mk a0.f0 (Ar.mk (a0.f1.v + 1) (a0.f1.l.take (a0.f1.l.length - (1 : Int).toNat))) a0.f2)).f1).l))), (3, .row 24 5 (encs (((Mach.mk a0.f0 (Ar.mk (a0.f1.v + 1) (a0.f1.l.take (a0.f1.l.length - (1 : Int).toNat))) a0.f2)).f2)).length)]) (up := [(1, .box 144 [.int .i64 a0.f0.kind, .int .i64 a0.f0.i, .bool a0.f0.b, .str a0.f0.s, .sl .ro 5 (encs a0.f0.t), .mv 2 ((a0.f1.v + 1) + 1) .hdr, .sl (.own 3) 5 (encs a0.f2)]), (2, .arr 24 5 ((a0.f1.v + 1) + 1) (encs ((a0.f1.l.take (a0.f1.l.length - (1 : Int).toNat)) ++ [q25.1]))), (3, .row 24 5 (encs a0.f2).length)]) (res := .tup []) rfl rfl rfl rfl rfl rfl rfl (o_f111_1_2_3 (Mach.mk a0.f0 (Ar.mk (a0.f1.v + 1) (a0.f1.l.take (a0.f1.l.length - (1 : Int).toNat))) a0.f2) q25.1 h27) ⟨(Wv.refl _), (Wv.refl _), trivial⟩ (List.forall_mem_cons.2 ⟨rfl, (List.forall_mem_cons.2 ⟨rfl, (List.forall_mem_cons.2 ⟨rfl, (fun _ h => by cases h)⟩)⟩)⟩) (List.forall_mem_cons.2 ⟨⟨_, .head _⟩, (List.forall_mem_cons.2 ⟨⟨_, .tail _ (.head _)⟩, (List.forall_mem_cons.2 ⟨⟨_, .tail _ (.tail _ (.head _))⟩, (fun _ h => by cases h)⟩)⟩)⟩) rfl rfl (ColN.mk rfl rfl (List.forall_mem_cons.2 ⟨.head _, (List.forall_mem_cons.2 ⟨.tail _ (.head _), (List.forall_mem_cons.2 ⟨.tail _ (.tail _ (.head _)), (fun _ h => by cases h)⟩)⟩)⟩) (List.forall_mem_cons.2 ⟨.head _, (List.forall_mem_cons.2 ⟨.tail _ (.head _), (List.forall_mem_cons.2 ⟨.tail _ (.tail _ (.head _)), (fun _ h => by cases h)⟩)⟩)⟩) (fun _ h => by cases h)) ?_
              refine AW.seq ?_
              refine AW.region (M := fun _ => true) ?_
              refine AL.v good (d := 4) (v := .int .i64 0) rfl rfl rfl rfl ?_
              refine AW.ret ?_
              obtain rfl := Option.some.inj hr
              exact RetH.w good (.inr rfl) rfl rfl (Wv.refl _) (List.forall_mem_cons.2 ⟨rfl, (List.forall_mem_cons.2 ⟨rfl, (List.forall_mem_cons.2 ⟨rfl, (fun _ h => by cases h)⟩)⟩)⟩)
            · replace hr := cnd_f h21 hr
              refine AW.seq ?_
              refine AW.region (M := fun _ => true) ?_
              refine AL.sb good (d := 104) (b := (a1.f0.data.toList == [110, 111, 116])) rfl rfl rfl rfl rfl rfl rfl ?_
              refine AL.v good (d := 102) (v := .bool (a1.f0.data.toList == [110, 111, 116])) rfl rfl rfl rfl ?_
              refine AW.if rfl (fun h28 => ?_) (fun h28 => ?_)
              · replace hr := cnd_t h28 hr
                refine AW.skip ?_
                refine AW.if rfl (fun h => ?_) (fun h => by cases h28.symm.trans h)
                refine AW.seq ?_
                refine AW.drawc (M := fun i => ⟨Nat.beq i 5 || Nat.beq i 13, bif Nat.beq i 1 then some { ids := [4] } else bif Nat.beq i 5 then some { ids := [1, 2, 3] } else bif Nat.beq i 7 then some { ids := [] } else bif Nat.beq i 12 then some { ids := [5] } else bif Nat.beq i 13 then some { ids := [5] } else none⟩) good.wide (by kernel_rfl) ?_
                refine AL.v (nc := ⟨rfl⟩) good (d := 107) (v := .ptr 4 0) rfl rfl rfl rfl ?_
                refine AL.vc good (d := 108) (v := .str a1.f0) rfl rfl rfl rfl rfl rfl (List.forall_mem_cons.2 ⟨.head _, (fun _ h => by cases h)⟩) ?_
                refine AL.v (nc := ⟨rfl⟩) good (d := 109) (v := .ptr 1 0) rfl rfl rfl rfl ?_
                refine AL.v (nc := ⟨rfl⟩) good (d := 110) (v := .ptr 1 0) rfl rfl rfl rfl ?_
                refine AL.v (nc := ⟨rfl⟩) good (d := 111) (v := .ptr 1 5) rfl rfl rfl rfl ?_
                obtain ⟨h29, hr⟩ := grd hr
                refine AL.clWc good (d := 112) (xs := [.ptr 1 5, .int .i64 1]) (rd := [(1, .box 144 [.int .i64 a0.f0.kind, .int .i64 a0.f0.i, .bool a0.f0.b, .str a0.f0.s, .sl .ro 5 (encs a0.f0.t), .mv 2 a0.f1.v .hdr, .sl (.own 3) 5 (encs a0.f2)]), (2, .arr 24 5 a0.f1.v (encs a0.f1.l)), (3, .row 24 5 (encs a0.f2).length)]) (up := [(1, .box 144 [.int .i64 a0.f0.kind, .int .i64 a0.f0.i, .bool a0.f0.b, .str a0.f0.s, .sl .ro 5 (encs a0.f0.t), .mv 2 (a0.f1.v + 1) .hdr, .sl (.own 3) 5 (encs a0.f2)]), (2, .arr 24 5 (a0.f1.v + 1) (encs (a0.f1.l.take (a0.f1.l.length - (1 : Int).toNat)))), (3, .row 24 5 (encs a0.f2).length)]) (res := .sl .ro 5 (encs (a0.f1.l.drop (a0.f1.l.length - (1 : Int).toNat)))) rfl rfl rfl rfl rfl rfl rfl (o_f72_1_2_3 a0 1 h29) ⟨(Wv.refl _), (Wv.refl _), trivial⟩ (List.forall_mem_cons.2 ⟨rfl, (List.forall_mem_cons.2 ⟨rfl, (List.forall_mem_cons.2 ⟨rfl, (fun _ h => by cases h)⟩)⟩)⟩) (List.forall_mem_cons.2 ⟨⟨_, .head _⟩, (List.forall_mem_cons.2 ⟨⟨_, .tail _ (.head _)⟩, (List.forall_mem_cons.2 ⟨⟨_, .tail _ (.tail _ (.head _))⟩, (fun _ h => by cases h)⟩)⟩)⟩) rfl rfl (ColN.mk rfl rfl (List.forall_mem_cons.2 ⟨.head _, (List.forall_mem_cons.2 ⟨.tail _ (.head _), (List.forall_mem_cons.2 ⟨.tail _ (.tail _ (.head _)), (fun _ h => by cases h)⟩)⟩)⟩) (List.forall_mem_cons.2 ⟨.head _, (List.forall_mem_cons.2 ⟨.tail _ (.head _), (List.forall_mem_cons.2 ⟨.tail _ (.tail _ (.head _)), (fun _ h => by cases h)⟩)⟩)⟩) (fun _ h => by cases h)) ?_
                obtain ⟨x30, h31, hr⟩ := bnd1 hr
                refine AL.ix (nc := ⟨rfl⟩) good (d := 113) (r := [.int .i64 x30.kind, .int .i64 x30.i, .bool x30.b, .str x30.s, .sl .ro 5 (encs x30.t)]) rfl rfl rfl rfl rfl rfl rfl (by decide) (encs_get h31) ?_
                refine AL.vc good (d := 114) (v := .agg [.int .i64 x30.kind, .int .i64 x30.i, .bool x30.b, .str x30.s, .sl .ro 5 (encs x30.t)]) rfl rfl rfl rfl rfl rfl (fun _ h => by cases h) ?_
                obtain ⟨q32, h33, hr⟩ := bnd1 hr
                refine AL.cw (nc := ⟨rfl⟩) good (d := 115) (xs := [.str a1.f0, .agg (valC x30)]) (res := .tup [.agg [.int .i64 q32.1.kind, .int .i64 q32.1.i, .bool q32.1.b, .str q32.1.s, .sl .ro 5 (encs q32.1.t)], .bool q32.2]) rfl rfl rfl rfl rfl rfl rfl (w61o h33) ⟨(Wv.refl _), (Wv.refl _), trivial⟩ (by simp [pureA, pureL, pureR, inA, inL, inR, inO, idsIn, encs_pure, enxs_pure, enys_pure, valC_pure, exC_pure, tyC_pure, r_int_u8_pure]) ?_
                refine AL.v (nc := ⟨rfl⟩) good (d := 106) (v := .tup [.agg [.int .i64 q32.1.kind, .int .i64 q32.1.i, .bool q32.1.b, .str q32.1.s, .sl .ro 5 (encs q32.1.t)], .bool q32.2]) rfl rfl rfl rfl ?_
                refine AL.v (nc := ⟨rfl⟩) good (d := 116) (v := .agg [.int .i64 q32.1.kind, .int .i64 q32.1.i, .bool q32.1.b, .str q32.1.s, .sl .ro 5 (encs q32.1.t)]) rfl rfl rfl rfl ?_
                refine AL.v (nc := ⟨rfl⟩) good (d := 117) (v := .bool q32.2) rfl rfl rfl rfl ?_
                refine AL.alcC good (d := 5) rfl rfl rfl rfl rfl 5 rfl (ColN.mk rfl rfl (fun _ h => by cases h) (List.forall_mem_cons.2 ⟨.head _, (fun _ h => by cases h)⟩) (fun _ h => by cases h)) ?_
                refine AL.st2c good (c2 := [.int .i64 q32.1.kind, .int .i64 q32.1.i, .bool q32.1.b, .str q32.1.s, .sl .ro 5 (encs q32.1.t)]) rfl rfl rfl rfl rfl rfl rfl rfl rfl rfl rfl rfl rfl ?_
                refine AL.v (nc := ⟨rfl⟩) good (d := 6) (v := .bool q32.2) rfl rfl rfl rfl ?_
                refine AW.drawc (M := fun i => ⟨Nat.beq i 4, bif Nat.beq i 3 then some { ids := [5] } else bif Nat.beq i 4 then some { ids := [1, 2, 3] } else none⟩) good.wide (by kernel_rfl) ?_
                refine AL.v (nc := ⟨rfl⟩) good (d := 118) (v := .ptr 1 0) rfl rfl rfl rfl ?_
                refine AL.v (nc := ⟨rfl⟩) good (d := 119) (v := .ptr 1 0) rfl rfl rfl rfl ?_
                refine AL.v (nc := ⟨rfl⟩) good (d := 120) (v := .ptr 1 5) rfl rfl rfl rfl ?_
                refine AL.vc good (d := 121) (v := .agg [.int .i64 q32.1.kind, .int .i64 q32.1.i, .bool q32.1.b, .str q32.1.s, .sl .ro 5 (encs q32.1.t)]) rfl rfl rfl rfl rfl rfl (List.forall_mem_cons.2 ⟨.head _, (fun _ h => by cases h)⟩) ?_
                obtain ⟨h34, hr⟩ := grd hr
                refine AL.clWc good (d := 122) (xs := [.ptr 1 5, .agg (valC q32.1)]) (rd := [(1, .box 144 [.int .i64 ((((Mach.mk a0.f0 (Ar.mk (a0.f1.v + 1) (a0.f1.l.take (a0.f1.l.length - (1 : Int).toNat))) a0.f2)).f0).kind), .int .i64 ((((Mach.mk a0.f0 (Ar.mk (a0.f1.v + 1) (a0.f1.l.take (a0.f1.l.length - (1 : Int).toNat))) a0.f2)).f0).i), .bool ((((Mach.mk a0.f0 (Ar.mk (a0.f1.v + 1) (a0.f1.l.take (a0.f1.l.length - (1 : Int).toNat))) a0.f2)).f0).b), .str ((((Mach.mk a0.f0 (Ar.mk (a0.f1.v + 1) (a0.f1.l.take (a0.f1.l.length - (1 : Int).toNat))) a0.f2)).f0).s), .sl .ro 5 (encs ((((Mach.mk a0.f0 (Ar.mk (a0.f1.v + 1) (a0.f1.l.take (a0.f1.l.length - (1 : Int).toNat))) a0.f2)).f0).t)), .mv 2 ((((Mach.mk a0.f0 (Ar.mk (a0.f1.v + 1) (a0.f1.l.take (a0.f1.l.length - (1 : Int).toNat))) a0.f2)).f1).v) .hdr, .sl (.own 3) 5 (encs (((Mach.mk a0.f0 (Ar.mk (a0.f1.v + 1) (a0.f1.l.take (a0.f1.l.length - (1 : Int).toNat))) a0.f2)).f2))]), (2, .arr 24 5 ((((Mach.mk a0.f0 (Ar.mk (a0.f1.v + 1) (a0.f1.l.take (a0.f1.l.length - (1 : Int).toNat))) a0.f2)).f1).v) (encs ((((Mach.mk a0.f0 (Ar.mk (a0.f1.v + 1) (a0.f1.l.take (a0.f1.l.length - (1 : Int).toNat))) a0.f2)).f1).l))), (3, .row 24 5 (encs (((Mach.mk a0.f0 (Ar.mk (a0.f1.v + 1) (a0.f1.l.take (a0.f1.l.length - (1 : Int).toNat))) a0.f2)).f2)).length)]) (up := [(1, .box 144 [.int .i64 a0.f0.kind, .int .i64 a0.f0.i, .bool a0.f0.b, .str a0.f0.s, .sl .ro 5 (encs a0.f0.t), .mv 2 ((a0.f1.v + 1) + 1) .hdr, .sl (.own 3) 5 (encs a0.f2)]), (2, .arr 24 5 ((a0.f1.v + 1) + 1) (encs ((a0.f1.l.take (a0.f1.l.length - (1 : Int).toNat)) ++ [q32.1]))), (3, .row 24 5 (encs a0.f2).length)]) (res := .tup []) rfl rfl rfl rfl rfl rfl rfl (o_f111_1_2_3 (Mach.mk a0.f0 (Ar.mk (a0.f1.v + 1) (a0.f1.l.take (a0.f1.l.length - (1 : Int).toNat))) a0.f2) q32.1 h34) ⟨(Wv.refl _), (Wv.refl _), trivial⟩ (List.forall_mem_cons.2 ⟨rfl, (List.forall_mem_cons.2 ⟨rfl, (List.forall_mem_cons.2 ⟨rfl, (fun _ h => by cases h)⟩)⟩)⟩) (List.forall_mem_cons.2 ⟨⟨_, .head _⟩, (List.forall_mem_cons.2 ⟨⟨_, .tail _ (.head _)⟩, (List.forall_mem_cons.2 ⟨⟨_, .tail _ (.tail _ (.head _))⟩, (fun _ h => by cases h)⟩)⟩)⟩) rfl rfl (ColN.mk rfl rfl (List.forall_mem_cons.2 ⟨.head _, (List.forall_mem_cons.2 ⟨.tail _ (.head _), (List.forall_mem_cons.2 ⟨.tail _ (.tail _ (.head _)), (fun _ h => by cases h)⟩)⟩)⟩) (List.forall_mem_cons.2 ⟨.head _, (List.forall_mem_cons.2 ⟨.tail _ (.head _), (List.forall_mem_cons.2 ⟨.tail _ (.tail _ (.head _)), (fun _ h => by cases h)⟩)⟩)⟩) (fun _ h => by cases h)) ?_
                refine AW.seq ?_
                refine AW.region (M := fun _ => true) ?_
                refine AL.v good (d := 4) (v := .int .i64 0) rfl rfl rfl rfl ?_
                refine AW.ret ?_
                obtain rfl := Option.some.inj hr
                exact RetH.w good (.inr rfl) rfl rfl (Wv.refl _) (List.forall_mem_cons.2 ⟨rfl, (List.forall_mem_cons.2 ⟨rfl, (List.forall_mem_cons.2 ⟨rfl, (fun _ h => by cases h)⟩)⟩)⟩)
              · replace hr := cnd_f h28 hr
                refine AW.region (M := fun _ => true) ?_
                refine AL.sb good (d := 105) (b := (a1.f0.data.toList == [108, 101, 110])) rfl rfl rfl rfl rfl rfl rfl ?_
                refine AL.v good (d := 102) (v := .bool (a1.f0.data.toList == [108, 101, 110])) rfl rfl rfl rfl ?_
                refine AW.if rfl (fun h35 => ?_) (fun h35 => ?_)
                · replace hr := cnd_t h35 hr
                  refine AW.seq ?_
                  refine AW.drawc (M := fun i => ⟨Nat.beq i 5 || Nat.beq i 13, bif Nat.beq i 1 then some { ids := [4] } else bif Nat.beq i 5 then some { ids := [1, 2, 3] } else bif Nat.beq i 7 then some { ids := [] } else bif Nat.beq i 12 then some { ids := [5] } else bif Nat.beq i 13 then some { ids := [5] } else none⟩) good.wide (by kernel_rfl) ?_
                  refine AL.v (nc := ⟨rfl⟩) good (d := 107) (v := .ptr 4 0) rfl rfl rfl rfl ?_
                  refine AL.vc good (d := 108) (v := .str a1.f0) rfl rfl rfl rfl rfl rfl (List.forall_mem_cons.2 ⟨.head _, (fun _ h => by cases h)⟩) ?_
                  refine AL.v (nc := ⟨rfl⟩) good (d := 109) (v := .ptr 1 0) rfl rfl rfl rfl ?_
                  refine AL.v (nc := ⟨rfl⟩) good (d := 110) (v := .ptr 1 0) rfl rfl rfl rfl ?_
                  refine AL.v (nc := ⟨rfl⟩) good (d := 111) (v := .ptr 1 5) rfl rfl rfl rfl ?_
                  obtain ⟨h36, hr⟩ := grd hr
                  refine AL.clWc good (d := 112) (xs := [.ptr 1 5, .int .i64 1]) (rd := [(1, .box 144 [.int .i64 a0.f0.kind, .int .i64 a0.f0.i, .bool a0.f0.b, .str a0.f0.s, .sl .ro 5 (encs a0.f0.t), .mv 2 a0.f1.v .hdr, .sl (.own 3) 5 (encs a0.f2)]), (2, .arr 24 5 a0.f1.v (encs a0.f1.l)), (3, .row 24 5 (encs a0.f2).length)]) (up := [(1, .box 144 [.int .i64 a0.f0.kind, .int .i64 a0.f0.i, .bool a0.f0.b, .str a0.f0.s, .sl .ro 5 (encs a0.f0.t), .mv 2 (a0.f1.v + 1) .hdr, .sl (.own 3) 5 (encs a0.f2)]), (2, .arr 24 5 (a0.f1.v + 1) (encs (a0.f1.l.take (a0.f1.l.length - (1 : Int).toNat)))), (3, .row 24 5 (encs a0.f2).length)]) (res := .sl .ro 5 (encs (a0.f1.l.drop (a0.f1.l.length - (1 : Int).toNat)))) rfl rfl rfl rfl rfl rfl rfl (o_f72_1_2_3 a0 1 h36) ⟨(Wv.refl _), (Wv.refl _), trivial⟩ (List.forall_mem_cons.2 ⟨rfl, (List.forall_mem_cons.2 ⟨rfl, (List.forall_mem_cons.2 ⟨rfl, (fun _ h => by cases h)⟩)⟩)⟩) (List.forall_mem_cons.2 ⟨⟨_, .head _⟩, (List.forall_mem_cons.2 ⟨⟨_, .tail _ (.head _)⟩, (List.forall_mem_cons.2 ⟨⟨_, .tail _ (.tail _ (.head _))⟩, (fun _ h => by cases h)⟩)⟩)⟩) rfl rfl (ColN.mk rfl rfl (List.forall_mem_cons.2 ⟨.head _, (List.forall_mem_cons.2 ⟨.tail _ (.head _), (List.forall_mem_cons.2 ⟨.tail _ (.tail _ (.head _)), (fun _ h => by cases h)⟩)⟩)⟩) (List.forall_mem_cons.2 ⟨.head _, (List.forall_mem_cons.2 ⟨.tail _ (.head _), (List.forall_mem_cons.2 ⟨.tail _ (.tail _ (.head _)), (fun _ h => by cases h)⟩)⟩)⟩) (fun _ h => by cases h)) ?_
                  obtain ⟨x37, h38, hr⟩ := bnd1 hr
                  refine AL.ix (nc := ⟨rfl⟩) good (d := 113) (r := [.int .i64 x37.kind, .int .i64 x37.i, .bool x37.b, .str x37.s, .sl .ro 5 (encs x37.t)]) rfl rfl rfl rfl rfl rfl rfl (by decide) (encs_get h38) ?_
                  refine AL.vc good (d := 114) (v := .agg [.int .i64 x37.kind, .int .i64 x37.i, .bool x37.b, .str x37.s, .sl .ro 5 (encs x37.t)]) rfl rfl rfl rfl rfl rfl (fun _ h => by cases h) ?_
                  obtain ⟨q39, h40, hr⟩ := bnd1 hr
                  refine AL.cw (nc := ⟨rfl⟩) good (d := 115) (xs := [.str a1.f0, .agg (valC x37)]) (res := .tup [.agg [.int .i64 q39.1.kind, .int .i64 q39.1.i, .bool q39.1.b, .str q39.1.s, .sl .ro 5 (encs q39.1.t)], .bool q39.2]) rfl rfl rfl rfl rfl rfl rfl (w61o h40) ⟨(Wv.refl _), (Wv.refl _), trivial⟩ (by simp [pureA, pureL, pureR, inA, inL, inR, inO, idsIn, encs_pure, enxs_pure, enys_pure, valC_pure, exC_pure, tyC_pure, r_int_u8_pure]) ?_
                  refine AL.v (nc := ⟨rfl⟩) good (d := 106) (v := .tup [.agg [.int .i64 q39.1.kind, .int .i64 q39.1.i, .bool q39.1.b, .str q39.1.s, .sl .ro 5 (encs q39.1.t)], .bool q39.2]) rfl rfl rfl rfl ?_
                  refine AL.v (nc := ⟨rfl⟩) good (d := 116) (v := .agg [.int .i64 q39.1.kind, .int .i64 q39.1.i, .bool q39.1.b, .str q39.1.s, .sl .ro 5 (encs q39.1.t)]) rfl rfl rfl rfl ?_
                  refine AL.v (nc := ⟨rfl⟩) good (d := 117) (v := .bool q39.2) rfl rfl rfl rfl ?_
                  refine AL.alcC good (d := 5) rfl rfl rfl rfl rfl 5 rfl (ColN.mk rfl rfl (fun _ h => by cases h) (List.forall_mem_cons.2 ⟨.head _, (fun _ h => by cases h)⟩) (fun _ h => by cases h)) ?_
                  refine AL.st2c good (c2 := [.int .i64 q39.1.kind, .int .i64 q39.1.i, .bool q39.1.b, .str q39.1.s, .sl .ro 5 (encs q39.1.t)]) rfl rfl rfl rfl rfl rfl rfl rfl rfl rfl rfl rfl rfl ?_
                  refine AL.v (nc := ⟨rfl⟩) good (d := 6) (v := .bool q39.2) rfl rfl rfl rfl ?_
                  refine AW.drawc (M := fun i => ⟨Nat.beq i 4, bif Nat.beq i 3 then some { ids := [5] } else bif Nat.beq i 4 then some { ids := [1, 2, 3] } else none⟩) good.wide (by kernel_rfl) ?_
                  refine AL.v (nc := ⟨rfl⟩) good (d := 118) (v := .ptr 1 0) rfl rfl rfl rfl ?_
                  refine AL.v (nc := ⟨rfl⟩) good (d := 119) (v := .ptr 1 0) rfl rfl rfl rfl ?_
                  refine AL.v (nc := ⟨rfl⟩) good (d := 120) (v := .ptr 1 5) rfl rfl rfl rfl ?_
                  refine AL.vc good (d := 121) (v := .agg [.int .i64 q39.1.kind, .int .i64 q39.1.i, .bool q39.1.b, .str q39.1.s, .sl .ro 5 (encs q39.1.t)]) rfl rfl rfl rfl rfl rfl (List.forall_mem_cons.2 ⟨.head _, (fun _ h => by cases h)⟩) ?_
                  obtain ⟨h41, hr⟩ := grd hr
                  refine AL.clWc good (d := 122) (xs := [.ptr 1 5, .agg (valC q39.1)]) (rd := [(1, .box 144 [.int .i64 ((((Mach.mk a0.f0 (Ar.mk (a0.f1.v + 1) (a0.f1.l.take (a0.f1.l.length - (1 : Int).toNat))) a0.f2)).f0).kind), .int .i64 ((((Mach.mk a0.f0 (Ar.mk (a0.f1.v + 1) (a0.f1.l.take (a0.f1.l.length - (1 : Int).toNat))) a0.f2)).f0).i), .bool ((((Mach.mk a0.f0 (Ar.mk (a0.f1.v + 1) (a0.f1.l.take (a0.f1.l.length - (1 : Int).toNat))) a0.f2)).f0).b), .str ((((Mach.mk a0.f0 (Ar.mk (a0.f1.v + 1) (a0.f1.l.take (a0.f1.l.length - (1 : Int).toNat))) a0.f2)).f0).s), .sl .ro 5 (encs ((((Mach.mk a0.f0 (Ar.mk (a0.f1.v + 1) (a0.f1.l.take (a0.f1.l.length - (1 : Int).toNat))) a0.f2)).f0).t)), .mv 2 ((((Mach.mk a0.f0 (Ar.mk (a0.f1.v + 1) (a0.f1.l.take (a0.f1.l.length - (1 : Int).toNat))) a0.f2)).f1).v) .hdr, .sl (.own 3) 5 (encs (((Mach.mk a0.f0 (Ar.mk (a0.f1.v + 1) (a0.f1.l.take (a0.f1.l.length - (1 : Int).toNat))) a0.f2)).f2))]), (2, .arr 24 5 ((((Mach.mk a0.f0 (Ar.mk (a0.f1.v + 1) (a0.f1.l.take (a0.f1.l.length - (1 : Int).toNat))) a0.f2)).f1).v) (encs ((((Mach.mk a0.f0 (Ar.mk (a0.f1.v + 1) (a0.f1.l.take (a0.f1.l.length - (1 : Int).toNat))) a0.f2)).f1).l))), (3, .row 24 5 (encs (((Mach.mk a0.f0 (Ar.mk (a0.f1.v + 1) (a0.f1.l.take (a0.f1.l.length - (1 : Int).toNat))) a0.f2)).f2)).length)]) (up := [(1, .box 144 [.int .i64 a0.f0.kind, .int .i64 a0.f0.i, .bool a0.f0.b, .str a0.f0.s, .sl .ro 5 (encs a0.f0.t), .mv 2 ((a0.f1.v + 1) + 1) .hdr, .sl (.own 3) 5 (encs a0.f2)]), (2, .arr 24 5 ((a0.f1.v + 1) + 1) (encs ((a0.f1.l.take (a0.f1.l.length - (1 : Int).toNat)) ++ [q39.1]))), (3, .row 24 5 (encs a0.f2).length)]) (res := .tup []) rfl rfl rfl rfl rfl rfl rfl (o_f111_1_2_3 (Mach.mk a0.f0 (Ar.mk (a0.f1.v + 1) (a0.f1.l.take (a0.f1.l.length - (1 : Int).toNat))) a0.f2) q39.1 h41) ⟨(Wv.refl _), (Wv.refl _), trivial⟩ (List.forall_mem_cons.2 ⟨rfl, (List.forall_mem_cons.2 ⟨rfl, (List.forall_mem_cons.2 ⟨rfl, (fun _ h => by cases h)⟩)⟩)⟩) (List.forall_mem_cons.2 ⟨⟨_, .head _⟩, (List.forall_mem_cons.2 ⟨⟨_, .tail _ (.head _)⟩, (List.forall_mem_cons.2 ⟨⟨_, .tail _ (.tail _ (.head _))⟩, (fun _ h => by cases h)⟩)⟩)⟩) rfl rfl (ColN.mk rfl rfl (List.forall_mem_cons.2 ⟨.head _, (List.forall_mem_cons.2 ⟨.tail _ (.head _), (List.forall_mem_cons.2 ⟨.tail _ (.tail _ (.head _)), (fun _ h => by cases h)⟩)⟩)⟩) (List.forall_mem_cons.2 ⟨.head _, (List.forall_mem_cons.2 ⟨.tail _ (.head _), (List.forall_mem_cons.2 ⟨.tail _ (.tail _ (.head _)), (fun _ h => by cases h)⟩)⟩)⟩) (fun _ h => by cases h)) ?_
                  refine AW.seq ?_
                  refine AW.region (M := fun _ => true) ?_
                  refine AL.v good (d := 4) (v := .int .i64 0) rfl rfl rfl rfl ?_
                  refine AW.ret ?_
                  obtain rfl := Option.some.inj hr
                  exact RetH.w good (.inr rfl) rfl rfl (Wv.refl _) (List.forall_mem_cons.2 ⟨rfl, (List.forall_mem_cons.2 ⟨rfl, (List.forall_mem_cons.2 ⟨rfl, (fun _ h => by cases h)⟩)⟩)⟩)
                · replace hr := cnd_f h35 hr
                  refine AW.seq ?_
                  refine AW.region (M := fun _ => true) ?_
                  refine AL.v good (d := 13) (v := .ptr 1 0) rfl rfl rfl rfl ?_
                  refine AL.v good (d := 14) (v := .ptr 1 0) rfl rfl rfl rfl ?_
                  refine AL.v good (d := 15) (v := .ptr 1 5) rfl rfl rfl rfl ?_
                  obtain ⟨h42, hr⟩ := grd hr
                  refine AL.clW good (d := 16) (xs := [.ptr 1 5, .int .i64 2]) (rd := [(1, .box 144 [.int .i64 a0.f0.kind, .int .i64 a0.f0.i, .bool a0.f0.b, .str a0.f0.s, .sl .ro 5 (encs a0.f0.t), .mv 2 a0.f1.v .hdr, .sl (.own 3) 5 (encs a0.f2)]), (2, .arr 24 5 a0.f1.v (encs a0.f1.l)), (3, .row 24 5 (encs a0.f2).length)]) (up := [(1, .box 144 [.int .i64 a0.f0.kind, .int .i64 a0.f0.i, .bool a0.f0.b, .str a0.f0.s, .sl .ro 5 (encs a0.f0.t), .mv 2 (a0.f1.v + 1) .hdr, .sl (.own 3) 5 (encs a0.f2)]), (2, .arr 24 5 (a0.f1.v + 1) (encs (a0.f1.l.take (a0.f1.l.length - (2 : Int).toNat)))), (3, .row 24 5 (encs a0.f2).length)]) (res := .sl .ro 5 (encs (a0.f1.l.drop (a0.f1.l.length - (2 : Int).toNat)))) rfl rfl rfl rfl rfl rfl rfl (o_f72_1_2_3 a0 2 h42) ⟨(Wv.refl _), (Wv.refl _), trivial⟩ (List.forall_mem_cons.2 ⟨rfl, (List.forall_mem_cons.2 ⟨rfl, (List.forall_mem_cons.2 ⟨rfl, (fun _ h => by cases h)⟩)⟩)⟩) (List.forall_mem_cons.2 ⟨⟨_, .head _⟩, (List.forall_mem_cons.2 ⟨⟨_, .tail _ (.head _)⟩, (List.forall_mem_cons.2 ⟨⟨_, .tail _ (.tail _ (.head _))⟩, (fun _ h => by cases h)⟩)⟩)⟩) rfl rfl ?_
                  refine AL.v good (d := 7) (v := .sl .ro 5 (encs (a0.f1.l.drop (a0.f1.l.length - (2 : Int).toNat)))) rfl rfl rfl rfl ?_
                  refine AW.seq ?_
                  refine AW.drawc (M := fun i => ⟨Nat.beq i 14, bif Nat.beq i 1 then some { ids := [4] } else bif Nat.beq i 4 then some { ids := [] } else bif Nat.beq i 7 then some { ids := [] } else bif Nat.beq i 13 then some { ids := [5] } else bif Nat.beq i 14 then some { ids := [5] } else none⟩) good.wide (by kernel_rfl) ?_
                  refine AL.v (nc := ⟨rfl⟩) good (d := 18) (v := .ptr 4 0) rfl rfl rfl rfl ?_
                  refine AL.vc good (d := 19) (v := .str a1.f0) rfl rfl rfl rfl rfl rfl (List.forall_mem_cons.2 ⟨.head _, (fun _ h => by cases h)⟩) ?_
                  refine AL.v (nc := ⟨rfl⟩) good (d := 20) (v := .sl .ro 5 (encs (a0.f1.l.drop (a0.f1.l.length - (2 : Int).toNat)))) rfl rfl rfl rfl ?_
                  obtain ⟨x43, h44, hr⟩ := bnd1 hr
                  refine AL.ix (nc := ⟨rfl⟩) good (d := 21) (r := [.int .i64 x43.kind, .int .i64 x43.i, .bool x43.b, .str x43.s, .sl .ro 5 (encs x43.t)]) rfl rfl rfl rfl rfl rfl rfl (by decide) (encs_get h44) ?_
                  refine AL.vc good (d := 22) (v := .agg [.int .i64 x43.kind, .int .i64 x43.i, .bool x43.b, .str x43.s, .sl .ro 5 (encs x43.t)]) rfl rfl rfl rfl rfl rfl (fun _ h => by cases h) ?_
                  refine AL.v (nc := ⟨rfl⟩) good (d := 23) (v := .sl .ro 5 (encs (a0.f1.l.drop (a0.f1.l.length - (2 : Int).toNat)))) rfl rfl rfl rfl ?_
                  obtain ⟨x45, h46, hr⟩ := bnd1 hr
                  refine AL.ix (nc := ⟨rfl⟩) good (d := 24) (r := [.int .i64 x45.kind, .int .i64 x45.i, .bool x45.b, .str x45.s, .sl .ro 5 (encs x45.t)]) rfl rfl rfl rfl rfl rfl rfl (by decide) (encs_get h46) ?_
                  refine AL.vc good (d := 25) (v := .agg [.int .i64 x45.kind, .int .i64 x45.i, .bool x45.b, .str x45.s, .sl .ro 5 (encs x45.t)]) rfl rfl rfl rfl rfl rfl (fun _ h => by cases h) ?_
                  obtain ⟨q47, h48, hr⟩ := bnd1 hr
                  refine AL.cw (nc := ⟨rfl⟩) good (d := 26) (xs := [.str a1.f0, .agg (valC x43), .agg (valC x45)]) (res := .tup [.agg [.int .i64 q47.1.kind, .int .i64 q47.1.i, .bool q47.1.b, .str q47.1.s, .sl .ro 5 (encs q47.1.t)], .int .i64 q47.2.1, .bool q47.2.2]) rfl rfl rfl rfl rfl rfl rfl (w62o h48) ⟨(Wv.refl _), (Wv.refl _), (Wv.refl _), trivial⟩ (by simp [pureA, pureL, pureR, inA, inL, inR, inO, idsIn, encs_pure, enxs_pure, enys_pure, valC_pure, exC_pure, tyC_pure, r_int_u8_pure]) ?_
                  refine AL.v (nc := ⟨rfl⟩) good (d := 17) (v := .tup [.agg [.int .i64 q47.1.kind, .int .i64 q47.1.i, .bool q47.1.b, .str q47.1.s, .sl .ro 5 (encs q47.1.t)], .int .i64 q47.2.1, .bool q47.2.2]) rfl rfl rfl rfl ?_
                  refine AL.v (nc := ⟨rfl⟩) good (d := 27) (v := .agg [.int .i64 q47.1.kind, .int .i64 q47.1.i, .bool q47.1.b, .str q47.1.s, .sl .ro 5 (encs q47.1.t)]) rfl rfl rfl rfl ?_
                  refine AL.v (nc := ⟨rfl⟩) good (d := 28) (v := .int .i64 q47.2.1) rfl rfl rfl rfl ?_
                  refine AL.v (nc := ⟨rfl⟩) good (d := 29) (v := .bool q47.2.2) rfl rfl rfl rfl ?_
                  refine AL.alcC good (d := 8) rfl rfl rfl rfl rfl 5 rfl (ColN.mk rfl rfl (fun _ h => by cases h) (List.forall_mem_cons.2 ⟨.head _, (fun _ h => by cases h)⟩) (fun _ h => by cases h)) ?_
                  refine AL.st2c good (c2 := [.int .i64 q47.1.kind, .int .i64 q47.1.i, .bool q47.1.b, .str q47.1.s, .sl .ro 5 (encs q47.1.t)]) rfl rfl rfl rfl rfl rfl rfl rfl rfl rfl rfl rfl rfl ?_
                  refine AL.v (nc := ⟨rfl⟩) good (d := 9) (v := .int .i64 q47.2.1) rfl rfl rfl rfl ?_
                  refine AL.v (nc := ⟨rfl⟩) good (d := 10) (v := .bool q47.2.2) rfl rfl rfl rfl ?_
                  refine AW.seq ?_
                  refine AW.seq ?_
                  refine AW.region (M := fun _ => true) ?_
                  refine AL.v good (d := 30) (v := .int .i64 q47.2.1) rfl rfl rfl rfl ?_
                  refine AL.v good (d := 31) (v := .bool (q47.2.1 != 0)) rfl rfl rfl rfl ?_
                  refine AW.if rfl (fun h49 => ?_) (fun h49 => ?_)
                  · replace hr := cnd_t h49 hr
                    refine AW.seq ?_
                    refine AW.region (M := fun _ => true) ?_
                    refine AL.v good (d := 32) (v := .int .i64 q47.2.1) rfl rfl rfl rfl ?_
                    refine AL.v good (d := 4) (v := .int .i64 q47.2.1) rfl rfl rfl rfl ?_
                    refine AW.ret ?_
                    obtain rfl := Option.some.inj hr
                    exact RetH.w good (.inr rfl) rfl rfl (Wv.refl _) (List.forall_mem_cons.2 ⟨rfl, (List.forall_mem_cons.2 ⟨rfl, (List.forall_mem_cons.2 ⟨rfl, (fun _ h => by cases h)⟩)⟩)⟩)
                  · replace hr := cnd_f h49 hr
                    refine AW.skip ?_
                    refine AW.drawc (M := fun i => ⟨Nat.beq i 4, bif Nat.beq i 3 then some { ids := [5] } else bif Nat.beq i 4 then some { ids := [1, 2, 3] } else none⟩) good.wide (by kernel_rfl) ?_
                    refine AL.v (nc := ⟨rfl⟩) good (d := 33) (v := .ptr 1 0) rfl rfl rfl rfl ?_
                    refine AL.v (nc := ⟨rfl⟩) good (d := 34) (v := .ptr 1 0) rfl rfl rfl rfl ?_
                    refine AL.v (nc := ⟨rfl⟩) good (d := 35) (v := .ptr 1 5) rfl rfl rfl rfl ?_
                    refine AL.vc good (d := 36) (v := .agg [.int .i64 q47.1.kind, .int .i64 q47.1.i, .bool q47.1.b, .str q47.1.s, .sl .ro 5 (encs q47.1.t)]) rfl rfl rfl rfl rfl rfl (List.forall_mem_cons.2 ⟨.head _, (fun _ h => by cases h)⟩) ?_
                    obtain ⟨h50, hr⟩ := grd hr
                    refine AL.clWc good (d := 37) (xs := [.ptr 1 5, .agg (valC q47.1)]) (rd := [(1, .box 144 [.int .i64 ((((Mach.mk a0.f0 (Ar.mk (a0.f1.v + 1) (a0.f1.l.take (a0.f1.l.length - (2 : Int).toNat))) a0.f2)).f0).kind), .int .i64 ((((Mach.mk a0.f0 (Ar.mk (a0.f1.v + 1) (a0.f1.l.take (a0.f1.l.length - (2 : Int).toNat))) a0.f2)).f0).i), .bool ((((Mach.mk a0.f0 (Ar.mk (a0.f1.v + 1) (a0.f1.l.take (a0.f1.l.length - (2 : Int).toNat))) a0.f2)).f0).b), .str ((((Mach.mk a0.f0 (Ar.mk (a0.f1.v + 1) (a0.f1.l.take (a0.f1.l.length - (2 : Int).toNat))) a0.f2)).f0).s), .sl .ro 5 (encs ((((Mach.mk a0.f0 (Ar.mk (a0.f1.v + 1) (a0.f1.l.take (a0.f1.l.length - (2 : Int).toNat))) a0.f2)).f0).t)), .mv 2 ((((Mach.mk a0.f0 (Ar.mk (a0.f1.v + 1) (a0.f1.l.take (a0.f1.l.length - (2 : Int).toNat))) a0.f2)).f1).v) .hdr, .sl (.own 3) 5 (encs (((Mach.mk a0.f0 (Ar.mk (a0.f1.v + 1) (a0.f1.l.take (a0.f1.l.length - (2 : Int).toNat))) a0.f2)).f2))]), (2, .arr 24 5 ((((Mach.mk a0.f0 (Ar.mk (a0.f1.v + 1) (a0.f1.l.take (a0.f1.l.length - (2 : Int).toNat))) a0.f2)).f1).v) (encs ((((Mach.mk a0.f0 (Ar.mk (a0.f1.v + 1) (a0.f1.l.take (a0.f1.l.length - (2 : Int).toNat))) a0.f2)).f1).l))), (3, .row 24 5 (encs (((Mach.mk a0.f0 (Ar.mk (a0.f1.v + 1) (a0.f1.l.take (a0.f1.l.length - (2 : Int).toNat))) a0.f2)).f2)).length)]) (up := [(1, .box 144 [.int .i64 a0.f0.kind, .int .i64 a0.f0.i, .bool a0.f0.b, .str a0.f0.s, .sl .ro 5 (encs a0.f0.t), .mv 2 ((a0.f1.v + 1) + 1) .hdr, .sl (.own 3) 5 (encs a0.f2)]), (2, .arr 24 5 ((a0.f1.v + 1) + 1) (encs ((a0.f1.l.take (a0.f1.l.length - (2 : Int).toNat)) ++ [q47.1]))), (3, .row 24 5 (encs a0.f2).length)]) (res := .tup []) rfl rfl rfl rfl rfl rfl rfl (o_f111_1_2_3 (Mach.mk a0.f0 (Ar.mk (a0.f1.v + 1) (a0.f1.l.take (a0.f1.l.length - (2 : Int).toNat))) a0.f2) q47.1 h50) ⟨(Wv.refl _), (Wv.refl _), trivial⟩ (List.forall_mem_cons.2 ⟨rfl, (List.forall_mem_cons.2 ⟨rfl, (List.forall_mem_cons.2 ⟨rfl, (fun _ h => by cases h)⟩)⟩)⟩) (List.forall_mem_cons.2 ⟨⟨_, .head _⟩, (List.forall_mem_cons.2 ⟨⟨_, .tail _ (.head _)⟩, (List.forall_mem_cons.2 ⟨⟨_, .tail _ (.tail _ (.head _))⟩, (fun _ h => by cases h)⟩)⟩)⟩) rfl rfl (ColN.mk rfl rfl (List.forall_mem_cons.2 ⟨.head _, (List.forall_mem_cons.2 ⟨.tail _ (.head _), (List.forall_mem_cons.2 ⟨.tail _ (.tail _ (.head _)), (fun _ h => by cases h)⟩)⟩)⟩) (List.forall_mem_cons.2 ⟨.head _, (List.forall_mem_cons.2 ⟨.tail _ (.head _), (List.forall_mem_cons.2 ⟨.tail _ (.tail _ (.head _)), (fun _ h => by cases h)⟩)⟩)⟩) (fun _ h => by cases h)) ?_
                    refine AW.seq ?_
                    refine AW.region (M := fun _ => true) ?_
                    refine AL.v good (d := 4) (v := .int .i64 0) rfl rfl rfl rfl ?_
                    refine AW.ret ?_
                    obtain rfl := Option.some.inj hr
                    exact RetH.w good (.inr rfl) rfl rfl (Wv.refl _) (List.forall_mem_cons.2 ⟨rfl, (List.forall_mem_cons.2 ⟨rfl, (List.forall_mem_cons.2 ⟨rfl, (fun _ h => by cases h)⟩)⟩)⟩)

end Go.Proofs.Ytbcjcekoonebiaa.Tl
