/- Definitions and walks: a machine. Definitions and walks: Run. Definitions and walks: programs one behind the other. Definitions and walks: what is known of machines. Definitions and walks: values of the document. Definitions and walks: expressions. Conditions: none. -/
import Derived.Test.YtbcjcekoonebiaaGreatTlZVmApply2
set_option linter.unusedVariables false
set_option linter.unusedSimpArgs false
namespace Go.Proofs.YtbcjcekoonebiaaGreat.Tl
open Go Go.RowKit
structure GInst where
  f0 : ByteArray
  f1 : Val
  f2 : Int

def s_f73 (n : Nat) (a0 : Mach) (a1 : GInst) : Option (Mach × Int) :=
  (bif (a1.f0.data.toList == [112, 117, 115, 104]) then (if a0.f1.l.length + 1 ≤ 1000000 then some ((Mach.mk a0.f0 (Ar.mk (a0.f1.v + 1) (a0.f1.l ++ [a1.f1])) a0.f2), 0) else none) else (bif (a1.f0.data.toList == [120]) then (if a0.f1.l.length + 1 ≤ 1000000 then some ((Mach.mk a0.f0 (Ar.mk (a0.f1.v + 1) (a0.f1.l ++ [a0.f0])) a0.f2), 0) else none) else (bif (a1.f0.data.toList == [97, 116]) then (if 0 ≤ (1 : Int) ∧ (1 : Int).toNat ≤ a0.f1.l.length ∧ a0.f1.l.length ≤ 1000000 then (((a0.f1.l.drop (a0.f1.l.length - (1 : Int).toNat))[0]?).bind fun x7 => (if 0 ≤ a1.f2 then ((x7.t[a1.f2.toNat]?).bind fun x9 => (if (a0.f1.l.take (a0.f1.l.length - (1 : Int).toNat)).length + 1 ≤ 1000000 then some ((Mach.mk a0.f0 (Ar.mk ((a0.f1.v + 1) + 1) ((a0.f1.l.take (a0.f1.l.length - (1 : Int).toNat)) ++ [x9])) a0.f2), 0) else none)) else none)) else none) else (bif (a1.f0.data.toList == [116, 117, 112]) then (if 0 ≤ a1.f2 ∧ a1.f2.toNat ≤ a0.f1.l.length ∧ a0.f1.l.length ≤ 1000000 then ((tupS (a0.f1.l.drop (a0.f1.l.length - a1.f2.toNat))).bind fun q15 => (if (a0.f1.l.take (a0.f1.l.length - a1.f2.toNat)).length + 1 ≤ 1000000 then some ((Mach.mk a0.f0 (Ar.mk ((a0.f1.v + 1) + 1) ((a0.f1.l.take (a0.f1.l.length - a1.f2.toNat)) ++ [q15])) a0.f2), 0) else none)) else none) else (bif (a1.f0.data.toList == [101, 109, 105, 116]) then (if 0 ≤ a1.f2 ∧ a1.f2.toNat ≤ a0.f1.l.length ∧ a0.f1.l.length ≤ 1000000 then (if a0.f2.length + (a0.f1.l.drop (a0.f1.l.length - a1.f2.toNat)).length ≤ 1000000 then some ((Mach.mk a0.f0 (Ar.mk (a0.f1.v + 1) (a0.f1.l.take (a0.f1.l.length - a1.f2.toNat))) (a0.f2 ++ (a0.f1.l.drop (a0.f1.l.length - a1.f2.toNat)))), 0) else none) else none) else (bif (a1.f0.data.toList == [110, 101, 103]) then (if 0 ≤ (1 : Int) ∧ (1 : Int).toNat ≤ a0.f1.l.length ∧ a0.f1.l.length ≤ 1000000 then (((a0.f1.l.drop (a0.f1.l.length - (1 : Int).toNat))[0]?).bind fun x23 => ((one3 a1.f0 x23).bind fun q25 => (if (a0.f1.l.take (a0.f1.l.length - (1 : Int).toNat)).length + 1 ≤ 1000000 then some ((Mach.mk a0.f0 (Ar.mk ((a0.f1.v + 1) + 1) ((a0.f1.l.take (a0.f1.l.length - (1 : Int).toNat)) ++ [q25.1])) a0.f2), 0) else none))) else none) else (bif (a1.f0.data.toList == [110, 111, 116]) then (if 0 ≤ (1 : Int) ∧ (1 : Int).toNat ≤ a0.f1.l.length ∧ a0.f1.l.length ≤ 1000000 then (((a0.f1.l.drop (a0.f1.l.length - (1 : Int).toNat))[0]?).bind fun x30 => ((one3 a1.f0 x30).bind fun q32 => (if (a0.f1.l.take (a0.f1.l.length - (1 : Int).toNat)).length + 1 ≤ 1000000 then some ((Mach.mk a0.f0 (Ar.mk ((a0.f1.v + 1) + 1) ((a0.f1.l.take (a0.f1.l.length - (1 : Int).toNat)) ++ [q32.1])) a0.f2), 0) else none))) else none) else (bif (a1.f0.data.toList == [108, 101, 110]) then (if 0 ≤ (1 : Int) ∧ (1 : Int).toNat ≤ a0.f1.l.length ∧ a0.f1.l.length ≤ 1000000 then (((a0.f1.l.drop (a0.f1.l.length - (1 : Int).toNat))[0]?).bind fun x37 => ((one3 a1.f0 x37).bind fun q39 => (if (a0.f1.l.take (a0.f1.l.length - (1 : Int).toNat)).length + 1 ≤ 1000000 then some ((Mach.mk a0.f0 (Ar.mk ((a0.f1.v + 1) + 1) ((a0.f1.l.take (a0.f1.l.length - (1 : Int).toNat)) ++ [q39.1])) a0.f2), 0) else none))) else none) else (if 0 ≤ (2 : Int) ∧ (2 : Int).toNat ≤ a0.f1.l.length ∧ a0.f1.l.length ≤ 1000000 then (((a0.f1.l.drop (a0.f1.l.length - (2 : Int).toNat))[0]?).bind fun x43 => (((a0.f1.l.drop (a0.f1.l.length - (2 : Int).toNat))[1]?).bind fun x45 => ((both3 a1.f0 x43 x45).bind fun q47 => (bif (q47.2.1 != 0) then some ((Mach.mk a0.f0 (Ar.mk (a0.f1.v + 1) (a0.f1.l.take (a0.f1.l.length - (2 : Int).toNat))) a0.f2), q47.2.1) else (if (a0.f1.l.take (a0.f1.l.length - (2 : Int).toNat)).length + 1 ≤ 1000000 then some ((Mach.mk a0.f0 (Ar.mk ((a0.f1.v + 1) + 1) ((a0.f1.l.take (a0.f1.l.length - (2 : Int).toNat)) ++ [q47.1])) a0.f2), 0) else none))))) else none)))))))))

section
attribute [local simp] pureA pureL pureR inA inL inR inO idsIn encs_pure enxs_pure enys_pure valC_pure exC_pure tyC_pure r_int_u8_pure
theorem w_f73_1_2_3 (n : Nat) (a0 : Mach) (a1 : GInst) (r : Mach × Int) (hr : s_f73 n a0 a1 = some r) : ACallH Tryz.prog 35 [.ptr 1 0, .agg [.str a1.f0, .int .i64 a1.f1.kind, .int .i64 a1.f1.i, .bool a1.f1.b, .str a1.f1.s, .sl .ro 5 (encs a1.f1.t), .int .i64 a1.f2]] [(1, .box 90 [.int .i64 a0.f0.kind, .int .i64 a0.f0.i, .bool a0.f0.b, .str a0.f0.s, .sl .ro 5 (encs a0.f0.t), .mv 2 a0.f1.v .hdr, .sl (.own 3) 5 (encs a0.f2)]), (2, .arr 28 5 a0.f1.v (encs a0.f1.l)), (3, .row 28 5 (encs a0.f2).length)] [(1, .box 90 [.int .i64 r.1.f0.kind, .int .i64 r.1.f0.i, .bool r.1.f0.b, .str r.1.f0.s, .sl .ro 5 (encs r.1.f0.t), .mv 2 r.1.f1.v .hdr, .sl (.own 3) 5 (encs r.1.f2)]), (2, .arr 28 5 r.1.f1.v (encs r.1.f1.l)), (3, .row 28 5 (encs r.1.f2).length)] (.int .i64 r.2) := by
 refine ACallH.go [(0, .ptr 1 0), (1, .agg [.str a1.f0, .int .i64 a1.f1.kind, .int .i64 a1.f1.i, .bool a1.f1.b, .str a1.f1.s, .sl .ro 5 (encs a1.f1.t), .int .i64 a1.f2])] [(3, .row 28 5 (encs a0.f2).length), (2, .arr 28 5 a0.f1.v (encs a0.f1.l)), (1, .box 90 [.int .i64 a0.f0.kind, .int .i64 a0.f0.i, .bool a0.f0.b, .str a0.f0.s, .sl .ro 5 (encs a0.f0.t), .mv 2 a0.f1.v .hdr, .sl (.own 3) 5 (encs a0.f2)])] Tryz.func35 rfl Tryz.ntmps35 rfl rfl rfl (by simp) (fmc ⟨(by simp), (fmc ⟨(by simp), (fmc ⟨(by simp), (fun _ h => by cases h)⟩)⟩)⟩) (fmc ⟨⟨rfl, (by simp)⟩, (fmc ⟨⟨rfl, (by simp)⟩, (fmc ⟨⟨rfl, (by simp)⟩, (fun _ h => by cases h)⟩)⟩)⟩) (by simp) ?_
 rw [s_f73] at hr
 refine AW.seq (Rg ?_)
 refine AL.bx good (d := 3) (l := [.str a1.f0, .int .i64 a1.f1.kind, .int .i64 a1.f1.i, .bool a1.f1.b, .str a1.f1.s, .sl .ro 5 (encs a1.f1.t), .int .i64 a1.f2]) rfl rfl rfl rfl rfl rfl 4 rfl ?_
 refine Av (.int .i64 0) rfl ?_
 refine AW.seq ?_
 refine AW.seq (Rg ?_)
 refine Av (.ptr 4 0) rfl ?_
 refine Av (.str a1.f0) rfl ?_
 refine AW.block ?_
 refine AW.seq (Rg ?_)
 refine AL.sb good (d := 39) (b := (a1.f0.data.toList == [112, 117, 115, 104])) rfl rfl rfl rfl rfl rfl rfl ?_
 refine Av (.bool (a1.f0.data.toList == [112, 117, 115, 104])) rfl ?_
 refine AW.if rfl (fun h1 => ?_) (fun h1 => ?_)
 ·replace hr := cnd_t h1 hr
  refine AW.drawc (M := fun i => ⟨Nat.beq i 5, bif Nat.beq i 4 then some { ids := [4] } else bif Nat.beq i 5 then some { ids := [1, 2, 3] } else none⟩) good.wide (by kernel_rfl) ?_
  refine Av (nc := ⟨rfl⟩) (.ptr 1 0) rfl ?_
  refine Av (nc := ⟨rfl⟩) (.ptr 1 0) rfl ?_
  refine Av (nc := ⟨rfl⟩) (.ptr 1 5) rfl ?_
  refine Av (nc := ⟨rfl⟩) (.ptr 4 1) rfl ?_
  refine AL.vc good (d := 44) (v := .agg [.int .i64 a1.f1.kind, .int .i64 a1.f1.i, .bool a1.f1.b, .str a1.f1.s, .sl .ro 5 (encs a1.f1.t)]) rfl rfl rfl rfl rfl rfl (fmc ⟨.head _, (fun _ h => by cases h)⟩) ?_
  obtain ⟨h2, hr⟩ := grd hr
  refine AL.clWc good (d := 45) (xs := [.ptr 1 5, .agg (valC a1.f1)]) (rd := [(1, .box 90 [.int .i64 a0.f0.kind, .int .i64 a0.f0.i, .bool a0.f0.b, .str a0.f0.s, .sl .ro 5 (encs a0.f0.t), .mv 2 a0.f1.v .hdr, .sl (.own 3) 5 (encs a0.f2)]), (2, .arr 28 5 a0.f1.v (encs a0.f1.l)), (3, .row 28 5 (encs a0.f2).length)]) (up := [(1, .box 90 [.int .i64 a0.f0.kind, .int .i64 a0.f0.i, .bool a0.f0.b, .str a0.f0.s, .sl .ro 5 (encs a0.f0.t), .mv 2 (a0.f1.v + 1) .hdr, .sl (.own 3) 5 (encs a0.f2)]), (2, .arr 28 5 (a0.f1.v + 1) (encs (a0.f1.l ++ [a1.f1]))), (3, .row 28 5 (encs a0.f2).length)]) (res := .tup []) rfl rfl rfl rfl rfl rfl rfl (o_f111_1_2_3 a0 a1.f1 h2) ⟨(Wv.refl _), (Wv.refl _), trivial⟩ (fmc ⟨rfl, (fmc ⟨rfl, (fmc ⟨rfl, (fun _ h => by cases h)⟩)⟩)⟩) (fmc ⟨⟨_, .head _⟩, (fmc ⟨⟨_, .tail _ (.head _)⟩, (fmc ⟨⟨_, .tail _ (.tail _ (.head _))⟩, (fun _ h => by cases h)⟩)⟩)⟩) rfl rfl (ColN.mk rfl rfl (fmc ⟨.head _, (fmc ⟨.tail _ (.head _), (fmc ⟨.tail _ (.tail _ (.head _)), (fun _ h => by cases h)⟩)⟩)⟩) (fmc ⟨.head _, (fmc ⟨.tail _ (.head _), (fmc ⟨.tail _ (.tail _ (.head _)), (fun _ h => by cases h)⟩)⟩)⟩) (fun _ h => by cases h)) ?_
  refine AW.seq (Rg ?_)
  refine Av (.int .i64 0) rfl ?_
  refine AW.ret ?_
  obtain rfl := Option.some.inj hr
  exact RetH.w good (.inr rfl) rfl rfl (Wv.refl _) (fmc ⟨rfl, (fmc ⟨rfl, (fmc ⟨rfl, (fun _ h => by cases h)⟩)⟩)⟩)
 ·replace hr := cnd_f h1 hr
  refine AW.seq (Rg ?_)
  refine AL.sb good (d := 47) (b := (a1.f0.data.toList == [120])) rfl rfl rfl rfl rfl rfl rfl ?_
  refine Av (.bool (a1.f0.data.toList == [120])) rfl ?_
  refine AW.if rfl (fun h3 => ?_) (fun h3 => ?_)
  ·replace hr := cnd_t h3 hr
   refine AW.drawc (M := fun i => ⟨Nat.beq i 7, bif Nat.beq i 6 then some { ids := [1] } else bif Nat.beq i 7 then some { ids := [1, 2, 3] } else none⟩) good.wide (by kernel_rfl) ?_
   refine Av (nc := ⟨rfl⟩) (.ptr 1 0) rfl ?_
   refine Av (nc := ⟨rfl⟩) (.ptr 1 0) rfl ?_
   refine Av (nc := ⟨rfl⟩) (.ptr 1 5) rfl ?_
   refine Av (nc := ⟨rfl⟩) (.ptr 1 0) rfl ?_
   refine Av (nc := ⟨rfl⟩) (.ptr 1 0) rfl ?_
   refine Av (nc := ⟨rfl⟩) (.ptr 1 0) rfl ?_
   refine AL.vc good (d := 54) (v := .agg [.int .i64 a0.f0.kind, .int .i64 a0.f0.i, .bool a0.f0.b, .str a0.f0.s, .sl .ro 5 (encs a0.f0.t)]) rfl rfl rfl rfl rfl rfl (fmc ⟨.head _, (fun _ h => by cases h)⟩) ?_
   obtain ⟨h4, hr⟩ := grd hr
   refine AL.clWc good (d := 55) (xs := [.ptr 1 5, .agg (valC a0.f0)]) (rd := [(1, .box 90 [.int .i64 a0.f0.kind, .int .i64 a0.f0.i, .bool a0.f0.b, .str a0.f0.s, .sl .ro 5 (encs a0.f0.t), .mv 2 a0.f1.v .hdr, .sl (.own 3) 5 (encs a0.f2)]), (2, .arr 28 5 a0.f1.v (encs a0.f1.l)), (3, .row 28 5 (encs a0.f2).length)]) (up := [(1, .box 90 [.int .i64 a0.f0.kind, .int .i64 a0.f0.i, .bool a0.f0.b, .str a0.f0.s, .sl .ro 5 (encs a0.f0.t), .mv 2 (a0.f1.v + 1) .hdr, .sl (.own 3) 5 (encs a0.f2)]), (2, .arr 28 5 (a0.f1.v + 1) (encs (a0.f1.l ++ [a0.f0]))), (3, .row 28 5 (encs a0.f2).length)]) (res := .tup []) rfl rfl rfl rfl rfl rfl rfl (o_f111_1_2_3 a0 a0.f0 h4) ⟨(Wv.refl _), (Wv.refl _), trivial⟩ (fmc ⟨rfl, (fmc ⟨rfl, (fmc ⟨rfl, (fun _ h => by cases h)⟩)⟩)⟩) (fmc ⟨⟨_, .head _⟩, (fmc ⟨⟨_, .tail _ (.head _)⟩, (fmc ⟨⟨_, .tail _ (.tail _ (.head _))⟩, (fun _ h => by cases h)⟩)⟩)⟩) rfl rfl (ColN.mk rfl rfl (fmc ⟨.head _, (fmc ⟨.tail _ (.head _), (fmc ⟨.tail _ (.tail _ (.head _)), (fun _ h => by cases h)⟩)⟩)⟩) (fmc ⟨.head _, (fmc ⟨.tail _ (.head _), (fmc ⟨.tail _ (.tail _ (.head _)), (fun _ h => by cases h)⟩)⟩)⟩) (fun _ h => by cases h)) ?_
   refine AW.seq (Rg ?_)
   refine Av (.int .i64 0) rfl ?_
   refine AW.ret ?_
   obtain rfl := Option.some.inj hr
   exact RetH.w good (.inr rfl) rfl rfl (Wv.refl _) (fmc ⟨rfl, (fmc ⟨rfl, (fmc ⟨rfl, (fun _ h => by cases h)⟩)⟩)⟩)
  ·replace hr := cnd_f h3 hr
   refine AW.seq (Rg ?_)
   refine AL.sb good (d := 57) (b := (a1.f0.data.toList == [97, 116])) rfl rfl rfl rfl rfl rfl rfl ?_
   refine Av (.bool (a1.f0.data.toList == [97, 116])) rfl ?_
   refine AW.if rfl (fun h5 => ?_) (fun h5 => ?_)
   ·replace hr := cnd_t h5 hr
    refine AW.drawc (M := fun i => ⟨Nat.beq i 6 || Nat.beq i 14, bif Nat.beq i 6 then some { ids := [1, 2, 3] } else bif Nat.beq i 9 then some { ids := [] } else bif Nat.beq i 11 then some { ids := [4] } else bif Nat.beq i 13 then some { ids := [] } else bif Nat.beq i 14 then some { ids := [1, 2, 3] } else none⟩) good.wide (by kernel_rfl) ?_
    refine Av (nc := ⟨rfl⟩) (.ptr 1 0) rfl ?_
    refine Av (nc := ⟨rfl⟩) (.ptr 1 0) rfl ?_
    refine Av (nc := ⟨rfl⟩) (.ptr 1 5) rfl ?_
    refine Av (nc := ⟨rfl⟩) (.ptr 1 0) rfl ?_
    refine Av (nc := ⟨rfl⟩) (.ptr 1 0) rfl ?_
    refine Av (nc := ⟨rfl⟩) (.ptr 1 5) rfl ?_
    obtain ⟨h6, hr⟩ := grd hr
    refine AL.clWc good (d := 64) (xs := [.ptr 1 5, .int .i64 1]) (rd := [(1, .box 90 [.int .i64 a0.f0.kind, .int .i64 a0.f0.i, .bool a0.f0.b, .str a0.f0.s, .sl .ro 5 (encs a0.f0.t), .mv 2 a0.f1.v .hdr, .sl (.own 3) 5 (encs a0.f2)]), (2, .arr 28 5 a0.f1.v (encs a0.f1.l)), (3, .row 28 5 (encs a0.f2).length)]) (up := [(1, .box 90 [.int .i64 a0.f0.kind, .int .i64 a0.f0.i, .bool a0.f0.b, .str a0.f0.s, .sl .ro 5 (encs a0.f0.t), .mv 2 (a0.f1.v + 1) .hdr, .sl (.own 3) 5 (encs a0.f2)]), (2, .arr 28 5 (a0.f1.v + 1) (encs (a0.f1.l.take (a0.f1.l.length - (1 : Int).toNat)))), (3, .row 28 5 (encs a0.f2).length)]) (res := .sl .ro 5 (encs (a0.f1.l.drop (a0.f1.l.length - (1 : Int).toNat)))) rfl rfl rfl rfl rfl rfl rfl (o_f72_1_2_3 a0 1 h6) ⟨(Wv.refl _), (Wv.refl _), trivial⟩ (fmc ⟨rfl, (fmc ⟨rfl, (fmc ⟨rfl, (fun _ h => by cases h)⟩)⟩)⟩) (fmc ⟨⟨_, .head _⟩, (fmc ⟨⟨_, .tail _ (.head _)⟩, (fmc ⟨⟨_, .tail _ (.tail _ (.head _))⟩, (fun _ h => by cases h)⟩)⟩)⟩) rfl rfl (ColN.mk rfl rfl (fmc ⟨.head _, (fmc ⟨.tail _ (.head _), (fmc ⟨.tail _ (.tail _ (.head _)), (fun _ h => by cases h)⟩)⟩)⟩) (fmc ⟨.head _, (fmc ⟨.tail _ (.head _), (fmc ⟨.tail _ (.tail _ (.head _)), (fun _ h => by cases h)⟩)⟩)⟩) (fun _ h => by cases h)) ?_
    obtain ⟨x7, h8, hr⟩ := bnd1 hr
    refine AL.ix (nc := ⟨rfl⟩) good (d := 65) (r := [.int .i64 x7.kind, .int .i64 x7.i, .bool x7.b, .str x7.s, .sl .ro 5 (encs x7.t)]) rfl rfl rfl rfl rfl rfl rfl (by decide) (encs_get h8) ?_
    refine Av (nc := ⟨rfl⟩) (.ep [.sl .ro 5 (encs x7.t)]) rfl ?_
    refine AL.vc good (d := 67) (v := .sl .ro 5 (encs x7.t)) rfl rfl rfl rfl rfl rfl (fun _ h => by cases h) ?_
    refine Av (nc := ⟨rfl⟩) (.ptr 4 6) rfl ?_
    refine AL.vc good (d := 69) (v := .int .i64 a1.f2) rfl rfl rfl rfl rfl rfl (fmc ⟨.head _, (fun _ h => by cases h)⟩) ?_
    obtain ⟨h11, hr⟩ := grd hr
    obtain ⟨x9, h10, hr⟩ := bnd1 hr
    refine AL.ix (nc := ⟨rfl⟩) good (d := 70) (r := [.int .i64 x9.kind, .int .i64 x9.i, .bool x9.b, .str x9.s, .sl .ro 5 (encs x9.t)]) rfl rfl rfl rfl rfl rfl rfl h11 (encs_get h10) ?_
    refine AL.vc good (d := 71) (v := .agg [.int .i64 x9.kind, .int .i64 x9.i, .bool x9.b, .str x9.s, .sl .ro 5 (encs x9.t)]) rfl rfl rfl rfl rfl rfl (fun _ h => by cases h) ?_
    obtain ⟨h12, hr⟩ := grd hr
    refine AL.clWc good (d := 72) (xs := [.ptr 1 5, .agg (valC x9)]) (rd := [(1, .box 90 [.int .i64 ((((Mach.mk a0.f0 (Ar.mk (a0.f1.v + 1) (a0.f1.l.take (a0.f1.l.length - (1 : Int).toNat))) a0.f2)).f0).kind), .int .i64 ((((Mach.mk a0.f0 (Ar.mk (a0.f1.v + 1) (a0.f1.l.take (a0.f1.l.length - (1 : Int).toNat))) a0.f2)).f0).i), .bool ((((Mach.mk a0.f0 (Ar.mk (a0.f1.v + 1) (a0.f1.l.take (a0.f1.l.length - (1 : Int).toNat))) a0.f2)).f0).b), .str ((((Mach.mk a0.f0 (Ar.mk (a0.f1.v + 1) (a0.f1.l.take (a0.f1.l.length - (1 : Int).toNat))) a0.f2)).f0).s), .sl .ro 5 (encs ((((Mach.mk a0.f0 (Ar.mk (a0.f1.v + 1) (a0.f1.l.take (a0.f1.l.length - (1 : Int).toNat))) a0.f2)).f0).t)), .mv 2 ((((Mach.mk a0.f0 (Ar.mk (a0.f1.v + 1) (a0.f1.l.take (a0.f1.l.length - (1 : Int).toNat))) a0.f2)).f1).v) .hdr, .sl (.own 3) 5 (encs (((Mach.mk a0.f0 (Ar.mk (a0.f1.v + 1) (a0.f1.l.take (a0.f1.l.length - (1 : Int).toNat))) a0.f2)).f2))]), (2, .arr 28 5 ((((Mach.mk a0.f0 (Ar.mk (a0.f1.v + 1) (a0.f1.l.take (a0.f1.l.length - (1 : Int).toNat))) a0.f2)).f1).v) (encs ((((Mach.mk a0.f0 (Ar.mk (a0.f1.v + 1) (a0.f1.l.take (a0.f1.l.length - (1 : Int).toNat))) a0.f2)).f1).l))), (3, .row 28 5 (encs (((Mach.mk a0.f0 (Ar.mk (a0.f1.v + 1) (a0.f1.l.take (a0.f1.l.length - (1 : Int).toNat))) a0.f2)).f2)).length)]) (up := [(1, .box 90 [.int .i64 a0.f0.kind, .int .i64 a0.f0.i, .bool a0.f0.b, .str a0.f0.s, .sl .ro 5 (encs a0.f0.t), .mv 2 ((a0.f1.v + 1) + 1) .hdr, .sl (.own 3) 5 (encs a0.f2)]), (2, .arr 28 5 ((a0.f1.v + 1) + 1) (encs ((a0.f1.l.take (a0.f1.l.length - (1 : Int).toNat)) ++ [x9]))), (3, .row 28 5 (encs a0.f2).length)]) (res := .tup []) rfl rfl rfl rfl rfl rfl rfl (o_f111_1_2_3 (Mach.mk a0.f0 (Ar.mk (a0.f1.v + 1) (a0.f1.l.take (a0.f1.l.length - (1 : Int).toNat))) a0.f2) x9 h12) ⟨(Wv.refl _), (Wv.refl _), trivial⟩ (fmc ⟨rfl, (fmc ⟨rfl, (fmc ⟨rfl, (fun _ h => by cases h)⟩)⟩)⟩) (fmc ⟨⟨_, .head _⟩, (fmc ⟨⟨_, .tail _ (.head _)⟩, (fmc ⟨⟨_, .tail _ (.tail _ (.head _))⟩, (fun _ h => by cases h)⟩)⟩)⟩) rfl rfl (ColN.mk rfl rfl (fmc ⟨.head _, (fmc ⟨.tail _ (.head _), (fmc ⟨.tail _ (.tail _ (.head _)), (fun _ h => by cases h)⟩)⟩)⟩) (fmc ⟨.head _, (fmc ⟨.tail _ (.head _), (fmc ⟨.tail _ (.tail _ (.head _)), (fun _ h => by cases h)⟩)⟩)⟩) (fun _ h => by cases h)) ?_
    refine AW.seq (Rg ?_)
    refine Av (.int .i64 0) rfl ?_
    refine AW.ret ?_
    obtain rfl := Option.some.inj hr
    exact RetH.w good (.inr rfl) rfl rfl (Wv.refl _) (fmc ⟨rfl, (fmc ⟨rfl, (fmc ⟨rfl, (fun _ h => by cases h)⟩)⟩)⟩)
   ·replace hr := cnd_f h5 hr
    refine AW.seq (Rg ?_)
    refine AL.sb good (d := 74) (b := (a1.f0.data.toList == [116, 117, 112])) rfl rfl rfl rfl rfl rfl rfl ?_
    refine Av (.bool (a1.f0.data.toList == [116, 117, 112])) rfl ?_
    refine AW.if rfl (fun h13 => ?_) (fun h13 => ?_)
    ·replace hr := cnd_t h13 hr
     refine AW.drawc (M := fun i => ⟨Nat.beq i 8 || Nat.beq i 10, bif Nat.beq i 7 then some { ids := [4] } else bif Nat.beq i 8 then some { ids := [1, 2, 3] } else bif Nat.beq i 10 then some { ids := [1, 2, 3] } else none⟩) good.wide (by kernel_rfl) ?_
     refine Av (nc := ⟨rfl⟩) (.ptr 1 0) rfl ?_
     refine Av (nc := ⟨rfl⟩) (.ptr 1 0) rfl ?_
     refine Av (nc := ⟨rfl⟩) (.ptr 1 5) rfl ?_
     refine Av (nc := ⟨rfl⟩) (.ptr 1 0) rfl ?_
     refine Av (nc := ⟨rfl⟩) (.ptr 1 0) rfl ?_
     refine Av (nc := ⟨rfl⟩) (.ptr 1 5) rfl ?_
     refine Av (nc := ⟨rfl⟩) (.ptr 4 6) rfl ?_
     refine AL.vc good (d := 82) (v := .int .i64 a1.f2) rfl rfl rfl rfl rfl rfl (fmc ⟨.head _, (fun _ h => by cases h)⟩) ?_
     obtain ⟨h14, hr⟩ := grd hr
     refine AL.clWc good (d := 83) (xs := [.ptr 1 5, .int .i64 a1.f2]) (rd := [(1, .box 90 [.int .i64 a0.f0.kind, .int .i64 a0.f0.i, .bool a0.f0.b, .str a0.f0.s, .sl .ro 5 (encs a0.f0.t), .mv 2 a0.f1.v .hdr, .sl (.own 3) 5 (encs a0.f2)]), (2, .arr 28 5 a0.f1.v (encs a0.f1.l)), (3, .row 28 5 (encs a0.f2).length)]) (up := [(1, .box 90 [.int .i64 a0.f0.kind, .int .i64 a0.f0.i, .bool a0.f0.b, .str a0.f0.s, .sl .ro 5 (encs a0.f0.t), .mv 2 (a0.f1.v + 1) .hdr, .sl (.own 3) 5 (encs a0.f2)]), (2, .arr 28 5 (a0.f1.v + 1) (encs (a0.f1.l.take (a0.f1.l.length - a1.f2.toNat)))), (3, .row 28 5 (encs a0.f2).length)]) (res := .sl .ro 5 (encs (a0.f1.l.drop (a0.f1.l.length - a1.f2.toNat)))) rfl rfl rfl rfl rfl rfl rfl (o_f72_1_2_3 a0 a1.f2 h14) ⟨(Wv.refl _), (Wv.refl _), trivial⟩ (fmc ⟨rfl, (fmc ⟨rfl, (fmc ⟨rfl, (fun _ h => by cases h)⟩)⟩)⟩) (fmc ⟨⟨_, .head _⟩, (fmc ⟨⟨_, .tail _ (.head _)⟩, (fmc ⟨⟨_, .tail _ (.tail _ (.head _))⟩, (fun _ h => by cases h)⟩)⟩)⟩) rfl rfl (ColN.mk rfl rfl (fmc ⟨.head _, (fmc ⟨.tail _ (.head _), (fmc ⟨.tail _ (.tail _ (.head _)), (fun _ h => by cases h)⟩)⟩)⟩) (fmc ⟨.head _, (fmc ⟨.tail _ (.head _), (fmc ⟨.tail _ (.tail _ (.head _)), (fun _ h => by cases h)⟩)⟩)⟩) (fun _ h => by cases h)) ?_
     obtain ⟨q15, h16, hr⟩ := bnd1 hr
     refine AL.cw (nc := ⟨rfl⟩) good (d := 84) (xs := [.sl .ro 5 (encs (a0.f1.l.drop (a0.f1.l.length - a1.f2.toNat)))]) (res := .agg [.int .i64 q15.kind, .int .i64 q15.i, .bool q15.b, .str q15.s, .sl .ro 5 (encs q15.t)]) rfl rfl rfl rfl rfl rfl rfl (w_tup h16) ⟨(Wv.refl _), trivial⟩ (by simp) ?_
     obtain ⟨h17, hr⟩ := grd hr
     refine AL.clWc good (d := 85) (xs := [.ptr 1 5, .agg (valC q15)]) (rd := [(1, .box 90 [.int .i64 ((((Mach.mk a0.f0 (Ar.mk (a0.f1.v + 1) (a0.f1.l.take (a0.f1.l.length - a1.f2.toNat))) a0.f2)).f0).kind), .int .i64 ((((Mach.mk a0.f0 (Ar.mk (a0.f1.v + 1) (a0.f1.l.take (a0.f1.l.length - a1.f2.toNat))) a0.f2)).f0).i), .bool ((((Mach.mk a0.f0 (Ar.mk (a0.f1.v + 1) (a0.f1.l.take (a0.f1.l.length - a1.f2.toNat))) a0.f2)).f0).b), .str ((((Mach.mk a0.f0 (Ar.mk (a0.f1.v + 1) (a0.f1.l.take (a0.f1.l.length - a1.f2.toNat))) a0.f2)).f0).s), .sl .ro 5 (encs ((((Mach.mk a0.f0 (Ar.mk (a0.f1.v + 1) (a0.f1.l.take (a0.f1.l.length - a1.f2.toNat))) a0.f2)).f0).t)), .mv 2 ((((Mach.mk a0.f0 (Ar.mk (a0.f1.v + 1) (a0.f1.l.take (a0.f1.l.length - a1.f2.toNat))) a0.f2)).f1).v) .hdr, .sl (.own 3) 5 (encs (((Mach.mk a0.f0 (Ar.mk (a0.f1.v + 1) (a0.f1.l.take (a0.f1.l.length - a1.f2.toNat))) a0.f2)).f2))]), (2, .arr 28 5 ((((Mach.mk a0.f0 (Ar.mk (a0.f1.v + 1) (a0.f1.l.take (a0.f1.l.length - a1.f2.toNat))) a0.f2)).f1).v) (encs ((((Mach.mk a0.f0 (Ar.mk (a0.f1.v + 1) (a0.f1.l.take (a0.f1.l.length - a1.f2.toNat))) a0.f2)).f1).l))), (3, .row 28 5 (encs (((Mach.mk a0.f0 (Ar.mk (a0.f1.v + 1) (a0.f1.l.take (a0.f1.l.length - a1.f2.toNat))) a0.f2)).f2)).length)]) (up := [(1, .box 90 [.int .i64 a0.f0.kind, .int .i64 a0.f0.i, .bool a0.f0.b, .str a0.f0.s, .sl .ro 5 (encs a0.f0.t), .mv 2 ((a0.f1.v + 1) + 1) .hdr, .sl (.own 3) 5 (encs a0.f2)]), (2, .arr 28 5 ((a0.f1.v + 1) + 1) (encs ((a0.f1.l.take (a0.f1.l.length - a1.f2.toNat)) ++ [q15]))), (3, .row 28 5 (encs a0.f2).length)]) (res := .tup []) rfl rfl rfl rfl rfl rfl rfl (o_f111_1_2_3 (Mach.mk a0.f0 (Ar.mk (a0.f1.v + 1) (a0.f1.l.take (a0.f1.l.length - a1.f2.toNat))) a0.f2) q15 h17) ⟨(Wv.refl _), (Wv.refl _), trivial⟩ (fmc ⟨rfl, (fmc ⟨rfl, (fmc ⟨rfl, (fun _ h => by cases h)⟩)⟩)⟩) (fmc ⟨⟨_, .head _⟩, (fmc ⟨⟨_, .tail _ (.head _)⟩, (fmc ⟨⟨_, .tail _ (.tail _ (.head _))⟩, (fun _ h => by cases h)⟩)⟩)⟩) rfl rfl (ColN.mk rfl rfl (fmc ⟨.head _, (fmc ⟨.tail _ (.head _), (fmc ⟨.tail _ (.tail _ (.head _)), (fun _ h => by cases h)⟩)⟩)⟩) (fmc ⟨.head _, (fmc ⟨.tail _ (.head _), (fmc ⟨.tail _ (.tail _ (.head _)), (fun _ h => by cases h)⟩)⟩)⟩) (fun _ h => by cases h)) ?_
     refine AW.seq (Rg ?_)
     refine Av (.int .i64 0) rfl ?_
     refine AW.ret ?_
     obtain rfl := Option.some.inj hr
     exact RetH.w good (.inr rfl) rfl rfl (Wv.refl _) (fmc ⟨rfl, (fmc ⟨rfl, (fmc ⟨rfl, (fun _ h => by cases h)⟩)⟩)⟩)
    ·replace hr := cnd_f h13 hr
     refine AW.seq (Rg ?_)
     refine AL.sb good (d := 87) (b := (a1.f0.data.toList == [101, 109, 105, 116])) rfl rfl rfl rfl rfl rfl rfl ?_
     refine Av (.bool (a1.f0.data.toList == [101, 109, 105, 116])) rfl ?_
     refine AW.if rfl (fun h18 => ?_) (fun h18 => ?_)
     ·replace hr := cnd_t h18 hr
      refine AW.drawc (M := fun i => ⟨Nat.beq i 10 || Nat.beq i 11 || Nat.beq i 14, bif Nat.beq i 4 then some { ids := [1], lk := some (1, 6, 1) } else bif Nat.beq i 9 then some { ids := [4] } else bif Nat.beq i 10 then some { ids := [1, 2, 3], kp := [(1, 6, 1)] } else bif Nat.beq i 11 then some { ids := [3] } else bif Nat.beq i 14 then some { ids := [1] } else none⟩) good.wide (by kernel_rfl) ?_
      refine Av (nc := ⟨rfl⟩) (.ptr 1 0) rfl ?_
      refine Av (nc := ⟨rfl⟩) (.ptr 1 0) rfl ?_
      refine Av (nc := ⟨rfl⟩) (.ptr 1 0) rfl ?_
      refine Av (nc := ⟨rfl⟩) (.ptr 1 6) rfl ?_
      refine AL.vl good (d := 92) (v := .sl (.own 3) 5 (encs a0.f2)) rfl rfl rfl rfl rfl rfl rfl rfl rfl rfl rfl rfl rfl ?_
      refine Av (nc := ⟨rfl⟩) (.ptr 1 0) rfl ?_
      refine Av (nc := ⟨rfl⟩) (.ptr 1 0) rfl ?_
      refine Av (nc := ⟨rfl⟩) (.ptr 1 5) rfl ?_
      refine Av (nc := ⟨rfl⟩) (.ptr 4 6) rfl ?_
      refine AL.vc good (d := 97) (v := .int .i64 a1.f2) rfl rfl rfl rfl rfl rfl (fmc ⟨.head _, (fun _ h => by cases h)⟩) ?_
      obtain ⟨h19, hr⟩ := grd hr
      refine AL.clWc good (d := 98) (xs := [.ptr 1 5, .int .i64 a1.f2]) (rd := [(1, .box 90 [.int .i64 a0.f0.kind, .int .i64 a0.f0.i, .bool a0.f0.b, .str a0.f0.s, .sl .ro 5 (encs a0.f0.t), .mv 2 a0.f1.v .hdr, .sl (.own 3) 5 (encs a0.f2)]), (2, .arr 28 5 a0.f1.v (encs a0.f1.l)), (3, .row 28 5 (encs a0.f2).length)]) (up := [(1, .box 90 [.int .i64 a0.f0.kind, .int .i64 a0.f0.i, .bool a0.f0.b, .str a0.f0.s, .sl .ro 5 (encs a0.f0.t), .mv 2 (a0.f1.v + 1) .hdr, .sl (.own 3) 5 (encs a0.f2)]), (2, .arr 28 5 (a0.f1.v + 1) (encs (a0.f1.l.take (a0.f1.l.length - a1.f2.toNat)))), (3, .row 28 5 (encs a0.f2).length)]) (res := .sl .ro 5 (encs (a0.f1.l.drop (a0.f1.l.length - a1.f2.toNat)))) rfl rfl rfl rfl rfl rfl rfl (o_f72_1_2_3 a0 a1.f2 h19) ⟨(Wv.refl _), (Wv.refl _), trivial⟩ (fmc ⟨rfl, (fmc ⟨rfl, (fmc ⟨rfl, (fun _ h => by cases h)⟩)⟩)⟩) (fmc ⟨⟨_, .head _⟩, (fmc ⟨⟨_, .tail _ (.head _)⟩, (fmc ⟨⟨_, .tail _ (.tail _ (.head _))⟩, (fun _ h => by cases h)⟩)⟩)⟩) rfl rfl (ColN.mk rfl rfl (fmc ⟨.head _, (fmc ⟨.tail _ (.head _), (fmc ⟨.tail _ (.tail _ (.head _)), (fun _ h => by cases h)⟩)⟩)⟩) (fmc ⟨.head _, (fmc ⟨.tail _ (.head _), (fmc ⟨.tail _ (.tail _ (.head _)), (fun _ h => by cases h)⟩)⟩)⟩) (fmc ⟨rfl, (fun _ h => by cases h)⟩)) ?_
      obtain ⟨h20, hr⟩ := grd hr
      refine AL.aw2c good (d := 99) (rows := encs a0.f2) (news := encs (a0.f1.l.drop (a0.f1.l.length - a1.f2.toNat))) (rows2 := encs (a0.f2 ++ (a0.f1.l.drop (a0.f1.l.length - a1.f2.toNat)))) rfl rfl rfl rfl rfl rfl rfl rfl rfl (by simp) rfl rfl rfl rfl (WvR.refl _) (by simp [encs_map]) (by rw [encs_length, List.length_append]; exact h20) rfl ?_
      refine Av (nc := ⟨rfl⟩) (.ptr 1 0) rfl ?_
      refine Av (nc := ⟨rfl⟩) (.ptr 1 6) rfl ?_
      refine AL.st2c good (c2 := [.int .i64 a0.f0.kind, .int .i64 a0.f0.i, .bool a0.f0.b, .str a0.f0.s, .sl .ro 5 (encs a0.f0.t), .mv 2 (a0.f1.v + 1) .hdr, .sl (.own 3) 5 (encs (a0.f2 ++ (a0.f1.l.drop (a0.f1.l.length - a1.f2.toNat))))]) rfl rfl rfl rfl rfl rfl rfl rfl rfl rfl rfl rfl rfl ?_
      refine AW.seq (Rg ?_)
      refine Av (.int .i64 0) rfl ?_
      refine AW.ret ?_
      obtain rfl := Option.some.inj hr
      exact RetH.w good (.inr rfl) rfl rfl (Wv.refl _) (fmc ⟨rfl, (fmc ⟨rfl, (fmc ⟨rfl, (fun _ h => by cases h)⟩)⟩)⟩)
     ·replace hr := cnd_f h18 hr
      refine AW.seq ?_
      refine AW.seq (Rg ?_)
      refine AL.sb good (d := 103) (b := (a1.f0.data.toList == [110, 101, 103])) rfl rfl rfl rfl rfl rfl rfl ?_
      refine Av (.bool (a1.f0.data.toList == [110, 101, 103])) rfl ?_
      refine AW.if rfl (fun h21 => ?_) (fun h21 => ?_)
      ·replace hr := cnd_t h21 hr
       refine AW.skip ?_
       refine AW.if rfl (fun h => ?_) (fun h => by cases h21.symm.trans h)
       refine AW.seq ?_
       refine AW.drawc (M := fun i => ⟨Nat.beq i 5 || Nat.beq i 13, bif Nat.beq i 1 then some { ids := [4] } else bif Nat.beq i 5 then some { ids := [1, 2, 3] } else bif Nat.beq i 7 then some { ids := [] } else bif Nat.beq i 12 then some { ids := [5] } else bif Nat.beq i 13 then some { ids := [5] } else none⟩) good.wide (by kernel_rfl) ?_
       refine Av (nc := ⟨rfl⟩) (.ptr 4 0) rfl ?_
       refine AL.vc good (d := 108) (v := .str a1.f0) rfl rfl rfl rfl rfl rfl (fmc ⟨.head _, (fun _ h => by cases h)⟩) ?_
       refine Av (nc := ⟨rfl⟩) (.ptr 1 0) rfl ?_
       refine Av (nc := ⟨rfl⟩) (.ptr 1 0) rfl ?_
       refine Av (nc := ⟨rfl⟩) (.ptr 1 5) rfl ?_
       obtain ⟨h22, hr⟩ := grd hr
       refine AL.clWc good (d := 112) (xs := [.ptr 1 5, .int .i64 1]) (rd := [(1, .box 90 [.int .i64 a0.f0.kind, .int .i64 a0.f0.i, .bool a0.f0.b, .str a0.f0.s, .sl .ro 5 (encs a0.f0.t), .mv 2 a0.f1.v .hdr, .sl (.own 3) 5 (encs a0.f2)]), (2, .arr 28 5 a0.f1.v (encs a0.f1.l)), (3, .row 28 5 (encs a0.f2).length)]) (up := [(1, .box 90 [.int .i64 a0.f0.kind, .int .i64 a0.f0.i, .bool a0.f0.b, .str a0.f0.s, .sl .ro 5 (encs a0.f0.t), .mv 2 (a0.f1.v + 1) .hdr, .sl (.own 3) 5 (encs a0.f2)]), (2, .arr 28 5 (a0.f1.v + 1) (encs (a0.f1.l.take (a0.f1.l.length - (1 : Int).toNat)))), (3, .row 28 5 (encs a0.f2).length)]) (res := .sl .ro 5 (encs (a0.f1.l.drop (a0.f1.l.length - (1 : Int).toNat)))) rfl rfl rfl rfl rfl rfl rfl (o_f72_1_2_3 a0 1 h22) ⟨(Wv.refl _), (Wv.refl _), trivial⟩ (fmc ⟨rfl, (fmc ⟨rfl, (fmc ⟨rfl, (fun _ h => by cases h)⟩)⟩)⟩) (fmc ⟨⟨_, .head _⟩, (fmc ⟨⟨_, .tail _ (.head _)⟩, (fmc ⟨⟨_, .tail _ (.tail _ (.head _))⟩, (fun _ h => by cases h)⟩)⟩)⟩) rfl rfl (ColN.mk rfl rfl (fmc ⟨.head _, (fmc ⟨.tail _ (.head _), (fmc ⟨.tail _ (.tail _ (.head _)), (fun _ h => by cases h)⟩)⟩)⟩) (fmc ⟨.head _, (fmc ⟨.tail _ (.head _), (fmc ⟨.tail _ (.tail _ (.head _)), (fun _ h => by cases h)⟩)⟩)⟩) (fun _ h => by cases h)) ?_
       obtain ⟨x23, h24, hr⟩ := bnd1 hr
       refine AL.ix (nc := ⟨rfl⟩) good (d := 113) (r := [.int .i64 x23.kind, .int .i64 x23.i, .bool x23.b, .str x23.s, .sl .ro 5 (encs x23.t)]) rfl rfl rfl rfl rfl rfl rfl (by decide) (encs_get h24) ?_
       refine AL.vc good (d := 114) (v := .agg [.int .i64 x23.kind, .int .i64 x23.i, .bool x23.b, .str x23.s, .sl .ro 5 (encs x23.t)]) rfl rfl rfl rfl rfl rfl (fun _ h => by cases h) ?_
       obtain ⟨q25, h26, hr⟩ := bnd1 hr
       refine AL.cw (nc := ⟨rfl⟩) good (d := 115) (xs := [.str a1.f0, .agg (valC x23)]) (res := .tup [.agg [.int .i64 q25.1.kind, .int .i64 q25.1.i, .bool q25.1.b, .str q25.1.s, .sl .ro 5 (encs q25.1.t)], .bool q25.2]) rfl rfl rfl rfl rfl rfl rfl (w61o h26) ⟨(Wv.refl _), (Wv.refl _), trivial⟩ (by simp) ?_
       refine Av (nc := ⟨rfl⟩) (.tup [.agg [.int .i64 q25.1.kind, .int .i64 q25.1.i, .bool q25.1.b, .str q25.1.s, .sl .ro 5 (encs q25.1.t)], .bool q25.2]) rfl ?_
       refine Av (nc := ⟨rfl⟩) (.agg [.int .i64 q25.1.kind, .int .i64 q25.1.i, .bool q25.1.b, .str q25.1.s, .sl .ro 5 (encs q25.1.t)]) rfl ?_
       refine Av (nc := ⟨rfl⟩) (.bool q25.2) rfl ?_
       refine AL.alcC good (d := 5) rfl rfl rfl rfl rfl 5 rfl (ColN.mk rfl rfl (fun _ h => by cases h) (fmc ⟨.head _, (fun _ h => by cases h)⟩) (fun _ h => by cases h)) ?_
       refine AL.st2c good (c2 := [.int .i64 q25.1.kind, .int .i64 q25.1.i, .bool q25.1.b, .str q25.1.s, .sl .ro 5 (encs q25.1.t)]) rfl rfl rfl rfl rfl rfl rfl rfl rfl rfl rfl rfl rfl ?_
       refine Av (nc := ⟨rfl⟩) (.bool q25.2) rfl ?_
       refine AW.drawc (M := fun i => ⟨Nat.beq i 4, bif Nat.beq i 3 then some { ids := [5] } else bif Nat.beq i 4 then some { ids := [1, 2, 3] } else none⟩) good.wide (by kernel_rfl) ?_
       refine Av (nc := ⟨rfl⟩) (.ptr 1 0) rfl ?_
       refine Av (nc := ⟨rfl⟩) (.ptr 1 0) rfl ?_
       refine Av (nc := ⟨rfl⟩) (.ptr 1 5) rfl ?_
       refine AL.vc good (d := 121) (v := .agg [.int .i64 q25.1.kind, .int .i64 q25.1.i, .bool q25.1.b, .str q25.1.s, .sl .ro 5 (encs q25.1.t)]) rfl rfl rfl rfl rfl rfl (fmc ⟨.head _, (fun _ h => by cases h)⟩) ?_
       obtain ⟨h27, hr⟩ := grd hr
       refine AL.clWc good (d := 122) (xs := [.ptr 1 5, .agg (valC q25.1)]) (rd := [(1, .box 90 [.int .i64 ((((Mach.mk a0.f0 (Ar.mk (a0.f1.v + 1) (a0.f1.l.take (a0.f1.l.length - (1 : Int).toNat))) a0.f2)).f0).kind), .int .i64 ((((Mach.mk a0.f0 (Ar.mk (a0.f1.v + 1) (a0.f1.l.take (a0.f1.l.length - (1 : Int).toNat))) a0.f2)).f0).i), .bool ((((Mach.mk a0.f0 (Ar.mk (a0.f1.v + 1) (a0.f1.l.take (a0.f1.l.length - (1 : Int).toNat))) a0.f2)).f0).b), .str ((((Mach.mk a0.f0 (Ar.mk (a0.f1.v + 1) (a0.f1.l.take (a0.f1.l.length - (1 : Int).toNat))) a0.f2)).f0).s), .sl .ro 5 (encs ((((Mach.mk a0.f0 (Ar.mk (a0.f1.v + 1) (a0.f1.l.take (a0.f1.l.length - (1 : Int).toNat))) a0.f2)).f0).t)), .mv 2 ((((Mach.mk a0.f0 (Ar.mk (a0.f1.v + 1) (a0.f1.l.take (a0.f1.l.length - (1 : Int).toNat))) a0.f2)).f1).v) .hdr, .sl (.own 3) 5 (encs (((Mach.mk a0.f0 (Ar.mk (a0.f1.v + 1) (a0.f1.l.take (a0.f1.l.length - (1 : Int).toNat))) a0.f2)).f2))]), (2, .arr 28 5 ((((Mach.mk a0.f0 (Ar.mk (a0.f1.v + 1) (a0.f1.l.take (a0.f1.l.length - (1 : Int).toNat))) a0.f2)).f1).v) (encs ((((Mach.mk a0.f0 (Ar.mk (a0.f1.v + 1) (a0.f1.l.take (a0.f1.l.length - (1 : Int).toNat))) a0.f2)).f1).l))), (3, .row 28 5 (encs (((Mach.mk a0.f0 (Ar.mk (a0.f1.v + 1) (a0.f1.l.take (a0.f1.l.length - (1 : Int).toNat))) a0.f2)).f2)).length)]) (up := [(1, .box 90 [.int .i64 a0.f0.kind, .int .i64 a0.f0.i, .bool a0.f0.b, .str a0.f0.s, .sl .ro 5 (encs a0.f0.t), .mv 2 ((a0.f1.v + 1) + 1) .hdr, .sl (.own 3) 5 (encs a0.f2)]), (2, .arr 28 5 ((a0.f1.v + 1) + 1) (encs ((a0.f1.l.take (a0.f1.l.length - (1 : Int).toNat)) ++ [q25.1]))), (3, .row 28 5 (encs a0.f2).length)]) (res := .tup []) rfl rfl rfl rfl rfl rfl rfl (o_f111_1_2_3 (Mach.mk a0.f0 (Ar.mk (a0.f1.v + 1) (a0.f1.l.take (a0.f1.l.length - (1 : Int).toNat))) a0.f2) q25.1 h27) ⟨(Wv.refl _), (Wv.refl _), trivial⟩ (fmc ⟨rfl, (fmc ⟨rfl, (fmc ⟨rfl, (fun _ h => by cases h)⟩)⟩)⟩) (fmc ⟨⟨_, .head _⟩, (fmc ⟨⟨_, .tail _ (.head _)⟩, (fmc ⟨⟨_, .tail _ (.tail _ (.head _))⟩, (fun _ h => by cases h)⟩)⟩)⟩) rfl rfl (ColN.mk rfl rfl (fmc ⟨.head _, (fmc ⟨.tail _ (.head _), (fmc ⟨.tail _ (.tail _ (.head _)), (fun _ h => by cases h)⟩)⟩)⟩) (fmc ⟨.head _, (fmc ⟨.tail _ (.head _), (fmc ⟨.tail _ (.tail _ (.head _)), (fun _ h => by cases h)⟩)⟩)⟩) (fun _ h => by cases h)) ?_
       refine AW.seq (Rg ?_)
       refine Av (.int .i64 0) rfl ?_
       refine AW.ret ?_
       obtain rfl := Option.some.inj hr
       exact RetH.w good (.inr rfl) rfl rfl (Wv.refl _) (fmc ⟨rfl, (fmc ⟨rfl, (fmc ⟨rfl, (fun _ h => by cases h)⟩)⟩)⟩)
      ·replace hr := cnd_f h21 hr
       refine AW.seq (Rg ?_)
       refine AL.sb good (d := 104) (b := (a1.f0.data.toList == [110, 111, 116])) rfl rfl rfl rfl rfl rfl rfl ?_
       refine Av (.bool (a1.f0.data.toList == [110, 111, 116])) rfl ?_
       refine AW.if rfl (fun h28 => ?_) (fun h28 => ?_)
       ·replace hr := cnd_t h28 hr
        refine AW.skip ?_
        refine AW.if rfl (fun h => ?_) (fun h => by cases h28.symm.trans h)
        refine AW.seq ?_
        refine AW.drawc (M := fun i => ⟨Nat.beq i 5 || Nat.beq i 13, bif Nat.beq i 1 then some { ids := [4] } else bif Nat.beq i 5 then some { ids := [1, 2, 3] } else bif Nat.beq i 7 then some { ids := [] } else bif Nat.beq i 12 then some { ids := [5] } else bif Nat.beq i 13 then some { ids := [5] } else none⟩) good.wide (by kernel_rfl) ?_
        refine Av (nc := ⟨rfl⟩) (.ptr 4 0) rfl ?_
        refine AL.vc good (d := 108) (v := .str a1.f0) rfl rfl rfl rfl rfl rfl (fmc ⟨.head _, (fun _ h => by cases h)⟩) ?_
        refine Av (nc := ⟨rfl⟩) (.ptr 1 0) rfl ?_
        refine Av (nc := ⟨rfl⟩) (.ptr 1 0) rfl ?_
        refine Av (nc := ⟨rfl⟩) (.ptr 1 5) rfl ?_
        obtain ⟨h29, hr⟩ := grd hr
        refine AL.clWc good (d := 112) (xs := [.ptr 1 5, .int .i64 1]) (rd := [(1, .box 90 [.int .i64 a0.f0.kind, .int .i64 a0.f0.i, .bool a0.f0.b, .str a0.f0.s, .sl .ro 5 (encs a0.f0.t), .mv 2 a0.f1.v .hdr, .sl (.own 3) 5 (encs a0.f2)]), (2, .arr 28 5 a0.f1.v (encs a0.f1.l)), (3, .row 28 5 (encs a0.f2).length)]) (up := [(1, .box 90 [.int .i64 a0.f0.kind, .int .i64 a0.f0.i, .bool a0.f0.b, .str a0.f0.s, .sl .ro 5 (encs a0.f0.t), .mv 2 (a0.f1.v + 1) .hdr, .sl (.own 3) 5 (encs a0.f2)]), (2, .arr 28 5 (a0.f1.v + 1) (encs (a0.f1.l.take (a0.f1.l.length - (1 : Int).toNat)))), (3, .row 28 5 (encs a0.f2).length)]) (res := .sl .ro 5 (encs (a0.f1.l.drop (a0.f1.l.length - (1 : Int).toNat)))) rfl rfl rfl rfl rfl rfl rfl (o_f72_1_2_3 a0 1 h29) ⟨(Wv.refl _), (Wv.refl _), trivial⟩ (fmc ⟨rfl, (fmc ⟨rfl, (fmc ⟨rfl, (fun _ h => by cases h)⟩)⟩)⟩) (fmc ⟨⟨_, .head _⟩, (fmc ⟨⟨_, .tail _ (.head _)⟩, (fmc ⟨⟨_, .tail _ (.tail _ (.head _))⟩, (fun _ h => by cases h)⟩)⟩)⟩) rfl rfl (ColN.mk rfl rfl (fmc ⟨.head _, (fmc ⟨.tail _ (.head _), (fmc ⟨.tail _ (.tail _ (.head _)), (fun _ h => by cases h)⟩)⟩)⟩) (fmc ⟨.head _, (fmc ⟨.tail _ (.head _), (fmc ⟨.tail _ (.tail _ (.head _)), (fun _ h => by cases h)⟩)⟩)⟩) (fun _ h => by cases h)) ?_
        obtain ⟨x30, h31, hr⟩ := bnd1 hr
        refine AL.ix (nc := ⟨rfl⟩) good (d := 113) (r := [.int .i64 x30.kind, .int .i64 x30.i, .bool x30.b, .str x30.s, .sl .ro 5 (encs x30.t)]) rfl rfl rfl rfl rfl rfl rfl (by decide) (encs_get h31) ?_
        refine AL.vc good (d := 114) (v := .agg [.int .i64 x30.kind, .int .i64 x30.i, .bool x30.b, .str x30.s, .sl .ro 5 (encs x30.t)]) rfl rfl rfl rfl rfl rfl (fun _ h => by cases h) ?_
        obtain ⟨q32, h33, hr⟩ := bnd1 hr
        refine AL.cw (nc := ⟨rfl⟩) good (d := 115) (xs := [.str a1.f0, .agg (valC x30)]) (res := .tup [.agg [.int .i64 q32.1.kind, .int .i64 q32.1.i, .bool q32.1.b, .str q32.1.s, .sl .ro 5 (encs q32.1.t)], .bool q32.2]) rfl rfl rfl rfl rfl rfl rfl (w61o h33) ⟨(Wv.refl _), (Wv.refl _), trivial⟩ (by simp) ?_
        refine Av (nc := ⟨rfl⟩) (.tup [.agg [.int .i64 q32.1.kind, .int .i64 q32.1.i, .bool q32.1.b, .str q32.1.s, .sl .ro 5 (encs q32.1.t)], .bool q32.2]) rfl ?_
        refine Av (nc := ⟨rfl⟩) (.agg [.int .i64 q32.1.kind, .int .i64 q32.1.i, .bool q32.1.b, .str q32.1.s, .sl .ro 5 (encs q32.1.t)]) rfl ?_
        refine Av (nc := ⟨rfl⟩) (.bool q32.2) rfl ?_
        refine AL.alcC good (d := 5) rfl rfl rfl rfl rfl 5 rfl (ColN.mk rfl rfl (fun _ h => by cases h) (fmc ⟨.head _, (fun _ h => by cases h)⟩) (fun _ h => by cases h)) ?_
        refine AL.st2c good (c2 := [.int .i64 q32.1.kind, .int .i64 q32.1.i, .bool q32.1.b, .str q32.1.s, .sl .ro 5 (encs q32.1.t)]) rfl rfl rfl rfl rfl rfl rfl rfl rfl rfl rfl rfl rfl ?_
        refine Av (nc := ⟨rfl⟩) (.bool q32.2) rfl ?_
        refine AW.drawc (M := fun i => ⟨Nat.beq i 4, bif Nat.beq i 3 then some { ids := [5] } else bif Nat.beq i 4 then some { ids := [1, 2, 3] } else none⟩) good.wide (by kernel_rfl) ?_
        refine Av (nc := ⟨rfl⟩) (.ptr 1 0) rfl ?_
        refine Av (nc := ⟨rfl⟩) (.ptr 1 0) rfl ?_
        refine Av (nc := ⟨rfl⟩) (.ptr 1 5) rfl ?_
        refine AL.vc good (d := 121) (v := .agg [.int .i64 q32.1.kind, .int .i64 q32.1.i, .bool q32.1.b, .str q32.1.s, .sl .ro 5 (encs q32.1.t)]) rfl rfl rfl rfl rfl rfl (fmc ⟨.head _, (fun _ h => by cases h)⟩) ?_
        obtain ⟨h34, hr⟩ := grd hr
        refine AL.clWc good (d := 122) (xs := [.ptr 1 5, .agg (valC q32.1)]) (rd := [(1, .box 90 [.int .i64 ((((Mach.mk a0.f0 (Ar.mk (a0.f1.v + 1) (a0.f1.l.take (a0.f1.l.length - (1 : Int).toNat))) a0.f2)).f0).kind), .int .i64 ((((Mach.mk a0.f0 (Ar.mk (a0.f1.v + 1) (a0.f1.l.take (a0.f1.l.length - (1 : Int).toNat))) a0.f2)).f0).i), .bool ((((Mach.mk a0.f0 (Ar.mk (a0.f1.v + 1) (a0.f1.l.take (a0.f1.l.length - (1 : Int).toNat))) a0.f2)).f0).b), .str ((((Mach.mk a0.f0 (Ar.mk (a0.f1.v + 1) (a0.f1.l.take (a0.f1.l.length - (1 : Int).toNat))) a0.f2)).f0).s), .sl .ro 5 (encs ((((Mach.mk a0.f0 (Ar.mk (a0.f1.v + 1) (a0.f1.l.take (a0.f1.l.length - (1 : Int).toNat))) a0.f2)).f0).t)), .mv 2 ((((Mach.mk a0.f0 (Ar.mk (a0.f1.v + 1) (a0.f1.l.take (a0.f1.l.length - (1 : Int).toNat))) a0.f2)).f1).v) .hdr, .sl (.own 3) 5 (encs (((Mach.mk a0.f0 (Ar.mk (a0.f1.v + 1) (a0.f1.l.take (a0.f1.l.length - (1 : Int).toNat))) a0.f2)).f2))]), (2, .arr 28 5 ((((Mach.mk a0.f0 (Ar.mk (a0.f1.v + 1) (a0.f1.l.take (a0.f1.l.length - (1 : Int).toNat))) a0.f2)).f1).v) (encs ((((Mach.mk a0.f0 (Ar.mk (a0.f1.v + 1) (a0.f1.l.take (a0.f1.l.length - (1 : Int).toNat))) a0.f2)).f1).l))), (3, .row 28 5 (encs (((Mach.mk a0.f0 (Ar.mk (a0.f1.v + 1) (a0.f1.l.take (a0.f1.l.length - (1 : Int).toNat))) a0.f2)).f2)).length)]) (up := [(1, .box 90 [.int .i64 a0.f0.kind, .int .i64 a0.f0.i, .bool a0.f0.b, .str a0.f0.s, .sl .ro 5 (encs a0.f0.t), .mv 2 ((a0.f1.v + 1) + 1) .hdr, .sl (.own 3) 5 (encs a0.f2)]), (2, .arr 28 5 ((a0.f1.v + 1) + 1) (encs ((a0.f1.l.take (a0.f1.l.length - (1 : Int).toNat)) ++ [q32.1]))), (3, .row 28 5 (encs a0.f2).length)]) (res := .tup []) rfl rfl rfl rfl rfl rfl rfl (o_f111_1_2_3 (Mach.mk a0.f0 (Ar.mk (a0.f1.v + 1) (a0.f1.l.take (a0.f1.l.length - (1 : Int).toNat))) a0.f2) q32.1 h34) ⟨(Wv.refl _), (Wv.refl _), trivial⟩ (fmc ⟨rfl, (fmc ⟨rfl, (fmc ⟨rfl, (fun _ h => by cases h)⟩)⟩)⟩) (fmc ⟨⟨_, .head _⟩, (fmc ⟨⟨_, .tail _ (.head _)⟩, (fmc ⟨⟨_, .tail _ (.tail _ (.head _))⟩, (fun _ h => by cases h)⟩)⟩)⟩) rfl rfl (ColN.mk rfl rfl (fmc ⟨.head _, (fmc ⟨.tail _ (.head _), (fmc ⟨.tail _ (.tail _ (.head _)), (fun _ h => by cases h)⟩)⟩)⟩) (fmc ⟨.head _, (fmc ⟨.tail _ (.head _), (fmc ⟨.tail _ (.tail _ (.head _)), (fun _ h => by cases h)⟩)⟩)⟩) (fun _ h => by cases h)) ?_
        refine AW.seq (Rg ?_)
        refine Av (.int .i64 0) rfl ?_
        refine AW.ret ?_
        obtain rfl := Option.some.inj hr
        exact RetH.w good (.inr rfl) rfl rfl (Wv.refl _) (fmc ⟨rfl, (fmc ⟨rfl, (fmc ⟨rfl, (fun _ h => by cases h)⟩)⟩)⟩)
       ·replace hr := cnd_f h28 hr
        refine Rg ?_
        refine AL.sb good (d := 105) (b := (a1.f0.data.toList == [108, 101, 110])) rfl rfl rfl rfl rfl rfl rfl ?_
        refine Av (.bool (a1.f0.data.toList == [108, 101, 110])) rfl ?_
        refine AW.if rfl (fun h35 => ?_) (fun h35 => ?_)
        ·replace hr := cnd_t h35 hr
         refine AW.seq ?_
         refine AW.drawc (M := fun i => ⟨Nat.beq i 5 || Nat.beq i 13, bif Nat.beq i 1 then some { ids := [4] } else bif Nat.beq i 5 then some { ids := [1, 2, 3] } else bif Nat.beq i 7 then some { ids := [] } else bif Nat.beq i 12 then some { ids := [5] } else bif Nat.beq i 13 then some { ids := [5] } else none⟩) good.wide (by kernel_rfl) ?_
         refine Av (nc := ⟨rfl⟩) (.ptr 4 0) rfl ?_
         refine AL.vc good (d := 108) (v := .str a1.f0) rfl rfl rfl rfl rfl rfl (fmc ⟨.head _, (fun _ h => by cases h)⟩) ?_
         refine Av (nc := ⟨rfl⟩) (.ptr 1 0) rfl ?_
         refine Av (nc := ⟨rfl⟩) (.ptr 1 0) rfl ?_
         refine Av (nc := ⟨rfl⟩) (.ptr 1 5) rfl ?_
         obtain ⟨h36, hr⟩ := grd hr
         refine AL.clWc good (d := 112) (xs := [.ptr 1 5, .int .i64 1]) (rd := [(1, .box 90 [.int .i64 a0.f0.kind, .int .i64 a0.f0.i, .bool a0.f0.b, .str a0.f0.s, .sl .ro 5 (encs a0.f0.t), .mv 2 a0.f1.v .hdr, .sl (.own 3) 5 (encs a0.f2)]), (2, .arr 28 5 a0.f1.v (encs a0.f1.l)), (3, .row 28 5 (encs a0.f2).length)]) (up := [(1, .box 90 [.int .i64 a0.f0.kind, .int .i64 a0.f0.i, .bool a0.f0.b, .str a0.f0.s, .sl .ro 5 (encs a0.f0.t), .mv 2 (a0.f1.v + 1) .hdr, .sl (.own 3) 5 (encs a0.f2)]), (2, .arr 28 5 (a0.f1.v + 1) (encs (a0.f1.l.take (a0.f1.l.length - (1 : Int).toNat)))), (3, .row 28 5 (encs a0.f2).length)]) (res := .sl .ro 5 (encs (a0.f1.l.drop (a0.f1.l.length - (1 : Int).toNat)))) rfl rfl rfl rfl rfl rfl rfl (o_f72_1_2_3 a0 1 h36) ⟨(Wv.refl _), (Wv.refl _), trivial⟩ (fmc ⟨rfl, (fmc ⟨rfl, (fmc ⟨rfl, (fun _ h => by cases h)⟩)⟩)⟩) (fmc ⟨⟨_, .head _⟩, (fmc ⟨⟨_, .tail _ (.head _)⟩, (fmc ⟨⟨_, .tail _ (.tail _ (.head _))⟩, (fun _ h => by cases h)⟩)⟩)⟩) rfl rfl (ColN.mk rfl rfl (fmc ⟨.head _, (fmc ⟨.tail _ (.head _), (fmc ⟨.tail _ (.tail _ (.head _)), (fun _ h => by cases h)⟩)⟩)⟩) (fmc ⟨.head _, (fmc ⟨.tail _ (.head _), (fmc ⟨.tail _ (.tail _ (.head _)), (fun _ h => by cases h)⟩)⟩)⟩) (fun _ h => by cases h)) ?_
         obtain ⟨x37, h38, hr⟩ := bnd1 hr
         refine AL.ix (nc := ⟨rfl⟩) good (d := 113) (r := [.int .i64 x37.kind, .int .i64 x37.i, .bool x37.b, .str x37.s, .sl .ro 5 (encs x37.t)]) rfl rfl rfl rfl rfl rfl rfl (by decide) (encs_get h38) ?_
         refine AL.vc good (d := 114) (v := .agg [.int .i64 x37.kind, .int .i64 x37.i, .bool x37.b, .str x37.s, .sl .ro 5 (encs x37.t)]) rfl rfl rfl rfl rfl rfl (fun _ h => by cases h) ?_
         obtain ⟨q39, h40, hr⟩ := bnd1 hr
         refine AL.cw (nc := ⟨rfl⟩) good (d := 115) (xs := [.str a1.f0, .agg (valC x37)]) (res := .tup [.agg [.int .i64 q39.1.kind, .int .i64 q39.1.i, .bool q39.1.b, .str q39.1.s, .sl .ro 5 (encs q39.1.t)], .bool q39.2]) rfl rfl rfl rfl rfl rfl rfl (w61o h40) ⟨(Wv.refl _), (Wv.refl _), trivial⟩ (by simp) ?_
         refine Av (nc := ⟨rfl⟩) (.tup [.agg [.int .i64 q39.1.kind, .int .i64 q39.1.i, .bool q39.1.b, .str q39.1.s, .sl .ro 5 (encs q39.1.t)], .bool q39.2]) rfl ?_
         refine Av (nc := ⟨rfl⟩) (.agg [.int .i64 q39.1.kind, .int .i64 q39.1.i, .bool q39.1.b, .str q39.1.s, .sl .ro 5 (encs q39.1.t)]) rfl ?_
         refine Av (nc := ⟨rfl⟩) (.bool q39.2) rfl ?_
         refine AL.alcC good (d := 5) rfl rfl rfl rfl rfl 5 rfl (ColN.mk rfl rfl (fun _ h => by cases h) (fmc ⟨.head _, (fun _ h => by cases h)⟩) (fun _ h => by cases h)) ?_
         refine AL.st2c good (c2 := [.int .i64 q39.1.kind, .int .i64 q39.1.i, .bool q39.1.b, .str q39.1.s, .sl .ro 5 (encs q39.1.t)]) rfl rfl rfl rfl rfl rfl rfl rfl rfl rfl rfl rfl rfl ?_
         refine Av (nc := ⟨rfl⟩) (.bool q39.2) rfl ?_
         refine AW.drawc (M := fun i => ⟨Nat.beq i 4, bif Nat.beq i 3 then some { ids := [5] } else bif Nat.beq i 4 then some { ids := [1, 2, 3] } else none⟩) good.wide (by kernel_rfl) ?_
         refine Av (nc := ⟨rfl⟩) (.ptr 1 0) rfl ?_
         refine Av (nc := ⟨rfl⟩) (.ptr 1 0) rfl ?_
         refine Av (nc := ⟨rfl⟩) (.ptr 1 5) rfl ?_
         refine AL.vc good (d := 121) (v := .agg [.int .i64 q39.1.kind, .int .i64 q39.1.i, .bool q39.1.b, .str q39.1.s, .sl .ro 5 (encs q39.1.t)]) rfl rfl rfl rfl rfl rfl (fmc ⟨.head _, (fun _ h => by cases h)⟩) ?_
         obtain ⟨h41, hr⟩ := grd hr
         refine AL.clWc good (d := 122) (xs := [.ptr 1 5, .agg (valC q39.1)]) (rd := [(1, .box 90 [.int .i64 ((((Mach.mk a0.f0 (Ar.mk (a0.f1.v + 1) (a0.f1.l.take (a0.f1.l.length - (1 : Int).toNat))) a0.f2)).f0).kind), .int .i64 ((((Mach.mk a0.f0 (Ar.mk (a0.f1.v + 1) (a0.f1.l.take (a0.f1.l.length - (1 : Int).toNat))) a0.f2)).f0).i), .bool ((((Mach.mk a0.f0 (Ar.mk (a0.f1.v + 1) (a0.f1.l.take (a0.f1.l.length - (1 : Int).toNat))) a0.f2)).f0).b), .str ((((Mach.mk a0.f0 (Ar.mk (a0.f1.v + 1) (a0.f1.l.take (a0.f1.l.length - (1 : Int).toNat))) a0.f2)).f0).s), .sl .ro 5 (encs ((((Mach.mk a0.f0 (Ar.mk (a0.f1.v + 1) (a0.f1.l.take (a0.f1.l.length - (1 : Int).toNat))) a0.f2)).f0).t)), .mv 2 ((((Mach.mk a0.f0 (Ar.mk (a0.f1.v + 1) (a0.f1.l.take (a0.f1.l.length - (1 : Int).toNat))) a0.f2)).f1).v) .hdr, .sl (.own 3) 5 (encs (((Mach.mk a0.f0 (Ar.mk (a0.f1.v + 1) (a0.f1.l.take (a0.f1.l.length - (1 : Int).toNat))) a0.f2)).f2))]), (2, .arr 28 5 ((((Mach.mk a0.f0 (Ar.mk (a0.f1.v + 1) (a0.f1.l.take (a0.f1.l.length - (1 : Int).toNat))) a0.f2)).f1).v) (encs ((((Mach.mk a0.f0 (Ar.mk (a0.f1.v + 1) (a0.f1.l.take (a0.f1.l.length - (1 : Int).toNat))) a0.f2)).f1).l))), (3, .row 28 5 (encs (((Mach.mk a0.f0 (Ar.mk (a0.f1.v + 1) (a0.f1.l.take (a0.f1.l.length - (1 : Int).toNat))) a0.f2)).f2)).length)]) (up := [(1, .box 90 [.int .i64 a0.f0.kind, .int .i64 a0.f0.i, .bool a0.f0.b, .str a0.f0.s, .sl .ro 5 (encs a0.f0.t), .mv 2 ((a0.f1.v + 1) + 1) .hdr, .sl (.own 3) 5 (encs a0.f2)]), (2, .arr 28 5 ((a0.f1.v + 1) + 1) (encs ((a0.f1.l.take (a0.f1.l.length - (1 : Int).toNat)) ++ [q39.1]))), (3, .row 28 5 (encs a0.f2).length)]) (res := .tup []) rfl rfl rfl rfl rfl rfl rfl (o_f111_1_2_3 (Mach.mk a0.f0 (Ar.mk (a0.f1.v + 1) (a0.f1.l.take (a0.f1.l.length - (1 : Int).toNat))) a0.f2) q39.1 h41) ⟨(Wv.refl _), (Wv.refl _), trivial⟩ (fmc ⟨rfl, (fmc ⟨rfl, (fmc ⟨rfl, (fun _ h => by cases h)⟩)⟩)⟩) (fmc ⟨⟨_, .head _⟩, (fmc ⟨⟨_, .tail _ (.head _)⟩, (fmc ⟨⟨_, .tail _ (.tail _ (.head _))⟩, (fun _ h => by cases h)⟩)⟩)⟩) rfl rfl (ColN.mk rfl rfl (fmc ⟨.head _, (fmc ⟨.tail _ (.head _), (fmc ⟨.tail _ (.tail _ (.head _)), (fun _ h => by cases h)⟩)⟩)⟩) (fmc ⟨.head _, (fmc ⟨.tail _ (.head _), (fmc ⟨.tail _ (.tail _ (.head _)), (fun _ h => by cases h)⟩)⟩)⟩) (fun _ h => by cases h)) ?_
         refine AW.seq (Rg ?_)
         refine Av (.int .i64 0) rfl ?_
         refine AW.ret ?_
         obtain rfl := Option.some.inj hr
         exact RetH.w good (.inr rfl) rfl rfl (Wv.refl _) (fmc ⟨rfl, (fmc ⟨rfl, (fmc ⟨rfl, (fun _ h => by cases h)⟩)⟩)⟩)
        ·replace hr := cnd_f h35 hr
         refine AW.seq (Rg ?_)
         refine Av (.ptr 1 0) rfl ?_
         refine Av (.ptr 1 0) rfl ?_
         refine Av (.ptr 1 5) rfl ?_
         obtain ⟨h42, hr⟩ := grd hr
         refine AL.clW good (d := 16) (xs := [.ptr 1 5, .int .i64 2]) (rd := [(1, .box 90 [.int .i64 a0.f0.kind, .int .i64 a0.f0.i, .bool a0.f0.b, .str a0.f0.s, .sl .ro 5 (encs a0.f0.t), .mv 2 a0.f1.v .hdr, .sl (.own 3) 5 (encs a0.f2)]), (2, .arr 28 5 a0.f1.v (encs a0.f1.l)), (3, .row 28 5 (encs a0.f2).length)]) (up := [(1, .box 90 [.int .i64 a0.f0.kind, .int .i64 a0.f0.i, .bool a0.f0.b, .str a0.f0.s, .sl .ro 5 (encs a0.f0.t), .mv 2 (a0.f1.v + 1) .hdr, .sl (.own 3) 5 (encs a0.f2)]), (2, .arr 28 5 (a0.f1.v + 1) (encs (a0.f1.l.take (a0.f1.l.length - (2 : Int).toNat)))), (3, .row 28 5 (encs a0.f2).length)]) (res := .sl .ro 5 (encs (a0.f1.l.drop (a0.f1.l.length - (2 : Int).toNat)))) rfl rfl rfl rfl rfl rfl rfl (o_f72_1_2_3 a0 2 h42) ⟨(Wv.refl _), (Wv.refl _), trivial⟩ (fmc ⟨rfl, (fmc ⟨rfl, (fmc ⟨rfl, (fun _ h => by cases h)⟩)⟩)⟩) (fmc ⟨⟨_, .head _⟩, (fmc ⟨⟨_, .tail _ (.head _)⟩, (fmc ⟨⟨_, .tail _ (.tail _ (.head _))⟩, (fun _ h => by cases h)⟩)⟩)⟩) rfl rfl ?_
         refine Av (.sl .ro 5 (encs (a0.f1.l.drop (a0.f1.l.length - (2 : Int).toNat)))) rfl ?_
         refine AW.seq ?_
         refine AW.drawc (M := fun i => ⟨Nat.beq i 14, bif Nat.beq i 1 then some { ids := [4] } else bif Nat.beq i 4 then some { ids := [] } else bif Nat.beq i 7 then some { ids := [] } else bif Nat.beq i 13 then some { ids := [5] } else bif Nat.beq i 14 then some { ids := [5] } else none⟩) good.wide (by kernel_rfl) ?_
         refine Av (nc := ⟨rfl⟩) (.ptr 4 0) rfl ?_
         refine AL.vc good (d := 19) (v := .str a1.f0) rfl rfl rfl rfl rfl rfl (fmc ⟨.head _, (fun _ h => by cases h)⟩) ?_
         refine Av (nc := ⟨rfl⟩) (.sl .ro 5 (encs (a0.f1.l.drop (a0.f1.l.length - (2 : Int).toNat)))) rfl ?_
         obtain ⟨x43, h44, hr⟩ := bnd1 hr
         refine AL.ix (nc := ⟨rfl⟩) good (d := 21) (r := [.int .i64 x43.kind, .int .i64 x43.i, .bool x43.b, .str x43.s, .sl .ro 5 (encs x43.t)]) rfl rfl rfl rfl rfl rfl rfl (by decide) (encs_get h44) ?_
         refine AL.vc good (d := 22) (v := .agg [.int .i64 x43.kind, .int .i64 x43.i, .bool x43.b, .str x43.s, .sl .ro 5 (encs x43.t)]) rfl rfl rfl rfl rfl rfl (fun _ h => by cases h) ?_
         refine Av (nc := ⟨rfl⟩) (.sl .ro 5 (encs (a0.f1.l.drop (a0.f1.l.length - (2 : Int).toNat)))) rfl ?_
         obtain ⟨x45, h46, hr⟩ := bnd1 hr
         refine AL.ix (nc := ⟨rfl⟩) good (d := 24) (r := [.int .i64 x45.kind, .int .i64 x45.i, .bool x45.b, .str x45.s, .sl .ro 5 (encs x45.t)]) rfl rfl rfl rfl rfl rfl rfl (by decide) (encs_get h46) ?_
         refine AL.vc good (d := 25) (v := .agg [.int .i64 x45.kind, .int .i64 x45.i, .bool x45.b, .str x45.s, .sl .ro 5 (encs x45.t)]) rfl rfl rfl rfl rfl rfl (fun _ h => by cases h) ?_
         obtain ⟨q47, h48, hr⟩ := bnd1 hr
         refine AL.cw (nc := ⟨rfl⟩) good (d := 26) (xs := [.str a1.f0, .agg (valC x43), .agg (valC x45)]) (res := .tup [.agg [.int .i64 q47.1.kind, .int .i64 q47.1.i, .bool q47.1.b, .str q47.1.s, .sl .ro 5 (encs q47.1.t)], .int .i64 q47.2.1, .bool q47.2.2]) rfl rfl rfl rfl rfl rfl rfl (w62o h48) ⟨(Wv.refl _), (Wv.refl _), (Wv.refl _), trivial⟩ (by simp) ?_
         refine Av (nc := ⟨rfl⟩) (.tup [.agg [.int .i64 q47.1.kind, .int .i64 q47.1.i, .bool q47.1.b, .str q47.1.s, .sl .ro 5 (encs q47.1.t)], .int .i64 q47.2.1, .bool q47.2.2]) rfl ?_
         refine Av (nc := ⟨rfl⟩) (.agg [.int .i64 q47.1.kind, .int .i64 q47.1.i, .bool q47.1.b, .str q47.1.s, .sl .ro 5 (encs q47.1.t)]) rfl ?_
         refine Av (nc := ⟨rfl⟩) (.int .i64 q47.2.1) rfl ?_
         refine Av (nc := ⟨rfl⟩) (.bool q47.2.2) rfl ?_
         refine AL.alcC good (d := 8) rfl rfl rfl rfl rfl 5 rfl (ColN.mk rfl rfl (fun _ h => by cases h) (fmc ⟨.head _, (fun _ h => by cases h)⟩) (fun _ h => by cases h)) ?_
         refine AL.st2c good (c2 := [.int .i64 q47.1.kind, .int .i64 q47.1.i, .bool q47.1.b, .str q47.1.s, .sl .ro 5 (encs q47.1.t)]) rfl rfl rfl rfl rfl rfl rfl rfl rfl rfl rfl rfl rfl ?_
         refine Av (nc := ⟨rfl⟩) (.int .i64 q47.2.1) rfl ?_
         refine Av (nc := ⟨rfl⟩) (.bool q47.2.2) rfl ?_
         refine AW.seq ?_
         refine AW.seq (Rg ?_)
         refine Av (.int .i64 q47.2.1) rfl ?_
         refine Av (.bool (q47.2.1 != 0)) rfl ?_
         refine AW.if rfl (fun h49 => ?_) (fun h49 => ?_)
         ·replace hr := cnd_t h49 hr
          refine AW.seq (Rg ?_)
          refine Av (.int .i64 q47.2.1) rfl ?_
          refine Av (.int .i64 q47.2.1) rfl ?_
          refine AW.ret ?_
          obtain rfl := Option.some.inj hr
          exact RetH.w good (.inr rfl) rfl rfl (Wv.refl _) (fmc ⟨rfl, (fmc ⟨rfl, (fmc ⟨rfl, (fun _ h => by cases h)⟩)⟩)⟩)
         ·replace hr := cnd_f h49 hr
          refine AW.skip ?_
          refine AW.drawc (M := fun i => ⟨Nat.beq i 4, bif Nat.beq i 3 then some { ids := [5] } else bif Nat.beq i 4 then some { ids := [1, 2, 3] } else none⟩) good.wide (by kernel_rfl) ?_
          refine Av (nc := ⟨rfl⟩) (.ptr 1 0) rfl ?_
          refine Av (nc := ⟨rfl⟩) (.ptr 1 0) rfl ?_
          refine Av (nc := ⟨rfl⟩) (.ptr 1 5) rfl ?_
          refine AL.vc good (d := 36) (v := .agg [.int .i64 q47.1.kind, .int .i64 q47.1.i, .bool q47.1.b, .str q47.1.s, .sl .ro 5 (encs q47.1.t)]) rfl rfl rfl rfl rfl rfl (fmc ⟨.head _, (fun _ h => by cases h)⟩) ?_
          obtain ⟨h50, hr⟩ := grd hr
          refine AL.clWc good (d := 37) (xs := [.ptr 1 5, .agg (valC q47.1)]) (rd := [(1, .box 90 [.int .i64 ((((Mach.mk a0.f0 (Ar.mk (a0.f1.v + 1) (a0.f1.l.take (a0.f1.l.length - (2 : Int).toNat))) a0.f2)).f0).kind), .int .i64 ((((Mach.mk a0.f0 (Ar.mk (a0.f1.v + 1) (a0.f1.l.take (a0.f1.l.length - (2 : Int).toNat))) a0.f2)).f0).i), .bool ((((Mach.mk a0.f0 (Ar.mk (a0.f1.v + 1) (a0.f1.l.take (a0.f1.l.length - (2 : Int).toNat))) a0.f2)).f0).b), .str ((((Mach.mk a0.f0 (Ar.mk (a0.f1.v + 1) (a0.f1.l.take (a0.f1.l.length - (2 : Int).toNat))) a0.f2)).f0).s), .sl .ro 5 (encs ((((Mach.mk a0.f0 (Ar.mk (a0.f1.v + 1) (a0.f1.l.take (a0.f1.l.length - (2 : Int).toNat))) a0.f2)).f0).t)), .mv 2 ((((Mach.mk a0.f0 (Ar.mk (a0.f1.v + 1) (a0.f1.l.take (a0.f1.l.length - (2 : Int).toNat))) a0.f2)).f1).v) .hdr, .sl (.own 3) 5 (encs (((Mach.mk a0.f0 (Ar.mk (a0.f1.v + 1) (a0.f1.l.take (a0.f1.l.length - (2 : Int).toNat))) a0.f2)).f2))]), (2, .arr 28 5 ((((Mach.mk a0.f0 (Ar.mk (a0.f1.v + 1) (a0.f1.l.take (a0.f1.l.length - (2 : Int).toNat))) a0.f2)).f1).v) (encs ((((Mach.mk a0.f0 (Ar.mk (a0.f1.v + 1) (a0.f1.l.take (a0.f1.l.length - (2 : Int).toNat))) a0.f2)).f1).l))), (3, .row 28 5 (encs (((Mach.mk a0.f0 (Ar.mk (a0.f1.v + 1) (a0.f1.l.take (a0.f1.l.length - (2 : Int).toNat))) a0.f2)).f2)).length)]) (up := [(1, .box 90 [.int .i64 a0.f0.kind, .int .i64 a0.f0.i, .bool a0.f0.b, .str a0.f0.s, .sl .ro 5 (encs a0.f0.t), .mv 2 ((a0.f1.v + 1) + 1) .hdr, .sl (.own 3) 5 (encs a0.f2)]), (2, .arr 28 5 ((a0.f1.v + 1) + 1) (encs ((a0.f1.l.take (a0.f1.l.length - (2 : Int).toNat)) ++ [q47.1]))), (3, .row 28 5 (encs a0.f2).length)]) (res := .tup []) rfl rfl rfl rfl rfl rfl rfl (o_f111_1_2_3 (Mach.mk a0.f0 (Ar.mk (a0.f1.v + 1) (a0.f1.l.take (a0.f1.l.length - (2 : Int).toNat))) a0.f2) q47.1 h50) ⟨(Wv.refl _), (Wv.refl _), trivial⟩ (fmc ⟨rfl, (fmc ⟨rfl, (fmc ⟨rfl, (fun _ h => by cases h)⟩)⟩)⟩) (fmc ⟨⟨_, .head _⟩, (fmc ⟨⟨_, .tail _ (.head _)⟩, (fmc ⟨⟨_, .tail _ (.tail _ (.head _))⟩, (fun _ h => by cases h)⟩)⟩)⟩) rfl rfl (ColN.mk rfl rfl (fmc ⟨.head _, (fmc ⟨.tail _ (.head _), (fmc ⟨.tail _ (.tail _ (.head _)), (fun _ h => by cases h)⟩)⟩)⟩) (fmc ⟨.head _, (fmc ⟨.tail _ (.head _), (fmc ⟨.tail _ (.tail _ (.head _)), (fun _ h => by cases h)⟩)⟩)⟩) (fun _ h => by cases h)) ?_
          refine AW.seq (Rg ?_)
          refine Av (.int .i64 0) rfl ?_
          refine AW.ret ?_
          obtain rfl := Option.some.inj hr
          exact RetH.w good (.inr rfl) rfl rfl (Wv.refl _) (fmc ⟨rfl, (fmc ⟨rfl, (fmc ⟨rfl, (fun _ h => by cases h)⟩)⟩)⟩)

end
end Go.Proofs.YtbcjcekoonebiaaGreat.Tl

set_option linter.unusedVariables false
set_option linter.unusedSimpArgs false
namespace Go.Proofs.YtbcjcekoonebiaaGreat.Tl
open Go Go.RowKit
abbrev c_st_GInst (x : GInst) : List AV := [.str x.f0, .int .i64 x.f1.kind, .int .i64 x.f1.i, .bool x.f1.b, .str x.f1.s, .sl .ro 5 (encs x.f1.t), .int .i64 x.f2]
def r_st_GInst (l : List GInst) : List (List AV) := rowF c_st_GInst l
theorem r_st_GInst_length (l : List GInst) : (r_st_GInst l).length = l.length := rowF_length _ l
theorem r_st_GInst_get {l : List GInst} {j : Nat} {x : GInst} (h : l[j]? = some x) : (r_st_GInst l)[j]? = some (c_st_GInst x) := rowF_get h
theorem r_st_GInst_pure (S : Nat → Bool) (l : List GInst) : inR S (r_st_GInst l) = true := rowF_pure S (fun x => by simp [pureA, pureL, pureR, inA, inL, inR, inO, idsIn, encs_pure, enxs_pure, enys_pure, valC_pure, exC_pure, tyC_pure, c_st_GInst, r_int_u8_pure]) l

mutual
def s_f40_l1 : Nat → (List GInst) → Int → Nat → (List Val) → Int → Int → Bool → ByteArray → (List Val) → (List Val) → Option (List Val × Int)
  | 0, _, _, _, _, _, _, _, _, _, _ => none
  | n + 1, a0, v1_1, v1_2, v1_3, v1_4, v1_5, v1_6, v1_7, v1_8, v1_9 => (bif (decide (v1_1 < (a0.length : Int))) then (if 0 ≤ v1_1 then ((a0[v1_1.toNat]?).bind fun x16 => (bif (x16.f0.data.toList == [114, 101, 116]) then some (v1_9, 0) else (bif (x16.f0.data.toList == [106, 109, 112]) then (s_f40_l1 n a0 (IntKind.i64.wrap ((IntKind.i64.wrap (x16.f2 - 1)) + 1)) v1_2 v1_3 v1_4 v1_5 v1_6 v1_7 v1_8 v1_9) else (bif (x16.f0.data.toList == [106, 102]) then (if 0 ≤ (1 : Int) ∧ (1 : Int).toNat ≤ v1_3.length ∧ v1_3.length ≤ 1000000 then (((v1_3.drop (v1_3.length - (1 : Int).toNat))[0]?).bind fun x23 => (bif (!x23.b) then (s_f40_l1 n a0 (IntKind.i64.wrap ((IntKind.i64.wrap (x16.f2 - 1)) + 1)) (v1_2 + 1) (v1_3.take (v1_3.length - (1 : Int).toNat)) (((Val.mk v1_4 v1_5 v1_6 v1_7 v1_8)).kind) (((Val.mk v1_4 v1_5 v1_6 v1_7 v1_8)).i) (((Val.mk v1_4 v1_5 v1_6 v1_7 v1_8)).b) (((Val.mk v1_4 v1_5 v1_6 v1_7 v1_8)).s) (((Val.mk v1_4 v1_5 v1_6 v1_7 v1_8)).t) v1_9) else (s_f40_l1 n a0 (IntKind.i64.wrap (v1_1 + 1)) (v1_2 + 1) (v1_3.take (v1_3.length - (1 : Int).toNat)) (((Val.mk v1_4 v1_5 v1_6 v1_7 v1_8)).kind) (((Val.mk v1_4 v1_5 v1_6 v1_7 v1_8)).i) (((Val.mk v1_4 v1_5 v1_6 v1_7 v1_8)).b) (((Val.mk v1_4 v1_5 v1_6 v1_7 v1_8)).s) (((Val.mk v1_4 v1_5 v1_6 v1_7 v1_8)).t) v1_9))) else none) else ((s_f73 n (Mach.mk (Val.mk v1_4 v1_5 v1_6 v1_7 v1_8) (Ar.mk v1_2 v1_3) v1_9) x16).bind fun q26 => (bif (q26.2 != 0) then some ([], q26.2) else (s_f40_l1 n a0 (IntKind.i64.wrap (v1_1 + 1)) q26.1.f1.v q26.1.f1.l q26.1.f0.kind q26.1.f0.i q26.1.f0.b q26.1.f0.s q26.1.f0.t q26.1.f2))))))) else none) else some (v1_9, 0))
end
def s_f40 (n : Nat) (a0 : List GInst) (a1 : Val) : Option (List Val × Int) :=
  (s_f40_l1 n a0 0 0 [] a1.kind a1.i a1.b a1.s a1.t [])

section
attribute [local simp] pureA pureL pureR inA inL inR inO idsIn encs_pure enxs_pure enys_pure valC_pure exC_pure tyC_pure r_int_u8_pure r_st_GInst_pure
theorem w_f40 (n : Nat) (a0 : List GInst) (a1 : Val) (r : List Val × Int) (hr : s_f40 n a0 a1 = some r) : ACall Tryz.prog 12 [.sl .ro 7 (r_st_GInst a0), .agg (valC a1)] (.tup [.sl .ro 5 (encs r.1), .int .i64 r.2]) := by
 refine ACall.go [(0, .sl .ro 7 (r_st_GInst a0)), (1, .agg (valC a1))] Tryz.func12 rfl Tryz.ntmps12 rfl rfl (by simp) ?_
 rw [s_f40] at hr
 refine AW.seq (Rg ?_)
 refine AL.bx good (d := 3) (l := [.int .i64 a1.kind, .int .i64 a1.i, .bool a1.b, .str a1.s, .sl .ro 5 (encs a1.t)]) rfl rfl rfl rfl rfl rfl 0 rfl ?_
 refine Av (.sl .nil 0 []) rfl ?_
 refine Av (.int .i64 0) rfl ?_
 refine AW.seq (Rg ?_)
 refine Av (.agg [.int .i64 a1.kind, .int .i64 a1.i, .bool a1.b, .str a1.s, .sl .ro 5 (encs a1.t)]) rfl ?_
 refine AL.bld good (d := 11) (l := [.int .i64 a1.kind, .int .i64 a1.i, .bool a1.b, .str a1.s, .sl .ro 5 (encs a1.t), .sl .nil 0 [], .sl .nil 0 []]) rfl rfl rfl rfl rfl rfl rfl ?_
 refine AL.bx good (d := 12) (l := [.int .i64 a1.kind, .int .i64 a1.i, .bool a1.b, .str a1.s, .sl .ro 5 (encs a1.t), .sl .nil 0 [], .sl .nil 0 []]) rfl rfl rfl rfl rfl rfl 1 rfl ?_
 refine Av (.ptr 1 0) rfl ?_
 refine AW.adoptM 1 rfl 5 rfl 2 5 28 rfl rfl ?_
 refine AW.adoptB 1 rfl 6 rfl 3 5 28 rfl rfl ?_
 refine AW.seq ?_
 refine AW.seq (Rg ?_)
 refine Av (.int .i64 0) rfl ?_
 refine AW.block ?_
 refine AW.lpw (fun x : Nat × Int × Nat × (List Val) × Int × Int × Bool × ByteArray × (List Val) × (List Val) => [(0, .sl .ro 7 (r_st_GInst a0)), (6, .ptr 1 0), (7, .int .i64 x.2.1)]) (fun x => [(1, .box 90 [.int .i64 x.2.2.2.2.1, .int .i64 x.2.2.2.2.2.1, .bool x.2.2.2.2.2.2.1, .str x.2.2.2.2.2.2.2.1, .sl .ro 5 (encs x.2.2.2.2.2.2.2.2.1), .mv 2 x.2.2.1 .hdr, .sl (.own 3) 5 (encs x.2.2.2.2.2.2.2.2.2)]), (2, .arr 28 5 x.2.2.1 (encs x.2.2.2.1)), (3, .row 28 5 (encs x.2.2.2.2.2.2.2.2.2).length)]) (fun x => s_f40_l1 x.1 a0 x.2.1 x.2.2.1 x.2.2.2.1 x.2.2.2.2.1 x.2.2.2.2.2.1 x.2.2.2.2.2.2.1 x.2.2.2.2.2.2.2.1 x.2.2.2.2.2.2.2.2.1 x.2.2.2.2.2.2.2.2.2 = some r ∧ x.1 ≤ n) (fun x => x.1) (n, 0, 0, [], a1.kind, a1.i, a1.b, a1.s, a1.t, []) ⟨(fun _ h => by cases h), fmc ⟨⟨⟨_, rfl, Wv.refl _⟩, (by simp)⟩, fmc ⟨⟨⟨_, rfl, Wv.refl _⟩, (by simp)⟩, fmc ⟨⟨⟨_, rfl, Wv.refl _⟩, (by simp)⟩, (fun _ h => by cases h)⟩⟩⟩, fmc ⟨⟨⟨_, rfl, ⟨rfl, ⟨Wv.refl _, Wv.refl _, Wv.refl _, Wv.refl _, Wv.refl _, Wv.refl _, Wv.refl _, trivial⟩⟩⟩, (by simp)⟩, fmc ⟨⟨⟨_, rfl, ⟨rfl, rfl, rfl, WvR.refl _⟩⟩, (by simp)⟩, fmc ⟨⟨⟨_, rfl, ⟨rfl, rfl, rfl⟩⟩, (by simp)⟩, (fun _ h => by cases h)⟩⟩⟩⟩ ⟨hr, Nat.le_refl _⟩ (fun ⟨m, v1_1, v1_2, v1_3, v1_4, v1_5, v1_6, v1_7, v1_8, v1_9⟩ hx => ?_)
 obtain ⟨hr, hm⟩ := hx
 try dsimp only at hr hm
 cases m with
 | zero => rw [s_f40_l1] at hr; cases hr
 | succ m =>
  rw [s_f40_l1] at hr
  show AW Tryz.prog _ _ _ (mkS 65 [(0, .sl .ro 7 (r_st_GInst a0)), (6, .ptr 1 0), (7, .int .i64 v1_1)] [(1, .box 90 [.int .i64 v1_4, .int .i64 v1_5, .bool v1_6, .str v1_7, .sl .ro 5 (encs v1_8), .mv 2 v1_2 .hdr, .sl (.own 3) 5 (encs v1_9)]), (2, .arr 28 5 v1_2 (encs v1_3)), (3, .row 28 5 (encs v1_9).length)])
  refine AW.seq ?_
  refine AW.seq (Rg ?_)
  refine Av (.int .i64 v1_1) rfl ?_
  refine Av (.sl .ro 7 (r_st_GInst a0)) rfl ?_
  refine AL.ln good (d := 15) (m := a0.length) rfl rfl rfl rfl rfl rfl (r_st_GInst_length _) ?_
  refine Av (.bool (decide (v1_1 < (a0.length : Int)))) rfl ?_
  refine AW.if rfl (fun h15 => ?_) (fun h15 => ?_)
  ·replace hr := cnd_t h15 hr
   refine AW.skip ?_
   refine AW.seq ?_
   refine AW.block ?_
   refine AW.seq (Rg ?_)
   refine Av (.sl .ro 7 (r_st_GInst a0)) rfl ?_
   refine Av (.int .i64 v1_1) rfl ?_
   obtain ⟨h18, hr⟩ := grd hr
   obtain ⟨x16, h17, hr⟩ := bnd1 hr
   refine AL.ix good (d := 21) (r := [.str x16.f0, .int .i64 x16.f1.kind, .int .i64 x16.f1.i, .bool x16.f1.b, .str x16.f1.s, .sl .ro 5 (encs x16.f1.t), .int .i64 x16.f2]) rfl rfl rfl rfl rfl rfl rfl h18 (r_st_GInst_get h17) ?_
   refine Av (.agg [.str x16.f0, .int .i64 x16.f1.kind, .int .i64 x16.f1.i, .bool x16.f1.b, .str x16.f1.s, .sl .ro 5 (encs x16.f1.t), .int .i64 x16.f2]) rfl ?_
   refine AL.alc good (d := 8) rfl rfl rfl rfl rfl 4 rfl ?_
   refine AL.st2 good (c2 := [.str x16.f0, .int .i64 x16.f1.kind, .int .i64 x16.f1.i, .bool x16.f1.b, .str x16.f1.s, .sl .ro 5 (encs x16.f1.t), .int .i64 x16.f2]) rfl rfl rfl rfl rfl rfl rfl rfl rfl rfl rfl rfl ?_
   refine AW.block ?_
   refine AW.seq (Rg ?_)
   refine Av (.ptr 4 0) rfl ?_
   refine Av (.str x16.f0) rfl ?_
   refine AL.sb good (d := 32) (b := (x16.f0.data.toList == [114, 101, 116])) rfl rfl rfl rfl rfl rfl rfl ?_
   refine Av (.bool (x16.f0.data.toList == [114, 101, 116])) rfl ?_
   refine AW.if rfl (fun h19 => ?_) (fun h19 => ?_)
   ·replace hr := cnd_t h19 hr
    refine AW.seq (Rg ?_)
    refine Av (.ptr 1 0) rfl ?_
    refine Av (.ptr 1 0) rfl ?_
    refine Av (.ptr 1 6) rfl ?_
    refine Av (.sl (.own 3) 5 (encs v1_9)) rfl ?_
    refine Av (.sl (.own 3) 5 (encs v1_9)) rfl ?_
    refine Av (.int .i64 0) rfl ?_
    refine AW.ret ?_
    obtain rfl := Option.some.inj hr
    exact RetQ.w good (.inr rfl) rfl rfl ⟨⟨.inr rfl, WvR.refl _, .inl rfl⟩, Wv.refl _, trivial⟩ (by simp)
   ·replace hr := cnd_f h19 hr
    refine AW.seq ?_
    refine AW.seq (Rg ?_)
    refine Av (.ptr 4 0) rfl ?_
    refine Av (.str x16.f0) rfl ?_
    refine AL.sb good (d := 40) (b := (x16.f0.data.toList == [106, 109, 112])) rfl rfl rfl rfl rfl rfl rfl ?_
    refine Av (.bool (x16.f0.data.toList == [106, 109, 112])) rfl ?_
    refine AW.if rfl (fun h20 => ?_) (fun h20 => ?_)
    ·replace hr := cnd_t h20 hr
     refine AW.skip ?_
     refine AW.if rfl (fun h => ?_) (fun h => by cases h20.symm.trans h)
     refine Rg ?_
     refine Av (.ptr 4 6) rfl ?_
     refine Av (.int .i64 x16.f2) rfl ?_
     refine Av (.int .i64 (IntKind.i64.wrap (x16.f2 - 1))) rfl ?_
     refine Av (.int .i64 (IntKind.i64.wrap (x16.f2 - 1))) rfl ?_
     refine Rg ?_
     refine Av (.int .i64 (IntKind.i64.wrap (x16.f2 - 1))) rfl ?_
     refine Av (.int .i64 (IntKind.i64.wrap ((IntKind.i64.wrap (x16.f2 - 1)) + 1))) rfl ?_
     refine Av (.int .i64 (IntKind.i64.wrap ((IntKind.i64.wrap (x16.f2 - 1)) + 1))) rfl ?_
     exact ⟨(m, (IntKind.i64.wrap ((IntKind.i64.wrap (x16.f2 - 1)) + 1)), v1_2, v1_3, v1_4, v1_5, v1_6, v1_7, v1_8, v1_9), _, _, rfl, ⟨(fun _ h => by cases h), fmc ⟨⟨⟨_, rfl, Wv.refl _⟩, (by simp)⟩, fmc ⟨⟨⟨_, rfl, Wv.refl _⟩, (by simp)⟩, fmc ⟨⟨⟨_, rfl, Wv.refl _⟩, (by simp)⟩, (fun _ h => by cases h)⟩⟩⟩, fmc ⟨⟨⟨_, rfl, ⟨rfl, ⟨Wv.refl _, Wv.refl _, Wv.refl _, Wv.refl _, Wv.refl _, Wv.refl _, Wv.refl _, trivial⟩⟩⟩, (by simp)⟩, fmc ⟨⟨⟨_, rfl, ⟨rfl, rfl, rfl, WvR.refl _⟩⟩, (by simp)⟩, fmc ⟨⟨⟨_, rfl, ⟨rfl, rfl, rfl⟩⟩, (by simp)⟩, (fun _ h => by cases h)⟩⟩⟩⟩, ⟨hr, Nat.le_of_succ_le hm⟩, Nat.lt_succ_self _⟩
    ·replace hr := cnd_f h20 hr
     refine Rg ?_
     refine Av (.ptr 4 0) rfl ?_
     refine Av (.str x16.f0) rfl ?_
     refine AL.sb good (d := 43) (b := (x16.f0.data.toList == [106, 102])) rfl rfl rfl rfl rfl rfl rfl ?_
     refine Av (.bool (x16.f0.data.toList == [106, 102])) rfl ?_
     refine AL.cs 44 rfl (fun h21 => ?_) (fun h21 => ?_)
     ·replace hr := cnd_t h21 hr
      refine Av (.ptr 1 0) rfl ?_
      refine Av (.ptr 1 0) rfl ?_
      refine Av (.ptr 1 5) rfl ?_
      obtain ⟨h22, hr⟩ := grd hr
      refine AL.clW good (d := 48) (xs := [.ptr 1 5, .int .i64 1]) (rd := [(1, .box 90 [.int .i64 ((((Mach.mk (Val.mk v1_4 v1_5 v1_6 v1_7 v1_8) (Ar.mk v1_2 v1_3) v1_9)).f0).kind), .int .i64 ((((Mach.mk (Val.mk v1_4 v1_5 v1_6 v1_7 v1_8) (Ar.mk v1_2 v1_3) v1_9)).f0).i), .bool ((((Mach.mk (Val.mk v1_4 v1_5 v1_6 v1_7 v1_8) (Ar.mk v1_2 v1_3) v1_9)).f0).b), .str ((((Mach.mk (Val.mk v1_4 v1_5 v1_6 v1_7 v1_8) (Ar.mk v1_2 v1_3) v1_9)).f0).s), .sl .ro 5 (encs ((((Mach.mk (Val.mk v1_4 v1_5 v1_6 v1_7 v1_8) (Ar.mk v1_2 v1_3) v1_9)).f0).t)), .mv 2 ((((Mach.mk (Val.mk v1_4 v1_5 v1_6 v1_7 v1_8) (Ar.mk v1_2 v1_3) v1_9)).f1).v) .hdr, .sl (.own 3) 5 (encs (((Mach.mk (Val.mk v1_4 v1_5 v1_6 v1_7 v1_8) (Ar.mk v1_2 v1_3) v1_9)).f2))]), (2, .arr 28 5 ((((Mach.mk (Val.mk v1_4 v1_5 v1_6 v1_7 v1_8) (Ar.mk v1_2 v1_3) v1_9)).f1).v) (encs ((((Mach.mk (Val.mk v1_4 v1_5 v1_6 v1_7 v1_8) (Ar.mk v1_2 v1_3) v1_9)).f1).l))), (3, .row 28 5 (encs (((Mach.mk (Val.mk v1_4 v1_5 v1_6 v1_7 v1_8) (Ar.mk v1_2 v1_3) v1_9)).f2)).length)]) (up := [(1, .box 90 [.int .i64 (((Val.mk v1_4 v1_5 v1_6 v1_7 v1_8)).kind), .int .i64 (((Val.mk v1_4 v1_5 v1_6 v1_7 v1_8)).i), .bool (((Val.mk v1_4 v1_5 v1_6 v1_7 v1_8)).b), .str (((Val.mk v1_4 v1_5 v1_6 v1_7 v1_8)).s), .sl .ro 5 (encs (((Val.mk v1_4 v1_5 v1_6 v1_7 v1_8)).t)), .mv 2 (v1_2 + 1) .hdr, .sl (.own 3) 5 (encs v1_9)]), (2, .arr 28 5 (v1_2 + 1) (encs (v1_3.take (v1_3.length - (1 : Int).toNat)))), (3, .row 28 5 (encs v1_9).length)]) (res := .sl .ro 5 (encs (v1_3.drop (v1_3.length - (1 : Int).toNat)))) rfl rfl rfl rfl rfl rfl rfl (o_f72_1_2_3 (Mach.mk (Val.mk v1_4 v1_5 v1_6 v1_7 v1_8) (Ar.mk v1_2 v1_3) v1_9) 1 h22) ⟨(Wv.refl _), (Wv.refl _), trivial⟩ (fmc ⟨rfl, (fmc ⟨rfl, (fmc ⟨rfl, (fun _ h => by cases h)⟩)⟩)⟩) (fmc ⟨⟨_, .head _⟩, (fmc ⟨⟨_, .tail _ (.head _)⟩, (fmc ⟨⟨_, .tail _ (.tail _ (.head _))⟩, (fun _ h => by cases h)⟩)⟩)⟩) rfl rfl ?_
      obtain ⟨x23, h24, hr⟩ := bnd1 hr
      refine AL.ix good (d := 49) (r := [.int .i64 x23.kind, .int .i64 x23.i, .bool x23.b, .str x23.s, .sl .ro 5 (encs x23.t)]) rfl rfl rfl rfl rfl rfl rfl (by decide) (encs_get h24) ?_
      refine Av (.ep [.bool x23.b, .str x23.s, .sl .ro 5 (encs x23.t)]) rfl ?_
      refine Av (.bool x23.b) rfl ?_
      refine Av (.bool (!x23.b)) rfl ?_
      refine Av (.bool (!x23.b)) rfl ?_
      refine Av (.bool (!x23.b)) rfl ?_
      refine AW.if rfl (fun h25 => ?_) (fun h25 => ?_)
      ·replace hr := cnd_t h25 hr
       refine Rg ?_
       refine Av (.ptr 4 6) rfl ?_
       refine Av (.int .i64 x16.f2) rfl ?_
       refine Av (.int .i64 (IntKind.i64.wrap (x16.f2 - 1))) rfl ?_
       refine Av (.int .i64 (IntKind.i64.wrap (x16.f2 - 1))) rfl ?_
       refine Rg ?_
       refine Av (.int .i64 (IntKind.i64.wrap (x16.f2 - 1))) rfl ?_
       refine Av (.int .i64 (IntKind.i64.wrap ((IntKind.i64.wrap (x16.f2 - 1)) + 1))) rfl ?_
       refine Av (.int .i64 (IntKind.i64.wrap ((IntKind.i64.wrap (x16.f2 - 1)) + 1))) rfl ?_
       exact ⟨(m, (IntKind.i64.wrap ((IntKind.i64.wrap (x16.f2 - 1)) + 1)), (v1_2 + 1), (v1_3.take (v1_3.length - (1 : Int).toNat)), ((Val.mk v1_4 v1_5 v1_6 v1_7 v1_8)).kind, ((Val.mk v1_4 v1_5 v1_6 v1_7 v1_8)).i, ((Val.mk v1_4 v1_5 v1_6 v1_7 v1_8)).b, ((Val.mk v1_4 v1_5 v1_6 v1_7 v1_8)).s, ((Val.mk v1_4 v1_5 v1_6 v1_7 v1_8)).t, v1_9), _, _, rfl, ⟨(fun _ h => by cases h), fmc ⟨⟨⟨_, rfl, Wv.refl _⟩, (by simp)⟩, fmc ⟨⟨⟨_, rfl, Wv.refl _⟩, (by simp)⟩, fmc ⟨⟨⟨_, rfl, Wv.refl _⟩, (by simp)⟩, (fun _ h => by cases h)⟩⟩⟩, fmc ⟨⟨⟨_, rfl, ⟨rfl, ⟨Wv.refl _, Wv.refl _, Wv.refl _, Wv.refl _, Wv.refl _, Wv.refl _, Wv.refl _, trivial⟩⟩⟩, (by simp)⟩, fmc ⟨⟨⟨_, rfl, ⟨rfl, rfl, rfl, WvR.refl _⟩⟩, (by simp)⟩, fmc ⟨⟨⟨_, rfl, ⟨rfl, rfl, rfl⟩⟩, (by simp)⟩, (fun _ h => by cases h)⟩⟩⟩⟩, ⟨hr, Nat.le_of_succ_le hm⟩, Nat.lt_succ_self _⟩
      ·replace hr := cnd_f h25 hr
       refine AW.seq (Rg ?_)
       refine Av (.ptr 4 0) rfl ?_
       refine Av (.str x16.f0) rfl ?_
       refine AL.sb good (d := 60) (b := (x16.f0.data.toList == [106, 102])) rfl rfl rfl rfl rfl rfl rfl ?_
       refine Av (.bool (x16.f0.data.toList == [106, 102])) rfl ?_
       refine AW.if rfl (fun h => ?_) (fun h => by cases h21.symm.trans h)
       refine AW.skip ?_
       refine Rg ?_
       refine Av (.int .i64 v1_1) rfl ?_
       refine Av (.int .i64 (IntKind.i64.wrap (v1_1 + 1))) rfl ?_
       refine Av (.int .i64 (IntKind.i64.wrap (v1_1 + 1))) rfl ?_
       exact ⟨(m, (IntKind.i64.wrap (v1_1 + 1)), (v1_2 + 1), (v1_3.take (v1_3.length - (1 : Int).toNat)), ((Val.mk v1_4 v1_5 v1_6 v1_7 v1_8)).kind, ((Val.mk v1_4 v1_5 v1_6 v1_7 v1_8)).i, ((Val.mk v1_4 v1_5 v1_6 v1_7 v1_8)).b, ((Val.mk v1_4 v1_5 v1_6 v1_7 v1_8)).s, ((Val.mk v1_4 v1_5 v1_6 v1_7 v1_8)).t, v1_9), _, _, rfl, ⟨(fun _ h => by cases h), fmc ⟨⟨⟨_, rfl, Wv.refl _⟩, (by simp)⟩, fmc ⟨⟨⟨_, rfl, Wv.refl _⟩, (by simp)⟩, fmc ⟨⟨⟨_, rfl, Wv.refl _⟩, (by simp)⟩, (fun _ h => by cases h)⟩⟩⟩, fmc ⟨⟨⟨_, rfl, ⟨rfl, ⟨Wv.refl _, Wv.refl _, Wv.refl _, Wv.refl _, Wv.refl _, Wv.refl _, Wv.refl _, trivial⟩⟩⟩, (by simp)⟩, fmc ⟨⟨⟨_, rfl, ⟨rfl, rfl, rfl, WvR.refl _⟩⟩, (by simp)⟩, fmc ⟨⟨⟨_, rfl, ⟨rfl, rfl, rfl⟩⟩, (by simp)⟩, (fun _ h => by cases h)⟩⟩⟩⟩, ⟨hr, Nat.le_of_succ_le hm⟩, Nat.lt_succ_self _⟩
     ·replace hr := cnd_f h21 hr
      refine AL.sk good (d := 45) rfl rfl rfl ?_
      refine AL.sk good (d := 46) rfl rfl rfl ?_
      refine AL.sk good (d := 47) rfl rfl rfl ?_
      refine AL.sk good (d := 48) rfl rfl rfl ?_
      refine AL.sk good (d := 49) rfl rfl rfl ?_
      refine AL.sk good (d := 50) rfl rfl rfl ?_
      refine AL.sk good (d := 51) rfl rfl rfl ?_
      refine AL.sk good (d := 52) rfl rfl rfl ?_
      refine Av (.bool false) rfl ?_
      refine Av (.bool false) rfl ?_
      refine AW.if rfl (fun h => by cases h) (fun h => ?_)
      refine AW.seq (Rg ?_)
      refine Av (.ptr 4 0) rfl ?_
      refine Av (.str x16.f0) rfl ?_
      refine AL.sb good (d := 60) (b := (x16.f0.data.toList == [106, 102])) rfl rfl rfl rfl rfl rfl rfl ?_
      refine Av (.bool (x16.f0.data.toList == [106, 102])) rfl ?_
      refine AW.if rfl (fun h => by cases h21.symm.trans h) (fun h => ?_)
      refine AW.seq (Rg ?_)
      refine Av (.ptr 1 0) rfl ?_
      refine Av (.agg [.str x16.f0, .int .i64 x16.f1.kind, .int .i64 x16.f1.i, .bool x16.f1.b, .str x16.f1.s, .sl .ro 5 (encs x16.f1.t), .int .i64 x16.f2]) rfl ?_
      obtain ⟨q26, h27, hr⟩ := bnd1 hr
      refine AL.clW good (d := 25) (xs := [.ptr 1 0, .agg [.str x16.f0, .int .i64 x16.f1.kind, .int .i64 x16.f1.i, .bool x16.f1.b, .str x16.f1.s, .sl .ro 5 (encs x16.f1.t), .int .i64 x16.f2]]) (rd := [(1, .box 90 [.int .i64 ((((Mach.mk (Val.mk v1_4 v1_5 v1_6 v1_7 v1_8) (Ar.mk v1_2 v1_3) v1_9)).f0).kind), .int .i64 ((((Mach.mk (Val.mk v1_4 v1_5 v1_6 v1_7 v1_8) (Ar.mk v1_2 v1_3) v1_9)).f0).i), .bool ((((Mach.mk (Val.mk v1_4 v1_5 v1_6 v1_7 v1_8) (Ar.mk v1_2 v1_3) v1_9)).f0).b), .str ((((Mach.mk (Val.mk v1_4 v1_5 v1_6 v1_7 v1_8) (Ar.mk v1_2 v1_3) v1_9)).f0).s), .sl .ro 5 (encs ((((Mach.mk (Val.mk v1_4 v1_5 v1_6 v1_7 v1_8) (Ar.mk v1_2 v1_3) v1_9)).f0).t)), .mv 2 ((((Mach.mk (Val.mk v1_4 v1_5 v1_6 v1_7 v1_8) (Ar.mk v1_2 v1_3) v1_9)).f1).v) .hdr, .sl (.own 3) 5 (encs (((Mach.mk (Val.mk v1_4 v1_5 v1_6 v1_7 v1_8) (Ar.mk v1_2 v1_3) v1_9)).f2))]), (2, .arr 28 5 ((((Mach.mk (Val.mk v1_4 v1_5 v1_6 v1_7 v1_8) (Ar.mk v1_2 v1_3) v1_9)).f1).v) (encs ((((Mach.mk (Val.mk v1_4 v1_5 v1_6 v1_7 v1_8) (Ar.mk v1_2 v1_3) v1_9)).f1).l))), (3, .row 28 5 (encs (((Mach.mk (Val.mk v1_4 v1_5 v1_6 v1_7 v1_8) (Ar.mk v1_2 v1_3) v1_9)).f2)).length)]) (up := [(1, .box 90 [.int .i64 q26.1.f0.kind, .int .i64 q26.1.f0.i, .bool q26.1.f0.b, .str q26.1.f0.s, .sl .ro 5 (encs q26.1.f0.t), .mv 2 q26.1.f1.v .hdr, .sl (.own 3) 5 (encs q26.1.f2)]), (2, .arr 28 5 q26.1.f1.v (encs q26.1.f1.l)), (3, .row 28 5 (encs q26.1.f2).length)]) (res := .int .i64 q26.2) rfl rfl rfl rfl rfl rfl rfl (w_f73_1_2_3 _ _ _ _ h27) ⟨(Wv.refl _), (Wv.refl _), trivial⟩ (fmc ⟨rfl, (fmc ⟨rfl, (fmc ⟨rfl, (fun _ h => by cases h)⟩)⟩)⟩) (fmc ⟨⟨_, .head _⟩, (fmc ⟨⟨_, .tail _ (.head _)⟩, (fmc ⟨⟨_, .tail _ (.tail _ (.head _))⟩, (fun _ h => by cases h)⟩)⟩)⟩) rfl rfl ?_
      refine Av (.int .i64 q26.2) rfl ?_
      refine AW.seq (Rg ?_)
      refine Av (.int .i64 q26.2) rfl ?_
      refine Av (.bool (q26.2 != 0)) rfl ?_
      refine AW.if rfl (fun h28 => ?_) (fun h28 => ?_)
      ·replace hr := cnd_t h28 hr
       refine AW.seq (Rg ?_)
       refine Av (.int .i64 q26.2) rfl ?_
       refine Av (.sl .nil 0 []) rfl ?_
       refine Av (.int .i64 q26.2) rfl ?_
       refine AW.ret ?_
       obtain rfl := Option.some.inj hr
       exact RetQ.w good (.inr rfl) rfl rfl ⟨⟨.inr rfl, trivial, .inr rfl⟩, Wv.refl _, trivial⟩ (by simp)
      ·replace hr := cnd_f h28 hr
       refine AW.skip ?_
       refine Rg ?_
       refine Av (.int .i64 v1_1) rfl ?_
       refine Av (.int .i64 (IntKind.i64.wrap (v1_1 + 1))) rfl ?_
       refine Av (.int .i64 (IntKind.i64.wrap (v1_1 + 1))) rfl ?_
       exact ⟨(m, (IntKind.i64.wrap (v1_1 + 1)), q26.1.f1.v, q26.1.f1.l, q26.1.f0.kind, q26.1.f0.i, q26.1.f0.b, q26.1.f0.s, q26.1.f0.t, q26.1.f2), _, _, rfl, ⟨(fun _ h => by cases h), fmc ⟨⟨⟨_, rfl, Wv.refl _⟩, (by simp)⟩, fmc ⟨⟨⟨_, rfl, Wv.refl _⟩, (by simp)⟩, fmc ⟨⟨⟨_, rfl, Wv.refl _⟩, (by simp)⟩, (fun _ h => by cases h)⟩⟩⟩, fmc ⟨⟨⟨_, rfl, ⟨rfl, ⟨Wv.refl _, Wv.refl _, Wv.refl _, Wv.refl _, Wv.refl _, Wv.refl _, Wv.refl _, trivial⟩⟩⟩, (by simp)⟩, fmc ⟨⟨⟨_, rfl, ⟨rfl, rfl, rfl, WvR.refl _⟩⟩, (by simp)⟩, fmc ⟨⟨⟨_, rfl, ⟨rfl, rfl, rfl⟩⟩, (by simp)⟩, (fun _ h => by cases h)⟩⟩⟩⟩, ⟨hr, Nat.le_of_succ_le hm⟩, Nat.lt_succ_self _⟩
  ·replace hr := cnd_f h15 hr
   refine AW.exit ?_
   refine AW.seq (Rg ?_)
   refine Av (.ptr 1 0) rfl ?_
   refine Av (.ptr 1 0) rfl ?_
   refine Av (.ptr 1 6) rfl ?_
   refine Av (.sl (.own 3) 5 (encs v1_9)) rfl ?_
   refine Av (.sl (.own 3) 5 (encs v1_9)) rfl ?_
   refine Av (.int .i64 0) rfl ?_
   refine AW.ret ?_
   obtain rfl := Option.some.inj hr
   exact RetQ.w good (.inr rfl) rfl rfl ⟨⟨.inr rfl, WvR.refl _, .inl rfl⟩, Wv.refl _, trivial⟩ (by simp)

end
end Go.Proofs.YtbcjcekoonebiaaGreat.Tl

set_option linter.unusedVariables false
set_option linter.unusedSimpArgs false
namespace Go.Proofs.YtbcjcekoonebiaaGreat.Tl
open Go Go.RowKit
structure GMiss where
  f0 : Int
  f1 : Val
abbrev c_sl_st_GInst (x : (List GInst)) : List AV := [.sl .ro 7 (r_st_GInst x)]
def r_sl_st_GInst (l : List (List GInst)) : List (List AV) := rowF c_sl_st_GInst l
theorem r_sl_st_GInst_length (l : List (List GInst)) : (r_sl_st_GInst l).length = l.length := rowF_length _ l
theorem r_sl_st_GInst_get {l : List (List GInst)} {j : Nat} {x : (List GInst)} (h : l[j]? = some x) : (r_sl_st_GInst l)[j]? = some (c_sl_st_GInst x) := rowF_get h
theorem r_sl_st_GInst_pure (S : Nat → Bool) (l : List (List GInst)) : inR S (r_sl_st_GInst l) = true := rowF_pure S (fun x => by simp [pureA, pureL, pureR, inA, inL, inR, inO, idsIn, encs_pure, enxs_pure, enys_pure, valC_pure, exC_pure, tyC_pure, c_sl_st_GInst, r_int_u8_pure, r_st_GInst_pure]) l
abbrev c_st_GMiss (x : GMiss) : List AV := [.int .i64 x.f0, .int .i64 x.f1.kind, .int .i64 x.f1.i, .bool x.f1.b, .str x.f1.s, .sl .ro 5 (encs x.f1.t)]
def r_st_GMiss (l : List GMiss) : List (List AV) := rowF c_st_GMiss l
theorem r_st_GMiss_length (l : List GMiss) : (r_st_GMiss l).length = l.length := rowF_length _ l
theorem r_st_GMiss_get {l : List GMiss} {j : Nat} {x : GMiss} (h : l[j]? = some x) : (r_st_GMiss l)[j]? = some (c_st_GMiss x) := rowF_get h
theorem r_st_GMiss_pure (S : Nat → Bool) (l : List GMiss) : inR S (r_st_GMiss l) = true := rowF_pure S (fun x => by simp [pureA, pureL, pureR, inA, inL, inR, inO, idsIn, encs_pure, enxs_pure, enys_pure, valC_pure, exC_pure, tyC_pure, c_st_GMiss, r_int_u8_pure, r_st_GInst_pure, r_sl_st_GInst_pure]) l

mutual
def s_f77 : Nat → Int → Val → (List (List GInst)) → (Ar Val) → (List GMiss) → Option (List (List GInst) × Ar Val × List GMiss)
  | 0, _, _, _, _, _ => none
  | n + 1, a0, a1, a2, a3, a4 => (bif (a0 == (a2.length : Int)) then (if a3.l.length + 1 ≤ 1000000 then (((a3.l ++ [(Val.mk 0 0 false ⟨#[]⟩ [])])[a3.l.length]?).bind fun x3 => some (a2, (Ar.mk (a3.v + 1) ((a3.l ++ [(Val.mk 0 0 false ⟨#[]⟩ [])]).set a3.l.length a1)), a4)) else none) else (if 0 ≤ a0 then ((a2[a0.toNat]?).bind fun x5 => ((s_f40 n x5 a1).bind fun q8 => (bif (q8.2 != 0) then (if a4.length + 1 ≤ 1000000 then (s_f77_l1 n a0 q8 0 a2 a3.v a3.l (a4 ++ [(GMiss.mk a0 a1)])) else none) else (s_f77_l1 n a0 q8 0 a2 a3.v a3.l a4)))) else none))
def s_f77_l1 : Nat → Int → (List Val × Int) → Nat → (List (List GInst)) → Nat → (List Val) → (List GMiss) → Option (List (List GInst) × Ar Val × List GMiss)
  | 0, _, _, _, _, _, _, _ => none
  | n + 1, a0, q8, v1_1, v1_2, v1_3, v1_4, v1_5 => (bif (decide ((v1_1 : Int) < (q8.1.length : Int))) then ((q8.1[v1_1]?).bind fun x20 => ((s_f77 n (IntKind.i64.wrap (a0 + 1)) x20 v1_2 (Ar.mk v1_3 v1_4) v1_5).bind fun q22 => (s_f77_l1 n a0 q8 (v1_1 + 1) q22.1 q22.2.1.v q22.2.1.l q22.2.2))) else some (v1_2, (Ar.mk v1_3 v1_4), v1_5))
end

section
attribute [local simp] pureA pureL pureR inA inL inR inO idsIn encs_pure enxs_pure enys_pure valC_pure exC_pure tyC_pure r_int_u8_pure r_st_GInst_pure r_sl_st_GInst_pure r_st_GMiss_pure
theorem w_f77_0_2_3_4_5_6_a (n : Nat) (ih : ∀ (m : Nat) (a0 : Int) (a1 : Val) (a2 : List (List GInst)) (a3 : Ar Val) (a4 : List GMiss) (r : List (List GInst) × Ar Val × List GMiss), s_f77 m a0 a1 a2 a3 a4 = some r → m < n → ACallH Tryz.prog 42 [.int .i64 a0, .agg (valC a1), .ptr 0 0, .ptr 2 0, .ptr 4 0, .ptr 6 0] [(0, .box 74 [.sl .ro 1 (r_sl_st_GInst a2)]), (2, .box 26 [.mv 3 a3.v .hdr]), (3, .arr 28 5 a3.v (encs a3.l)), (4, .box 71 [.sl (.own 5) 6 (r_st_GMiss a4)]), (5, .row 76 6 (r_st_GMiss a4).length), (6, .box 101 [.func 42 [] [.ptr 0 0, .ptr 2 0, .ptr 4 0, .ptr 6 0]])] [(0, .box 74 [.sl .ro 1 (r_sl_st_GInst r.1)]), (2, .box 26 [.mv 3 r.2.1.v .hdr]), (3, .arr 28 5 r.2.1.v (encs r.2.1.l)), (4, .box 71 [.sl (.own 5) 6 (r_st_GMiss r.2.2)]), (5, .row 76 6 (r_st_GMiss r.2.2).length), (6, .box 101 [.func 42 [] [.ptr 0 0, .ptr 2 0, .ptr 4 0, .ptr 6 0]])] (.tup [])) (a0 : Int) (a1 : Val) (a2 : List (List GInst)) (a3 : Ar Val) (a4 : List GMiss) (r : List (List GInst) × Ar Val × List GMiss) (hr : s_f77 n a0 a1 a2 a3 a4 = some r) : ACallH Tryz.prog 42 [.int .i64 a0, .agg (valC a1), .ptr 0 0, .ptr 2 0, .ptr 4 0, .ptr 6 0] [(0, .box 74 [.sl .ro 1 (r_sl_st_GInst a2)]), (2, .box 26 [.mv 3 a3.v .hdr]), (3, .arr 28 5 a3.v (encs a3.l)), (4, .box 71 [.sl (.own 5) 6 (r_st_GMiss a4)]), (5, .row 76 6 (r_st_GMiss a4).length), (6, .box 101 [.func 42 [] [.ptr 0 0, .ptr 2 0, .ptr 4 0, .ptr 6 0]])] [(0, .box 74 [.sl .ro 1 (r_sl_st_GInst r.1)]), (2, .box 26 [.mv 3 r.2.1.v .hdr]), (3, .arr 28 5 r.2.1.v (encs r.2.1.l)), (4, .box 71 [.sl (.own 5) 6 (r_st_GMiss r.2.2)]), (5, .row 76 6 (r_st_GMiss r.2.2).length), (6, .box 101 [.func 42 [] [.ptr 0 0, .ptr 2 0, .ptr 4 0, .ptr 6 0]])] (.tup []) := by
 refine ACallH.go [(0, .int .i64 a0), (1, .agg (valC a1)), (2, .ptr 0 0), (3, .ptr 2 0), (4, .ptr 4 0), (5, .ptr 6 0)] [(6, .box 101 [.func 42 [] [.ptr 0 0, .ptr 2 0, .ptr 4 0, .ptr 6 0]]), (5, .row 76 6 (r_st_GMiss a4).length), (4, .box 71 [.sl (.own 5) 6 (r_st_GMiss a4)]), (3, .arr 28 5 a3.v (encs a3.l)), (2, .box 26 [.mv 3 a3.v .hdr]), (0, .box 74 [.sl .ro 1 (r_sl_st_GInst a2)])] Tryz.func42 rfl Tryz.ntmps42 rfl rfl rfl (by simp) (fmc ⟨(by simp), (fmc ⟨(by simp), (fmc ⟨(by simp), (fmc ⟨(by simp), (fmc ⟨(by simp), (fmc ⟨(by simp), (fun _ h => by cases h)⟩)⟩)⟩)⟩)⟩)⟩) (fmc ⟨⟨rfl, (by simp)⟩, (fmc ⟨⟨rfl, (by simp)⟩, (fmc ⟨⟨rfl, (by simp)⟩, (fmc ⟨⟨rfl, (by simp)⟩, (fmc ⟨⟨rfl, (by simp)⟩, (fmc ⟨⟨rfl, (by simp)⟩, (fun _ h => by cases h)⟩)⟩)⟩)⟩)⟩)⟩) (by simp) ?_
 cases n with
 | zero => rw [s_f77] at hr; cases hr
 | succ n =>
  rw [s_f77] at hr
  refine AW.seq (Rg ?_)
  refine AL.bx good (d := 7) (l := [.int .i64 a1.kind, .int .i64 a1.i, .bool a1.b, .str a1.s, .sl .ro 5 (encs a1.t)]) rfl rfl rfl rfl rfl rfl 7 rfl ?_
  refine AW.seq ?_
  refine AW.seq (Rg ?_)
  refine Av (.int .i64 a0) rfl ?_
  refine Av (.sl .ro 1 (r_sl_st_GInst a2)) rfl ?_
  refine AL.ln good (d := 14) (m := a2.length) rfl rfl rfl rfl rfl rfl (r_sl_st_GInst_length _) ?_
  refine Av (.bool (a0 == (a2.length : Int))) rfl ?_
  refine AW.if rfl (fun h1 => ?_) (fun h1 => ?_)
  ·replace hr := cnd_t h1 hr
   refine AW.seq ?_
   refine AW.drawc (M := fun i => ⟨Nat.beq i 4 || Nat.beq i 5 || Nat.beq i 6 || Nat.beq i 7, bif Nat.beq i 0 then some { ids := [2] } else bif Nat.beq i 1 then some { ids := [7] } else bif Nat.beq i 2 then some { ids := [3] } else bif Nat.beq i 3 then some { ids := [8] } else bif Nat.beq i 4 then some { ids := [3] } else bif Nat.beq i 5 then some { ids := [3] } else bif Nat.beq i 6 then some { ids := [3] } else bif Nat.beq i 7 then some { ids := [2] } else none⟩) good.wide (by kernel_rfl) ?_
   refine AL.vc good (d := 16) (v := .mv 3 a3.v .hdr) rfl rfl rfl rfl rfl rfl (fmc ⟨.head _, (fun _ h => by cases h)⟩) ?_
   refine AL.vc good (d := 17) (v := .agg [.int .i64 a1.kind, .int .i64 a1.i, .bool a1.b, .str a1.s, .sl .ro 5 (encs a1.t)]) rfl rfl rfl rfl rfl rfl (fmc ⟨.head _, (fun _ h => by cases h)⟩) ?_
   refine AL.mln good (d := 18) (m := a3.l.length) rfl rfl rfl rfl rfl rfl rfl (encs_length _) (ColN.mk rfl rfl (fmc ⟨.head _, (fun _ h => by cases h)⟩) (fun _ h => by cases h) (fun _ h => by cases h)) ?_
   refine AL.litC good (d := 19) (rows := [[.int .i64 0, .int .i64 0, .bool false, .str ⟨#[]⟩, .sl .nil 0 []]]) rfl rfl rfl rfl rfl rfl rfl rfl rfl 8 rfl (ColN.mk rfl rfl (fun _ h => by cases h) (fmc ⟨.head _, (fun _ h => by cases h)⟩) (fun _ h => by cases h)) ?_
   obtain ⟨h2, hr⟩ := grd hr
   refine AL.mpp good (d := 20) (news := [(valC (Val.mk 0 0 false ⟨#[]⟩ []))]) (rows2 := encs (a3.l ++ [(Val.mk 0 0 false ⟨#[]⟩ [])])) rfl rfl rfl rfl rfl rfl rfl rfl rfl (by simp) rfl rfl rfl (by simp) ⟨⟨Wv.refl _, Wv.refl _, Wv.refl _, Wv.refl _, ⟨.inr rfl, trivial, .inr rfl⟩, trivial⟩, trivial⟩ (by simp [encs_map]) (by rw [encs_length]; simp only [List.length_append, List.length_cons, List.length_nil]; exact h2) rfl (ColN.mk rfl rfl (fmc ⟨.head _, (fun _ h => by cases h)⟩) (fmc ⟨.head _, (fun _ h => by cases h)⟩) (fun _ h => by cases h)) ?_
   obtain ⟨x3, h4, hr⟩ := bnd1 hr
   refine AL.mix good (d := 21) (q := a3.l.length) rfl rfl rfl rfl rfl rfl rfl rfl (Int.natCast_nonneg _) rfl (encs_get h4) rfl (ColN.mk rfl rfl (fmc ⟨.head _, (fun _ h => by cases h)⟩) (fun _ h => by cases h) (fun _ h => by cases h)) ?_
   refine AL.mst good (rows2 := encs ((a3.l ++ [(Val.mk 0 0 false ⟨#[]⟩ [])]).set a3.l.length a1)) rfl rfl rfl rfl rfl rfl rfl rfl rfl (encs_get h4) rfl rfl (encs_set _ _ _) (ColN.mk rfl rfl (fmc ⟨.head _, (fun _ h => by cases h)⟩) (fmc ⟨.head _, (fun _ h => by cases h)⟩) (fun _ h => by cases h)) ?_
   refine AL.st2c good (c2 := [.mv 3 (a3.v + 1) .hdr]) rfl rfl rfl rfl rfl rfl rfl rfl rfl rfl rfl rfl rfl ?_
   refine AW.ret ?_
   obtain rfl := Option.some.inj hr
   exact RetH.w good (.inr rfl) rfl rfl (Wv.refl _) (fmc ⟨rfl, (fmc ⟨rfl, (fmc ⟨rfl, (fmc ⟨rfl, (fmc ⟨rfl, (fmc ⟨rfl, (fun _ h => by cases h)⟩)⟩)⟩)⟩)⟩)⟩)
  ·replace hr := cnd_f h1 hr
   refine AW.skip ?_
   refine AW.seq ?_
   refine AW.drawc (M := fun i => ⟨false, bif Nat.beq i 0 then some { ids := [0] } else bif Nat.beq i 3 then some { ids := [] } else bif Nat.beq i 4 then some { ids := [7] } else none⟩) good.wide (by kernel_rfl) ?_
   refine AL.vc good (d := 23) (v := .sl .ro 1 (r_sl_st_GInst a2)) rfl rfl rfl rfl rfl rfl (fmc ⟨.head _, (fun _ h => by cases h)⟩) ?_
   refine Av (nc := ⟨rfl⟩) (.int .i64 a0) rfl ?_
   obtain ⟨h7, hr⟩ := grd hr
   obtain ⟨x5, h6, hr⟩ := bnd1 hr
   refine AL.ix (nc := ⟨rfl⟩) good (d := 25) (r := [.sl .ro 7 (r_st_GInst x5)]) rfl rfl rfl rfl rfl rfl rfl h7 (r_sl_st_GInst_get h6) ?_
   refine AL.vc good (d := 26) (v := .sl .ro 7 (r_st_GInst x5)) rfl rfl rfl rfl rfl rfl (fun _ h => by cases h) ?_
   refine AL.vc good (d := 27) (v := .agg [.int .i64 a1.kind, .int .i64 a1.i, .bool a1.b, .str a1.s, .sl .ro 5 (encs a1.t)]) rfl rfl rfl rfl rfl rfl (fmc ⟨.head _, (fun _ h => by cases h)⟩) ?_
   obtain ⟨q8, h9, hr⟩ := bnd1 hr
   refine AL.cw (nc := ⟨rfl⟩) good (d := 28) (xs := [.sl .ro 7 (r_st_GInst x5), .agg (valC a1)]) (res := .tup [.sl .ro 5 (encs q8.1), .int .i64 q8.2]) rfl rfl rfl rfl rfl rfl rfl (w_f40 _ _ _ _ h9) ⟨(Wv.refl _), (Wv.refl _), trivial⟩ (by simp) ?_
   refine Av (nc := ⟨rfl⟩) (.tup [.sl .ro 5 (encs q8.1), .int .i64 q8.2]) rfl ?_
   refine Av (nc := ⟨rfl⟩) (.sl .ro 5 (encs q8.1)) rfl ?_
   refine Av (nc := ⟨rfl⟩) (.int .i64 q8.2) rfl ?_
   refine Av (nc := ⟨rfl⟩) (.sl .ro 5 (encs q8.1)) rfl ?_
   refine Av (nc := ⟨rfl⟩) (.int .i64 q8.2) rfl ?_
   refine AW.seq ?_
   refine AW.seq (Rg ?_)
   refine Av (.int .i64 q8.2) rfl ?_
   refine Av (.bool (q8.2 != 0)) rfl ?_
   refine AW.if rfl (fun h10 => ?_) (fun h10 => ?_)
   ·replace hr := cnd_t h10 hr
    refine Rg ?_
    refine Av (.sl (.own 5) 6 (r_st_GMiss a4)) rfl ?_
    refine Av (.int .i64 a0) rfl ?_
    refine Av (.agg [.int .i64 a1.kind, .int .i64 a1.i, .bool a1.b, .str a1.s, .sl .ro 5 (encs a1.t)]) rfl ?_
    refine AL.bld good (d := 36) (l := [.int .i64 a0, .int .i64 a1.kind, .int .i64 a1.i, .bool a1.b, .str a1.s, .sl .ro 5 (encs a1.t)]) rfl rfl rfl rfl rfl rfl rfl ?_
    refine AL.lit good (d := 37) (rows := [[.int .i64 a0, .int .i64 a1.kind, .int .i64 a1.i, .bool a1.b, .str a1.s, .sl .ro 5 (encs a1.t)]]) rfl rfl rfl rfl rfl rfl rfl rfl rfl 8 rfl ?_
    obtain ⟨h11, hr⟩ := grd hr
    refine AL.aw2 good (d := 38) (rows := r_st_GMiss a4) (news := [[.int .i64 (((GMiss.mk a0 a1)).f0), .int .i64 ((((GMiss.mk a0 a1)).f1).kind), .int .i64 ((((GMiss.mk a0 a1)).f1).i), .bool ((((GMiss.mk a0 a1)).f1).b), .str ((((GMiss.mk a0 a1)).f1).s), .sl .ro 5 (encs ((((GMiss.mk a0 a1)).f1).t))]]) (rows2 := r_st_GMiss (a4 ++ [(GMiss.mk a0 a1)])) rfl rfl rfl rfl rfl rfl rfl rfl rfl (by simp) rfl rfl rfl ⟨⟨Wv.refl _, Wv.refl _, Wv.refl _, Wv.refl _, Wv.refl _, Wv.refl _, trivial⟩, trivial⟩ (by simp [r_st_GMiss, rowF]) (by rw [r_st_GMiss_length, List.length_append]; exact h11) rfl ?_
    refine AL.st2 good (c2 := [.sl (.own 5) 6 (r_st_GMiss (a4 ++ [(GMiss.mk a0 a1)]))]) rfl rfl rfl rfl rfl rfl rfl rfl rfl rfl rfl rfl ?_
    refine AW.seq (Rg ?_)
    refine Av (.sl .ro 5 (encs q8.1)) rfl ?_
    refine AL.ln good (d := 40) (m := q8.1.length) rfl rfl rfl rfl rfl rfl (encs_length _) ?_
    refine Av (.int .i64 0) rfl ?_
    refine AW.block ?_
    refine AW.lens 39 rfl (fun hl18 => ?_)
    replace hl18 : q8.1.length ≤ 9223372036854775807 := by rw [← encs_length q8.1]; exact hl18
    refine AW.lpw (fun x : Nat × Nat × (List (List GInst)) × Nat × (List Val) × (List GMiss) => [(0, .int .i64 a0), (5, .ptr 6 0), (39, .sl .ro 5 (encs q8.1)), (40, .int .i64 (q8.1.length : Int)), (41, .int .i64 (x.2.1 : Int))]) (fun x => [(0, .box 74 [.sl .ro 1 (r_sl_st_GInst x.2.2.1)]), (2, .box 26 [.mv 3 x.2.2.2.1 .hdr]), (3, .arr 28 5 x.2.2.2.1 (encs x.2.2.2.2.1)), (4, .box 71 [.sl (.own 5) 6 (r_st_GMiss x.2.2.2.2.2)]), (5, .row 76 6 (r_st_GMiss x.2.2.2.2.2).length), (6, .box 101 [.func 42 [] [.ptr 0 0, .ptr 2 0, .ptr 4 0, .ptr 6 0]])]) (fun x => s_f77_l1 x.1 a0 q8 x.2.1 x.2.2.1 x.2.2.2.1 x.2.2.2.2.1 x.2.2.2.2.2 = some r ∧ x.1 ≤ n) (fun x => x.1) (n, 0, a2, a3.v, a3.l, (a4 ++ [(GMiss.mk a0 a1)])) ⟨(idsIn_sub rfl), fmc ⟨⟨⟨_, rfl, Wv.refl _⟩, (by simp)⟩, fmc ⟨⟨⟨_, rfl, Wv.refl _⟩, (by simp)⟩, fmc ⟨⟨⟨_, rfl, Wv.refl _⟩, (by simp)⟩, fmc ⟨⟨⟨_, rfl, Wv.refl _⟩, (by simp)⟩, fmc ⟨⟨⟨_, rfl, Wv.refl _⟩, (by simp)⟩, (fun _ h => by cases h)⟩⟩⟩⟩⟩, fmc ⟨⟨⟨_, rfl, ⟨rfl, ⟨Wv.refl _, trivial⟩⟩⟩, (by simp)⟩, fmc ⟨⟨⟨_, rfl, ⟨rfl, ⟨Wv.refl _, trivial⟩⟩⟩, (by simp)⟩, fmc ⟨⟨⟨_, rfl, ⟨rfl, rfl, rfl, WvR.refl _⟩⟩, (by simp)⟩, fmc ⟨⟨⟨_, rfl, ⟨rfl, ⟨Wv.refl _, trivial⟩⟩⟩, (by simp)⟩, fmc ⟨⟨⟨_, rfl, ⟨rfl, rfl, rfl⟩⟩, (by simp)⟩, fmc ⟨⟨⟨_, rfl, ⟨rfl, ⟨Wv.refl _, trivial⟩⟩⟩, (by simp)⟩, (fun _ h => by cases h)⟩⟩⟩⟩⟩⟩⟩ ⟨hr, Nat.le_refl _⟩ (fun ⟨m, v1_1, v1_2, v1_3, v1_4, v1_5⟩ hx => ?_)
    obtain ⟨hr, hm⟩ := hx
    try dsimp only at hr hm
    cases m with
    | zero => rw [s_f77_l1] at hr; cases hr
    | succ m =>
     rw [s_f77_l1] at hr
     show AW Tryz.prog _ _ _ (mkS 51 [(0, .int .i64 a0), (5, .ptr 6 0), (39, .sl .ro 5 (encs q8.1)), (40, .int .i64 (q8.1.length : Int)), (41, .int .i64 (v1_1 : Int))] [(0, .box 74 [.sl .ro 1 (r_sl_st_GInst v1_2)]), (2, .box 26 [.mv 3 v1_3 .hdr]), (3, .arr 28 5 v1_3 (encs v1_4)), (4, .box 71 [.sl (.own 5) 6 (r_st_GMiss v1_5)]), (5, .row 76 6 (r_st_GMiss v1_5).length), (6, .box 101 [.func 42 [] [.ptr 0 0, .ptr 2 0, .ptr 4 0, .ptr 6 0]])])
     refine AW.seq (Rg ?_)
     refine Av (.bool (decide ((v1_1 : Int) < (q8.1.length : Int)))) rfl ?_
     refine AW.seq ?_
     refine AW.if rfl (fun h19 => ?_) (fun h19 => ?_)
     ·replace hr := cnd_t h19 hr
      refine AW.skip ?_
      refine AW.seq ?_
      refine AW.block ?_
      refine AW.seq (Rg ?_)
      obtain ⟨x20, h21, hr⟩ := bnd1 hr
      refine AL.ix good (d := 43) (r := [.int .i64 x20.kind, .int .i64 x20.i, .bool x20.b, .str x20.s, .sl .ro 5 (encs x20.t)]) rfl rfl rfl rfl rfl rfl rfl (Int.natCast_nonneg _) (encs_get h21) ?_
      refine Av (.agg [.int .i64 x20.kind, .int .i64 x20.i, .bool x20.b, .str x20.s, .sl .ro 5 (encs x20.t)]) rfl ?_
      refine AL.alc good (d := 11) rfl rfl rfl rfl rfl 9 rfl ?_
      refine AL.st2 good (c2 := [.int .i64 x20.kind, .int .i64 x20.i, .bool x20.b, .str x20.s, .sl .ro 5 (encs x20.t)]) rfl rfl rfl rfl rfl rfl rfl rfl rfl rfl rfl rfl ?_
      refine Rg ?_
      refine Av (.func 42 [] [.ptr 0 0, .ptr 2 0, .ptr 4 0, .ptr 6 0]) rfl ?_
      refine Av (.int .i64 a0) rfl ?_
      refine Av (.int .i64 (IntKind.i64.wrap (a0 + 1))) rfl ?_
      refine Av (.agg [.int .i64 x20.kind, .int .i64 x20.i, .bool x20.b, .str x20.s, .sl .ro 5 (encs x20.t)]) rfl ?_
      obtain ⟨q22, h23, hr⟩ := bnd1 hr
      refine AL.clW good (d := 49) (xs := [.int .i64 (IntKind.i64.wrap (a0 + 1)), .agg (valC x20), .ptr 0 0, .ptr 2 0, .ptr 4 0, .ptr 6 0]) (rd := [(0, .box 74 [.sl .ro 1 (r_sl_st_GInst v1_2)]), (2, .box 26 [.mv 3 (((Ar.mk v1_3 v1_4)).v) .hdr]), (3, .arr 28 5 (((Ar.mk v1_3 v1_4)).v) (encs (((Ar.mk v1_3 v1_4)).l))), (4, .box 71 [.sl (.own 5) 6 (r_st_GMiss v1_5)]), (5, .row 76 6 (r_st_GMiss v1_5).length), (6, .box 101 [.func 42 [] [.ptr 0 0, .ptr 2 0, .ptr 4 0, .ptr 6 0]])]) (up := [(0, .box 74 [.sl .ro 1 (r_sl_st_GInst q22.1)]), (2, .box 26 [.mv 3 q22.2.1.v .hdr]), (3, .arr 28 5 q22.2.1.v (encs q22.2.1.l)), (4, .box 71 [.sl (.own 5) 6 (r_st_GMiss q22.2.2)]), (5, .row 76 6 (r_st_GMiss q22.2.2).length), (6, .box 101 [.func 42 [] [.ptr 0 0, .ptr 2 0, .ptr 4 0, .ptr 6 0]])]) (res := .tup []) rfl rfl rfl rfl rfl rfl rfl (ih _ _ _ _ _ _ _ h23 (by omega)) ⟨(Wv.refl _), (Wv.refl _), (Wv.refl _), (Wv.refl _), (Wv.refl _), (Wv.refl _), trivial⟩ (fmc ⟨rfl, (fmc ⟨rfl, (fmc ⟨rfl, (fmc ⟨rfl, (fmc ⟨rfl, (fmc ⟨rfl, (fun _ h => by cases h)⟩)⟩)⟩)⟩)⟩)⟩) (fmc ⟨⟨_, .head _⟩, (fmc ⟨⟨_, .tail _ (.head _)⟩, (fmc ⟨⟨_, .tail _ (.tail _ (.head _))⟩, (fmc ⟨⟨_, .tail _ (.tail _ (.tail _ (.head _)))⟩, (fmc ⟨⟨_, .tail _ (.tail _ (.tail _ (.tail _ (.head _))))⟩, (fmc ⟨⟨_, .tail _ (.tail _ (.tail _ (.tail _ (.tail _ (.head _)))))⟩, (fun _ h => by cases h)⟩)⟩)⟩)⟩)⟩)⟩) rfl rfl ?_
      refine Rg ?_
      refine Av (.int .i64 (IntKind.i64.wrap ((v1_1 : Int) + 1))) rfl ?_
      refine Av (.int .i64 (IntKind.i64.wrap ((v1_1 : Int) + 1))) rfl ?_
      exact ⟨(m, (v1_1 + 1), q22.1, q22.2.1.v, q22.2.1.l, q22.2.2), _, _, rfl, ⟨(idsIn_sub rfl), fmc ⟨⟨⟨_, rfl, Wv.refl _⟩, (by simp)⟩, fmc ⟨⟨⟨_, rfl, Wv.refl _⟩, (by simp)⟩, fmc ⟨⟨⟨_, rfl, Wv.refl _⟩, (by simp)⟩, fmc ⟨⟨⟨_, rfl, Wv.refl _⟩, (by simp)⟩, fmc ⟨⟨⟨_, rfl, (wnx h19 hl18)⟩, (by simp)⟩, (fun _ h => by cases h)⟩⟩⟩⟩⟩, fmc ⟨⟨⟨_, rfl, ⟨rfl, ⟨Wv.refl _, trivial⟩⟩⟩, (by simp)⟩, fmc ⟨⟨⟨_, rfl, ⟨rfl, ⟨Wv.refl _, trivial⟩⟩⟩, (by simp)⟩, fmc ⟨⟨⟨_, rfl, ⟨rfl, rfl, rfl, WvR.refl _⟩⟩, (by simp)⟩, fmc ⟨⟨⟨_, rfl, ⟨rfl, ⟨Wv.refl _, trivial⟩⟩⟩, (by simp)⟩, fmc ⟨⟨⟨_, rfl, ⟨rfl, rfl, rfl⟩⟩, (by simp)⟩, fmc ⟨⟨⟨_, rfl, ⟨rfl, ⟨Wv.refl _, trivial⟩⟩⟩, (by simp)⟩, (fun _ h => by cases h)⟩⟩⟩⟩⟩⟩⟩, ⟨hr, Nat.le_of_succ_le hm⟩, Nat.lt_succ_self _⟩
     ·replace hr := cnd_f h19 hr
      refine AW.exit ?_
      obtain rfl := Option.some.inj hr
      exact RetH.w good (.inl rfl) rfl rfl (Wv.refl _) (fmc ⟨rfl, (fmc ⟨rfl, (fmc ⟨rfl, (fmc ⟨rfl, (fmc ⟨rfl, (fmc ⟨rfl, (fun _ h => by cases h)⟩)⟩)⟩)⟩)⟩)⟩)
   ·replace hr := cnd_f h10 hr
    refine AW.skip ?_
    refine AW.seq (Rg ?_)
    refine Av (.sl .ro 5 (encs q8.1)) rfl ?_
    refine AL.ln good (d := 40) (m := q8.1.length) rfl rfl rfl rfl rfl rfl (encs_length _) ?_
    refine Av (.int .i64 0) rfl ?_
    refine AW.block ?_
    refine AW.lens 39 rfl (fun hl30 => ?_)
    replace hl30 : q8.1.length ≤ 9223372036854775807 := by rw [← encs_length q8.1]; exact hl30
    refine AW.lpw (fun x : Nat × Nat × (List (List GInst)) × Nat × (List Val) × (List GMiss) => [(0, .int .i64 a0), (5, .ptr 6 0), (39, .sl .ro 5 (encs q8.1)), (40, .int .i64 (q8.1.length : Int)), (41, .int .i64 (x.2.1 : Int))]) (fun x => [(0, .box 74 [.sl .ro 1 (r_sl_st_GInst x.2.2.1)]), (2, .box 26 [.mv 3 x.2.2.2.1 .hdr]), (3, .arr 28 5 x.2.2.2.1 (encs x.2.2.2.2.1)), (4, .box 71 [.sl (.own 5) 6 (r_st_GMiss x.2.2.2.2.2)]), (5, .row 76 6 (r_st_GMiss x.2.2.2.2.2).length), (6, .box 101 [.func 42 [] [.ptr 0 0, .ptr 2 0, .ptr 4 0, .ptr 6 0]])]) (fun x => s_f77_l1 x.1 a0 q8 x.2.1 x.2.2.1 x.2.2.2.1 x.2.2.2.2.1 x.2.2.2.2.2 = some r ∧ x.1 ≤ n) (fun x => x.1) (n, 0, a2, a3.v, a3.l, a4) ⟨(idsIn_sub rfl), fmc ⟨⟨⟨_, rfl, Wv.refl _⟩, (by simp)⟩, fmc ⟨⟨⟨_, rfl, Wv.refl _⟩, (by simp)⟩, fmc ⟨⟨⟨_, rfl, Wv.refl _⟩, (by simp)⟩, fmc ⟨⟨⟨_, rfl, Wv.refl _⟩, (by simp)⟩, fmc ⟨⟨⟨_, rfl, Wv.refl _⟩, (by simp)⟩, (fun _ h => by cases h)⟩⟩⟩⟩⟩, fmc ⟨⟨⟨_, rfl, ⟨rfl, ⟨Wv.refl _, trivial⟩⟩⟩, (by simp)⟩, fmc ⟨⟨⟨_, rfl, ⟨rfl, ⟨Wv.refl _, trivial⟩⟩⟩, (by simp)⟩, fmc ⟨⟨⟨_, rfl, ⟨rfl, rfl, rfl, WvR.refl _⟩⟩, (by simp)⟩, fmc ⟨⟨⟨_, rfl, ⟨rfl, ⟨Wv.refl _, trivial⟩⟩⟩, (by simp)⟩, fmc ⟨⟨⟨_, rfl, ⟨rfl, rfl, rfl⟩⟩, (by simp)⟩, fmc ⟨⟨⟨_, rfl, ⟨rfl, ⟨Wv.refl _, trivial⟩⟩⟩, (by simp)⟩, (fun _ h => by cases h)⟩⟩⟩⟩⟩⟩⟩ ⟨hr, Nat.le_refl _⟩ (fun ⟨m, v2_1, v2_2, v2_3, v2_4, v2_5⟩ hx => ?_)
    obtain ⟨hr, hm⟩ := hx
    try dsimp only at hr hm
    cases m with
    | zero => rw [s_f77_l1] at hr; cases hr
    | succ m =>
     rw [s_f77_l1] at hr
     show AW Tryz.prog _ _ _ (mkS 51 [(0, .int .i64 a0), (5, .ptr 6 0), (39, .sl .ro 5 (encs q8.1)), (40, .int .i64 (q8.1.length : Int)), (41, .int .i64 (v2_1 : Int))] [(0, .box 74 [.sl .ro 1 (r_sl_st_GInst v2_2)]), (2, .box 26 [.mv 3 v2_3 .hdr]), (3, .arr 28 5 v2_3 (encs v2_4)), (4, .box 71 [.sl (.own 5) 6 (r_st_GMiss v2_5)]), (5, .row 76 6 (r_st_GMiss v2_5).length), (6, .box 101 [.func 42 [] [.ptr 0 0, .ptr 2 0, .ptr 4 0, .ptr 6 0]])])
     refine AW.seq (Rg ?_)
     refine Av (.bool (decide ((v2_1 : Int) < (q8.1.length : Int)))) rfl ?_
     refine AW.seq ?_
     refine AW.if rfl (fun h31 => ?_) (fun h31 => ?_)
     ·replace hr := cnd_t h31 hr
      refine AW.skip ?_
      refine AW.seq ?_
      refine AW.block ?_
      refine AW.seq (Rg ?_)
      obtain ⟨x32, h33, hr⟩ := bnd1 hr
      refine AL.ix good (d := 43) (r := [.int .i64 x32.kind, .int .i64 x32.i, .bool x32.b, .str x32.s, .sl .ro 5 (encs x32.t)]) rfl rfl rfl rfl rfl rfl rfl (Int.natCast_nonneg _) (encs_get h33) ?_
      refine Av (.agg [.int .i64 x32.kind, .int .i64 x32.i, .bool x32.b, .str x32.s, .sl .ro 5 (encs x32.t)]) rfl ?_
      refine AL.alc good (d := 11) rfl rfl rfl rfl rfl 8 rfl ?_
      refine AL.st2 good (c2 := [.int .i64 x32.kind, .int .i64 x32.i, .bool x32.b, .str x32.s, .sl .ro 5 (encs x32.t)]) rfl rfl rfl rfl rfl rfl rfl rfl rfl rfl rfl rfl ?_
      refine Rg ?_
      refine Av (.func 42 [] [.ptr 0 0, .ptr 2 0, .ptr 4 0, .ptr 6 0]) rfl ?_
      refine Av (.int .i64 a0) rfl ?_
      refine Av (.int .i64 (IntKind.i64.wrap (a0 + 1))) rfl ?_
      refine Av (.agg [.int .i64 x32.kind, .int .i64 x32.i, .bool x32.b, .str x32.s, .sl .ro 5 (encs x32.t)]) rfl ?_
      obtain ⟨q34, h35, hr⟩ := bnd1 hr
      refine AL.clW good (d := 49) (xs := [.int .i64 (IntKind.i64.wrap (a0 + 1)), .agg (valC x32), .ptr 0 0, .ptr 2 0, .ptr 4 0, .ptr 6 0]) (rd := [(0, .box 74 [.sl .ro 1 (r_sl_st_GInst v2_2)]), (2, .box 26 [.mv 3 (((Ar.mk v2_3 v2_4)).v) .hdr]), (3, .arr 28 5 (((Ar.mk v2_3 v2_4)).v) (encs (((Ar.mk v2_3 v2_4)).l))), (4, .box 71 [.sl (.own 5) 6 (r_st_GMiss v2_5)]), (5, .row 76 6 (r_st_GMiss v2_5).length), (6, .box 101 [.func 42 [] [.ptr 0 0, .ptr 2 0, .ptr 4 0, .ptr 6 0]])]) (up := [(0, .box 74 [.sl .ro 1 (r_sl_st_GInst q34.1)]), (2, .box 26 [.mv 3 q34.2.1.v .hdr]), (3, .arr 28 5 q34.2.1.v (encs q34.2.1.l)), (4, .box 71 [.sl (.own 5) 6 (r_st_GMiss q34.2.2)]), (5, .row 76 6 (r_st_GMiss q34.2.2).length), (6, .box 101 [.func 42 [] [.ptr 0 0, .ptr 2 0, .ptr 4 0, .ptr 6 0]])]) (res := .tup []) rfl rfl rfl rfl rfl rfl rfl (ih _ _ _ _ _ _ _ h35 (by omega)) ⟨(Wv.refl _), (Wv.refl _), (Wv.refl _), (Wv.refl _), (Wv.refl _), (Wv.refl _), trivial⟩ (fmc ⟨rfl, (fmc ⟨rfl, (fmc ⟨rfl, (fmc ⟨rfl, (fmc ⟨rfl, (fmc ⟨rfl, (fun _ h => by cases h)⟩)⟩)⟩)⟩)⟩)⟩) (fmc ⟨⟨_, .head _⟩, (fmc ⟨⟨_, .tail _ (.head _)⟩, (fmc ⟨⟨_, .tail _ (.tail _ (.head _))⟩, (fmc ⟨⟨_, .tail _ (.tail _ (.tail _ (.head _)))⟩, (fmc ⟨⟨_, .tail _ (.tail _ (.tail _ (.tail _ (.head _))))⟩, (fmc ⟨⟨_, .tail _ (.tail _ (.tail _ (.tail _ (.tail _ (.head _)))))⟩, (fun _ h => by cases h)⟩)⟩)⟩)⟩)⟩)⟩) rfl rfl ?_
      refine Rg ?_
      refine Av (.int .i64 (IntKind.i64.wrap ((v2_1 : Int) + 1))) rfl ?_
      refine Av (.int .i64 (IntKind.i64.wrap ((v2_1 : Int) + 1))) rfl ?_
      exact ⟨(m, (v2_1 + 1), q34.1, q34.2.1.v, q34.2.1.l, q34.2.2), _, _, rfl, ⟨(idsIn_sub rfl), fmc ⟨⟨⟨_, rfl, Wv.refl _⟩, (by simp)⟩, fmc ⟨⟨⟨_, rfl, Wv.refl _⟩, (by simp)⟩, fmc ⟨⟨⟨_, rfl, Wv.refl _⟩, (by simp)⟩, fmc ⟨⟨⟨_, rfl, Wv.refl _⟩, (by simp)⟩, fmc ⟨⟨⟨_, rfl, (wnx h31 hl30)⟩, (by simp)⟩, (fun _ h => by cases h)⟩⟩⟩⟩⟩, fmc ⟨⟨⟨_, rfl, ⟨rfl, ⟨Wv.refl _, trivial⟩⟩⟩, (by simp)⟩, fmc ⟨⟨⟨_, rfl, ⟨rfl, ⟨Wv.refl _, trivial⟩⟩⟩, (by simp)⟩, fmc ⟨⟨⟨_, rfl, ⟨rfl, rfl, rfl, WvR.refl _⟩⟩, (by simp)⟩, fmc ⟨⟨⟨_, rfl, ⟨rfl, ⟨Wv.refl _, trivial⟩⟩⟩, (by simp)⟩, fmc ⟨⟨⟨_, rfl, ⟨rfl, rfl, rfl⟩⟩, (by simp)⟩, fmc ⟨⟨⟨_, rfl, ⟨rfl, ⟨Wv.refl _, trivial⟩⟩⟩, (by simp)⟩, (fun _ h => by cases h)⟩⟩⟩⟩⟩⟩⟩, ⟨hr, Nat.le_of_succ_le hm⟩, Nat.lt_succ_self _⟩
     ·replace hr := cnd_f h31 hr
      refine AW.exit ?_
      obtain rfl := Option.some.inj hr
      exact RetH.w good (.inl rfl) rfl rfl (Wv.refl _) (fmc ⟨rfl, (fmc ⟨rfl, (fmc ⟨rfl, (fmc ⟨rfl, (fmc ⟨rfl, (fmc ⟨rfl, (fun _ h => by cases h)⟩)⟩)⟩)⟩)⟩)⟩)
theorem w_f77_0_2_3_4_5_6 (n : Nat) : ∀ (a0 : Int) (a1 : Val) (a2 : List (List GInst)) (a3 : Ar Val) (a4 : List GMiss) (r : List (List GInst) × Ar Val × List GMiss) (hr : s_f77 n a0 a1 a2 a3 a4 = some r), ACallH Tryz.prog 42 [.int .i64 a0, .agg (valC a1), .ptr 0 0, .ptr 2 0, .ptr 4 0, .ptr 6 0] [(0, .box 74 [.sl .ro 1 (r_sl_st_GInst a2)]), (2, .box 26 [.mv 3 a3.v .hdr]), (3, .arr 28 5 a3.v (encs a3.l)), (4, .box 71 [.sl (.own 5) 6 (r_st_GMiss a4)]), (5, .row 76 6 (r_st_GMiss a4).length), (6, .box 101 [.func 42 [] [.ptr 0 0, .ptr 2 0, .ptr 4 0, .ptr 6 0]])] [(0, .box 74 [.sl .ro 1 (r_sl_st_GInst r.1)]), (2, .box 26 [.mv 3 r.2.1.v .hdr]), (3, .arr 28 5 r.2.1.v (encs r.2.1.l)), (4, .box 71 [.sl (.own 5) 6 (r_st_GMiss r.2.2)]), (5, .row 76 6 (r_st_GMiss r.2.2).length), (6, .box 101 [.func 42 [] [.ptr 0 0, .ptr 2 0, .ptr 4 0, .ptr 6 0]])] (.tup []) := by
 induction n using Nat.strongRecOn with
 | _ n ih =>
  intro a0 a1 a2 a3 a4 r hr
  exact w_f77_0_2_3_4_5_6_a n (fun m a0 a1 a2 a3 a4 r h hm => ih m hm a0 a1 a2 a3 a4 r h) a0 a1 a2 a3 a4 r hr

def s_f44 (n : Nat) (a0 : List (List GInst)) (a1 : Val) : Option (List Val × List GMiss) :=
  ((s_f77 n 0 a1 a0 (Ar.mk 0 []) []).bind fun q1 => some (q1.2.1.l, q1.2.2))

theorem w_f44 (n : Nat) (a0 : List (List GInst)) (a1 : Val) (r : List Val × List GMiss) (hr : s_f44 n a0 a1 = some r) : ACall Tryz.prog 21 [.sl .ro 1 (r_sl_st_GInst a0), .agg (valC a1)] (.tup [.sl .ro 5 (encs r.1), .sl .ro 6 (r_st_GMiss r.2)]) := by
 refine ACall.go [(0, .sl .ro 1 (r_sl_st_GInst a0)), (1, .agg (valC a1))] Tryz.func21 rfl Tryz.ntmps21 rfl rfl (by simp) ?_
 rw [s_f44] at hr
 refine AW.seq (Rg ?_)
 refine AL.bx good (d := 2) (l := [.sl .ro 1 (r_sl_st_GInst a0)]) rfl rfl rfl rfl rfl rfl 0 rfl ?_
 refine AL.bx good (d := 3) (l := [.int .i64 a1.kind, .int .i64 a1.i, .bool a1.b, .str a1.s, .sl .ro 5 (encs a1.t)]) rfl rfl rfl rfl rfl rfl 1 rfl ?_
 refine Av (.sl .nil 0 []) rfl ?_
 refine Av (.sl .nil 0 []) rfl ?_
 refine AW.seq (Rg ?_)
 refine AL.alc good (d := 6) rfl rfl rfl rfl rfl 2 rfl ?_
 refine AW.adoptM 2 rfl 0 rfl 3 5 28 rfl rfl ?_
 refine AW.seq (Rg ?_)
 refine AL.alc good (d := 7) rfl rfl rfl rfl rfl 4 rfl ?_
 refine AW.adoptB 4 rfl 0 rfl 5 6 76 rfl rfl ?_
 refine AW.seq (Rg ?_)
 refine AL.alc good (d := 8) rfl rfl rfl rfl rfl 6 rfl ?_
 refine AW.seq (Rg ?_)
 refine Av (.func 42 [] [.ptr 0 0, .ptr 2 0, .ptr 4 0, .ptr 6 0]) rfl ?_
 refine AL.st2 good (c2 := [.func 42 [] [.ptr 0 0, .ptr 2 0, .ptr 4 0, .ptr 6 0]]) rfl rfl rfl rfl rfl rfl rfl rfl rfl rfl rfl rfl ?_
 refine AW.seq (Rg ?_)
 refine Av (.func 42 [] [.ptr 0 0, .ptr 2 0, .ptr 4 0, .ptr 6 0]) rfl ?_
 refine Av (.agg [.int .i64 a1.kind, .int .i64 a1.i, .bool a1.b, .str a1.s, .sl .ro 5 (encs a1.t)]) rfl ?_
 obtain ⟨q1, h2, hr⟩ := bnd1 hr
 refine AL.clW good (d := 12) (xs := [.int .i64 0, .agg (valC a1), .ptr 0 0, .ptr 2 0, .ptr 4 0, .ptr 6 0]) (rd := [(0, .box 74 [.sl .ro 1 (r_sl_st_GInst a0)]), (2, .box 26 [.mv 3 (((Ar.mk 0 [])).v) .hdr]), (3, .arr 28 5 (((Ar.mk 0 [])).v) (encs (((Ar.mk 0 [])).l))), (4, .box 71 [.sl (.own 5) 6 (r_st_GMiss [])]), (5, .row 76 6 (r_st_GMiss []).length), (6, .box 101 [.func 42 [] [.ptr 0 0, .ptr 2 0, .ptr 4 0, .ptr 6 0]])]) (up := [(0, .box 74 [.sl .ro 1 (r_sl_st_GInst q1.1)]), (2, .box 26 [.mv 3 q1.2.1.v .hdr]), (3, .arr 28 5 q1.2.1.v (encs q1.2.1.l)), (4, .box 71 [.sl (.own 5) 6 (r_st_GMiss q1.2.2)]), (5, .row 76 6 (r_st_GMiss q1.2.2).length), (6, .box 101 [.func 42 [] [.ptr 0 0, .ptr 2 0, .ptr 4 0, .ptr 6 0]])]) (res := .tup []) rfl rfl rfl rfl rfl rfl rfl (w_f77_0_2_3_4_5_6 _ _ _ _ _ _ _ h2) ⟨(Wv.refl _), (Wv.refl _), (Wv.refl _), (Wv.refl _), (Wv.refl _), (Wv.refl _), trivial⟩ (fmc ⟨rfl, (fmc ⟨rfl, (fmc ⟨rfl, (fmc ⟨rfl, (fmc ⟨rfl, (fmc ⟨rfl, (fun _ h => by cases h)⟩)⟩)⟩)⟩)⟩)⟩) (fmc ⟨⟨_, .head _⟩, (fmc ⟨⟨_, .tail _ (.head _)⟩, (fmc ⟨⟨_, .tail _ (.tail _ (.head _))⟩, (fmc ⟨⟨_, .tail _ (.tail _ (.tail _ (.head _)))⟩, (fmc ⟨⟨_, .tail _ (.tail _ (.tail _ (.tail _ (.head _))))⟩, (fmc ⟨⟨_, .tail _ (.tail _ (.tail _ (.tail _ (.tail _ (.head _)))))⟩, (fun _ h => by cases h)⟩)⟩)⟩)⟩)⟩)⟩) rfl rfl ?_
 refine AW.seq ?_
 refine AW.drawc (M := fun i => ⟨false, bif Nat.beq i 0 then some { ids := [2] } else bif Nat.beq i 1 then some { ids := [4] } else none⟩) good.wide (by kernel_rfl) ?_
 refine AL.vc good (d := 13) (v := .mv 3 q1.2.1.v .hdr) rfl rfl rfl rfl rfl rfl (fmc ⟨.head _, (fun _ h => by cases h)⟩) ?_
 refine AL.vc good (d := 14) (v := .sl (.own 5) 6 (r_st_GMiss q1.2.2)) rfl rfl rfl rfl rfl rfl (fmc ⟨.head _, (fun _ h => by cases h)⟩) ?_
 refine Av (nc := ⟨rfl⟩) (.mv 3 q1.2.1.v .hdr) rfl ?_
 refine Av (nc := ⟨rfl⟩) (.sl (.own 5) 6 (r_st_GMiss q1.2.2)) rfl ?_
 refine AW.ret ?_
 obtain rfl := Option.some.inj hr
 exact RetQ.mk good (.inr rfl) rfl rfl ⟨(wk_mv rfl (puR_pure _ (encs_pure _ _))), (wk_own (r_st_GMiss_pure _ _)), trivial⟩

end
end Go.Proofs.YtbcjcekoonebiaaGreat.Tl

set_option linter.unusedVariables false
set_option linter.unusedSimpArgs false
namespace Go.Proofs.YtbcjcekoonebiaaGreat.Tl
open Go Go.RowKit
def s_f36 (n : Nat)  : Option Bool :=
  ((s_f40 n [(GInst.mk ⟨#[120]⟩ (Val.mk 0 0 false ⟨#[]⟩ []) 0), (GInst.mk ⟨#[120]⟩ (Val.mk 0 0 false ⟨#[]⟩ []) 0), (GInst.mk ⟨#[101, 109, 105, 116]⟩ (Val.mk 0 0 false ⟨#[]⟩ []) 2), (GInst.mk ⟨#[114, 101, 116]⟩ (Val.mk 0 0 false ⟨#[]⟩ []) 0)] (Val.mk 1 3 false ⟨#[]⟩ [])).bind fun q1 => ((s_f44 n [[(GInst.mk ⟨#[120]⟩ (Val.mk 0 0 false ⟨#[]⟩ []) 0), (GInst.mk ⟨#[120]⟩ (Val.mk 0 0 false ⟨#[]⟩ []) 0), (GInst.mk ⟨#[101, 109, 105, 116]⟩ (Val.mk 0 0 false ⟨#[]⟩ []) 2), (GInst.mk ⟨#[114, 101, 116]⟩ (Val.mk 0 0 false ⟨#[]⟩ []) 0)], [(GInst.mk ⟨#[112, 117, 115, 104]⟩ (Val.mk 1 6 false ⟨#[]⟩ []) 0), (GInst.mk ⟨#[120]⟩ (Val.mk 0 0 false ⟨#[]⟩ []) 0), (GInst.mk ⟨#[100, 105, 118]⟩ (Val.mk 0 0 false ⟨#[]⟩ []) 0), (GInst.mk ⟨#[101, 109, 105, 116]⟩ (Val.mk 0 0 false ⟨#[]⟩ []) 1), (GInst.mk ⟨#[114, 101, 116]⟩ (Val.mk 0 0 false ⟨#[]⟩ []) 0)]] (Val.mk 1 3 false ⟨#[]⟩ [])).bind fun q3 => ((s_f44 n [[(GInst.mk ⟨#[112, 117, 115, 104]⟩ (Val.mk 1 6 false ⟨#[]⟩ []) 0), (GInst.mk ⟨#[120]⟩ (Val.mk 0 0 false ⟨#[]⟩ []) 0), (GInst.mk ⟨#[100, 105, 118]⟩ (Val.mk 0 0 false ⟨#[]⟩ []) 0), (GInst.mk ⟨#[101, 109, 105, 116]⟩ (Val.mk 0 0 false ⟨#[]⟩ []) 1), (GInst.mk ⟨#[114, 101, 116]⟩ (Val.mk 0 0 false ⟨#[]⟩ []) 0)]] (Val.mk 1 0 false ⟨#[]⟩ [])).bind fun q5 => ((s_f40 n [(GInst.mk ⟨#[112, 117, 115, 104]⟩ (Val.mk 1 6 false ⟨#[]⟩ []) 0), (GInst.mk ⟨#[120]⟩ (Val.mk 0 0 false ⟨#[]⟩ []) 0), (GInst.mk ⟨#[100, 105, 118]⟩ (Val.mk 0 0 false ⟨#[]⟩ []) 0), (GInst.mk ⟨#[101, 109, 105, 116]⟩ (Val.mk 0 0 false ⟨#[]⟩ []) 1), (GInst.mk ⟨#[114, 101, 116]⟩ (Val.mk 0 0 false ⟨#[]⟩ []) 0)] (Val.mk 1 0 false ⟨#[]⟩ [])).bind fun q7 => (bif (q1.2 == 0) then (bif ((q1.1.length : Int) == 2) then (bif ((q3.1.length : Int) == 2) then ((q3.1[1]?).bind fun x12 => (bif (x12.i == 2) then (bif ((q3.2.length : Int) == 0) then (bif ((q5.2.length : Int) == 1) then ((q5.2[0]?).bind fun x17 => (bif (x17.f0 == 0) then ((q5.2[0]?).bind fun x20 => (bif (x20.f1.kind == 1) then some (q7.2 == 8) else some false)) else some false)) else some false) else some false) else some false)) else some false) else some false) else some false)))))

section
attribute [local simp] pureA pureL pureR inA inL inR inO idsIn encs_pure enxs_pure enys_pure valC_pure exC_pure tyC_pure r_int_u8_pure r_st_GInst_pure r_sl_st_GInst_pure r_st_GMiss_pure
theorem w_f36 (n : Nat)  (r : Bool) (hr : s_f36 n  = some r) : ACall Tryz.prog 4 [] (.bool r) := by
 refine ACall.go [] Tryz.func4 rfl Tryz.ntmps4 rfl rfl (by simp) ?_
 rw [s_f36] at hr
 refine AW.seq (Rg ?_)
 refine Av (.bool false) rfl ?_
 refine AW.seq (Rg ?_)
 refine AL.bld good (d := 11) (l := [.str ⟨#[120]⟩, .int .i64 0, .int .i64 0, .bool false, .str ⟨#[]⟩, .sl .nil 0 [], .int .i64 0]) rfl rfl rfl rfl rfl rfl rfl ?_
 refine AL.bld good (d := 12) (l := [.str ⟨#[120]⟩, .int .i64 0, .int .i64 0, .bool false, .str ⟨#[]⟩, .sl .nil 0 [], .int .i64 0]) rfl rfl rfl rfl rfl rfl rfl ?_
 refine AL.bld good (d := 13) (l := [.str ⟨#[101, 109, 105, 116]⟩, .int .i64 0, .int .i64 0, .bool false, .str ⟨#[]⟩, .sl .nil 0 [], .int .i64 2]) rfl rfl rfl rfl rfl rfl rfl ?_
 refine AL.bld good (d := 14) (l := [.str ⟨#[114, 101, 116]⟩, .int .i64 0, .int .i64 0, .bool false, .str ⟨#[]⟩, .sl .nil 0 [], .int .i64 0]) rfl rfl rfl rfl rfl rfl rfl ?_
 refine AL.lit good (d := 15) (rows := [[.str ⟨#[120]⟩, .int .i64 0, .int .i64 0, .bool false, .str ⟨#[]⟩, .sl .nil 0 [], .int .i64 0], [.str ⟨#[120]⟩, .int .i64 0, .int .i64 0, .bool false, .str ⟨#[]⟩, .sl .nil 0 [], .int .i64 0], [.str ⟨#[101, 109, 105, 116]⟩, .int .i64 0, .int .i64 0, .bool false, .str ⟨#[]⟩, .sl .nil 0 [], .int .i64 2], [.str ⟨#[114, 101, 116]⟩, .int .i64 0, .int .i64 0, .bool false, .str ⟨#[]⟩, .sl .nil 0 [], .int .i64 0]]) rfl rfl rfl rfl rfl rfl rfl rfl rfl 0 rfl ?_
 refine Av (.sl (.own 0) 7 [[.str ⟨#[120]⟩, .int .i64 0, .int .i64 0, .bool false, .str ⟨#[]⟩, .sl .nil 0 [], .int .i64 0], [.str ⟨#[120]⟩, .int .i64 0, .int .i64 0, .bool false, .str ⟨#[]⟩, .sl .nil 0 [], .int .i64 0], [.str ⟨#[101, 109, 105, 116]⟩, .int .i64 0, .int .i64 0, .bool false, .str ⟨#[]⟩, .sl .nil 0 [], .int .i64 2], [.str ⟨#[114, 101, 116]⟩, .int .i64 0, .int .i64 0, .bool false, .str ⟨#[]⟩, .sl .nil 0 [], .int .i64 0]]) rfl ?_
 refine AW.seq (Rg ?_)
 refine AL.cw good (d := 16) (xs := [.int .i64 6]) (res := .agg [.int .i64 1, .int .i64 6, .bool false, .str ⟨#[]⟩, .sl .ro 5 (encs [])]) rfl rfl rfl rfl rfl rfl rfl (w_f28 6) ⟨(Wv.refl _), trivial⟩ (by simp) ?_
 refine AL.bld good (d := 17) (l := [.str ⟨#[112, 117, 115, 104]⟩, .int .i64 1, .int .i64 6, .bool false, .str ⟨#[]⟩, .sl .ro 5 (encs []), .int .i64 0]) rfl rfl rfl rfl rfl rfl rfl ?_
 refine AL.bld good (d := 18) (l := [.str ⟨#[120]⟩, .int .i64 0, .int .i64 0, .bool false, .str ⟨#[]⟩, .sl .nil 0 [], .int .i64 0]) rfl rfl rfl rfl rfl rfl rfl ?_
 refine AL.bld good (d := 19) (l := [.str ⟨#[100, 105, 118]⟩, .int .i64 0, .int .i64 0, .bool false, .str ⟨#[]⟩, .sl .nil 0 [], .int .i64 0]) rfl rfl rfl rfl rfl rfl rfl ?_
 refine AL.bld good (d := 20) (l := [.str ⟨#[101, 109, 105, 116]⟩, .int .i64 0, .int .i64 0, .bool false, .str ⟨#[]⟩, .sl .nil 0 [], .int .i64 1]) rfl rfl rfl rfl rfl rfl rfl ?_
 refine AL.bld good (d := 21) (l := [.str ⟨#[114, 101, 116]⟩, .int .i64 0, .int .i64 0, .bool false, .str ⟨#[]⟩, .sl .nil 0 [], .int .i64 0]) rfl rfl rfl rfl rfl rfl rfl ?_
 refine AL.lit good (d := 22) (rows := [[.str ⟨#[112, 117, 115, 104]⟩, .int .i64 1, .int .i64 6, .bool false, .str ⟨#[]⟩, .sl .ro 5 (encs []), .int .i64 0], [.str ⟨#[120]⟩, .int .i64 0, .int .i64 0, .bool false, .str ⟨#[]⟩, .sl .nil 0 [], .int .i64 0], [.str ⟨#[100, 105, 118]⟩, .int .i64 0, .int .i64 0, .bool false, .str ⟨#[]⟩, .sl .nil 0 [], .int .i64 0], [.str ⟨#[101, 109, 105, 116]⟩, .int .i64 0, .int .i64 0, .bool false, .str ⟨#[]⟩, .sl .nil 0 [], .int .i64 1], [.str ⟨#[114, 101, 116]⟩, .int .i64 0, .int .i64 0, .bool false, .str ⟨#[]⟩, .sl .nil 0 [], .int .i64 0]]) rfl rfl rfl rfl rfl rfl rfl rfl rfl 1 rfl ?_
 refine Av (.sl (.own 1) 7 [[.str ⟨#[112, 117, 115, 104]⟩, .int .i64 1, .int .i64 6, .bool false, .str ⟨#[]⟩, .sl .ro 5 (encs []), .int .i64 0], [.str ⟨#[120]⟩, .int .i64 0, .int .i64 0, .bool false, .str ⟨#[]⟩, .sl .nil 0 [], .int .i64 0], [.str ⟨#[100, 105, 118]⟩, .int .i64 0, .int .i64 0, .bool false, .str ⟨#[]⟩, .sl .nil 0 [], .int .i64 0], [.str ⟨#[101, 109, 105, 116]⟩, .int .i64 0, .int .i64 0, .bool false, .str ⟨#[]⟩, .sl .nil 0 [], .int .i64 1], [.str ⟨#[114, 101, 116]⟩, .int .i64 0, .int .i64 0, .bool false, .str ⟨#[]⟩, .sl .nil 0 [], .int .i64 0]]) rfl ?_
 refine AW.seq (Rg ?_)
 refine Av (.sl (.own 0) 7 [[.str ⟨#[120]⟩, .int .i64 0, .int .i64 0, .bool false, .str ⟨#[]⟩, .sl .nil 0 [], .int .i64 0], [.str ⟨#[120]⟩, .int .i64 0, .int .i64 0, .bool false, .str ⟨#[]⟩, .sl .nil 0 [], .int .i64 0], [.str ⟨#[101, 109, 105, 116]⟩, .int .i64 0, .int .i64 0, .bool false, .str ⟨#[]⟩, .sl .nil 0 [], .int .i64 2], [.str ⟨#[114, 101, 116]⟩, .int .i64 0, .int .i64 0, .bool false, .str ⟨#[]⟩, .sl .nil 0 [], .int .i64 0]]) rfl ?_
 refine AL.cw good (d := 25) (xs := [.int .i64 3]) (res := .agg [.int .i64 1, .int .i64 3, .bool false, .str ⟨#[]⟩, .sl .ro 5 (encs [])]) rfl rfl rfl rfl rfl rfl rfl (w_f28 3) ⟨(Wv.refl _), trivial⟩ (by simp) ?_
 obtain ⟨q1, h2, hr⟩ := bnd1 hr
 refine AL.cw good (d := 26) (xs := [.sl .ro 7 (r_st_GInst [(GInst.mk ⟨#[120]⟩ (Val.mk 0 0 false ⟨#[]⟩ []) 0), (GInst.mk ⟨#[120]⟩ (Val.mk 0 0 false ⟨#[]⟩ []) 0), (GInst.mk ⟨#[101, 109, 105, 116]⟩ (Val.mk 0 0 false ⟨#[]⟩ []) 2), (GInst.mk ⟨#[114, 101, 116]⟩ (Val.mk 0 0 false ⟨#[]⟩ []) 0)]), .agg (valC (Val.mk 1 3 false ⟨#[]⟩ []))]) (res := .tup [.sl .ro 5 (encs q1.1), .int .i64 q1.2]) rfl rfl rfl rfl rfl rfl rfl (w_f40 _ _ _ _ h2) ⟨⟨.inr rfl, ⟨⟨Wv.refl _, Wv.refl _, Wv.refl _, Wv.refl _, Wv.refl _, ⟨.inr rfl, trivial, .inr rfl⟩, Wv.refl _, trivial⟩, ⟨Wv.refl _, Wv.refl _, Wv.refl _, Wv.refl _, Wv.refl _, ⟨.inr rfl, trivial, .inr rfl⟩, Wv.refl _, trivial⟩, ⟨Wv.refl _, Wv.refl _, Wv.refl _, Wv.refl _, Wv.refl _, ⟨.inr rfl, trivial, .inr rfl⟩, Wv.refl _, trivial⟩, ⟨Wv.refl _, Wv.refl _, Wv.refl _, Wv.refl _, Wv.refl _, ⟨.inr rfl, trivial, .inr rfl⟩, Wv.refl _, trivial⟩, trivial⟩, .inl rfl⟩, (Wv.refl _), trivial⟩ (by simp) ?_
 refine Av (.tup [.sl .ro 5 (encs q1.1), .int .i64 q1.2]) rfl ?_
 refine Av (.sl .ro 5 (encs q1.1)) rfl ?_
 refine Av (.int .i64 q1.2) rfl ?_
 refine Av (.sl .ro 5 (encs q1.1)) rfl ?_
 refine Av (.int .i64 q1.2) rfl ?_
 refine AW.seq (Rg ?_)
 refine Av (.sl (.own 0) 7 [[.str ⟨#[120]⟩, .int .i64 0, .int .i64 0, .bool false, .str ⟨#[]⟩, .sl .nil 0 [], .int .i64 0], [.str ⟨#[120]⟩, .int .i64 0, .int .i64 0, .bool false, .str ⟨#[]⟩, .sl .nil 0 [], .int .i64 0], [.str ⟨#[101, 109, 105, 116]⟩, .int .i64 0, .int .i64 0, .bool false, .str ⟨#[]⟩, .sl .nil 0 [], .int .i64 2], [.str ⟨#[114, 101, 116]⟩, .int .i64 0, .int .i64 0, .bool false, .str ⟨#[]⟩, .sl .nil 0 [], .int .i64 0]]) rfl ?_
 refine Av (.sl (.own 1) 7 [[.str ⟨#[112, 117, 115, 104]⟩, .int .i64 1, .int .i64 6, .bool false, .str ⟨#[]⟩, .sl .ro 5 (encs []), .int .i64 0], [.str ⟨#[120]⟩, .int .i64 0, .int .i64 0, .bool false, .str ⟨#[]⟩, .sl .nil 0 [], .int .i64 0], [.str ⟨#[100, 105, 118]⟩, .int .i64 0, .int .i64 0, .bool false, .str ⟨#[]⟩, .sl .nil 0 [], .int .i64 0], [.str ⟨#[101, 109, 105, 116]⟩, .int .i64 0, .int .i64 0, .bool false, .str ⟨#[]⟩, .sl .nil 0 [], .int .i64 1], [.str ⟨#[114, 101, 116]⟩, .int .i64 0, .int .i64 0, .bool false, .str ⟨#[]⟩, .sl .nil 0 [], .int .i64 0]]) rfl ?_
 refine AL.lit good (d := 32) (rows := [[.sl (.own 0) 7 [[.str ⟨#[120]⟩, .int .i64 0, .int .i64 0, .bool false, .str ⟨#[]⟩, .sl .nil 0 [], .int .i64 0], [.str ⟨#[120]⟩, .int .i64 0, .int .i64 0, .bool false, .str ⟨#[]⟩, .sl .nil 0 [], .int .i64 0], [.str ⟨#[101, 109, 105, 116]⟩, .int .i64 0, .int .i64 0, .bool false, .str ⟨#[]⟩, .sl .nil 0 [], .int .i64 2], [.str ⟨#[114, 101, 116]⟩, .int .i64 0, .int .i64 0, .bool false, .str ⟨#[]⟩, .sl .nil 0 [], .int .i64 0]]], [.sl (.own 1) 7 [[.str ⟨#[112, 117, 115, 104]⟩, .int .i64 1, .int .i64 6, .bool false, .str ⟨#[]⟩, .sl .ro 5 (encs []), .int .i64 0], [.str ⟨#[120]⟩, .int .i64 0, .int .i64 0, .bool false, .str ⟨#[]⟩, .sl .nil 0 [], .int .i64 0], [.str ⟨#[100, 105, 118]⟩, .int .i64 0, .int .i64 0, .bool false, .str ⟨#[]⟩, .sl .nil 0 [], .int .i64 0], [.str ⟨#[101, 109, 105, 116]⟩, .int .i64 0, .int .i64 0, .bool false, .str ⟨#[]⟩, .sl .nil 0 [], .int .i64 1], [.str ⟨#[114, 101, 116]⟩, .int .i64 0, .int .i64 0, .bool false, .str ⟨#[]⟩, .sl .nil 0 [], .int .i64 0]]]]) rfl rfl rfl rfl rfl rfl rfl rfl rfl 2 rfl ?_
 refine AL.cw good (d := 33) (xs := [.int .i64 3]) (res := .agg [.int .i64 1, .int .i64 3, .bool false, .str ⟨#[]⟩, .sl .ro 5 (encs [])]) rfl rfl rfl rfl rfl rfl rfl (w_f28 3) ⟨(Wv.refl _), trivial⟩ (by simp) ?_
 obtain ⟨q3, h4, hr⟩ := bnd1 hr
 refine AL.cw good (d := 34) (xs := [.sl .ro 1 (r_sl_st_GInst [[(GInst.mk ⟨#[120]⟩ (Val.mk 0 0 false ⟨#[]⟩ []) 0), (GInst.mk ⟨#[120]⟩ (Val.mk 0 0 false ⟨#[]⟩ []) 0), (GInst.mk ⟨#[101, 109, 105, 116]⟩ (Val.mk 0 0 false ⟨#[]⟩ []) 2), (GInst.mk ⟨#[114, 101, 116]⟩ (Val.mk 0 0 false ⟨#[]⟩ []) 0)], [(GInst.mk ⟨#[112, 117, 115, 104]⟩ (Val.mk 1 6 false ⟨#[]⟩ []) 0), (GInst.mk ⟨#[120]⟩ (Val.mk 0 0 false ⟨#[]⟩ []) 0), (GInst.mk ⟨#[100, 105, 118]⟩ (Val.mk 0 0 false ⟨#[]⟩ []) 0), (GInst.mk ⟨#[101, 109, 105, 116]⟩ (Val.mk 0 0 false ⟨#[]⟩ []) 1), (GInst.mk ⟨#[114, 101, 116]⟩ (Val.mk 0 0 false ⟨#[]⟩ []) 0)]]), .agg (valC (Val.mk 1 3 false ⟨#[]⟩ []))]) (res := .tup [.sl .ro 5 (encs q3.1), .sl .ro 6 (r_st_GMiss q3.2)]) rfl rfl rfl rfl rfl rfl rfl (w_f44 _ _ _ _ h4) ⟨⟨.inr rfl, ⟨⟨⟨.inr rfl, ⟨⟨Wv.refl _, Wv.refl _, Wv.refl _, Wv.refl _, Wv.refl _, ⟨.inr rfl, trivial, .inr rfl⟩, Wv.refl _, trivial⟩, ⟨Wv.refl _, Wv.refl _, Wv.refl _, Wv.refl _, Wv.refl _, ⟨.inr rfl, trivial, .inr rfl⟩, Wv.refl _, trivial⟩, ⟨Wv.refl _, Wv.refl _, Wv.refl _, Wv.refl _, Wv.refl _, ⟨.inr rfl, trivial, .inr rfl⟩, Wv.refl _, trivial⟩, ⟨Wv.refl _, Wv.refl _, Wv.refl _, Wv.refl _, Wv.refl _, ⟨.inr rfl, trivial, .inr rfl⟩, Wv.refl _, trivial⟩, trivial⟩, .inl rfl⟩, trivial⟩, ⟨⟨.inr rfl, ⟨⟨Wv.refl _, Wv.refl _, Wv.refl _, Wv.refl _, Wv.refl _, Wv.refl _, Wv.refl _, trivial⟩, ⟨Wv.refl _, Wv.refl _, Wv.refl _, Wv.refl _, Wv.refl _, ⟨.inr rfl, trivial, .inr rfl⟩, Wv.refl _, trivial⟩, ⟨Wv.refl _, Wv.refl _, Wv.refl _, Wv.refl _, Wv.refl _, ⟨.inr rfl, trivial, .inr rfl⟩, Wv.refl _, trivial⟩, ⟨Wv.refl _, Wv.refl _, Wv.refl _, Wv.refl _, Wv.refl _, ⟨.inr rfl, trivial, .inr rfl⟩, Wv.refl _, trivial⟩, ⟨Wv.refl _, Wv.refl _, Wv.refl _, Wv.refl _, Wv.refl _, ⟨.inr rfl, trivial, .inr rfl⟩, Wv.refl _, trivial⟩, trivial⟩, .inl rfl⟩, trivial⟩, trivial⟩, .inl rfl⟩, (Wv.refl _), trivial⟩ (by simp) ?_
 refine Av (.tup [.sl .ro 5 (encs q3.1), .sl .ro 6 (r_st_GMiss q3.2)]) rfl ?_
 refine Av (.sl .ro 5 (encs q3.1)) rfl ?_
 refine Av (.sl .ro 6 (r_st_GMiss q3.2)) rfl ?_
 refine Av (.sl .ro 5 (encs q3.1)) rfl ?_
 refine Av (.sl .ro 6 (r_st_GMiss q3.2)) rfl ?_
 refine AW.seq (Rg ?_)
 refine Av (.sl (.own 1) 7 [[.str ⟨#[112, 117, 115, 104]⟩, .int .i64 1, .int .i64 6, .bool false, .str ⟨#[]⟩, .sl .ro 5 (encs []), .int .i64 0], [.str ⟨#[120]⟩, .int .i64 0, .int .i64 0, .bool false, .str ⟨#[]⟩, .sl .nil 0 [], .int .i64 0], [.str ⟨#[100, 105, 118]⟩, .int .i64 0, .int .i64 0, .bool false, .str ⟨#[]⟩, .sl .nil 0 [], .int .i64 0], [.str ⟨#[101, 109, 105, 116]⟩, .int .i64 0, .int .i64 0, .bool false, .str ⟨#[]⟩, .sl .nil 0 [], .int .i64 1], [.str ⟨#[114, 101, 116]⟩, .int .i64 0, .int .i64 0, .bool false, .str ⟨#[]⟩, .sl .nil 0 [], .int .i64 0]]) rfl ?_
 refine AL.lit good (d := 39) (rows := [[.sl (.own 1) 7 [[.str ⟨#[112, 117, 115, 104]⟩, .int .i64 1, .int .i64 6, .bool false, .str ⟨#[]⟩, .sl .ro 5 (encs []), .int .i64 0], [.str ⟨#[120]⟩, .int .i64 0, .int .i64 0, .bool false, .str ⟨#[]⟩, .sl .nil 0 [], .int .i64 0], [.str ⟨#[100, 105, 118]⟩, .int .i64 0, .int .i64 0, .bool false, .str ⟨#[]⟩, .sl .nil 0 [], .int .i64 0], [.str ⟨#[101, 109, 105, 116]⟩, .int .i64 0, .int .i64 0, .bool false, .str ⟨#[]⟩, .sl .nil 0 [], .int .i64 1], [.str ⟨#[114, 101, 116]⟩, .int .i64 0, .int .i64 0, .bool false, .str ⟨#[]⟩, .sl .nil 0 [], .int .i64 0]]]]) rfl rfl rfl rfl rfl rfl rfl rfl rfl 3 rfl ?_
 refine AL.cw good (d := 40) (xs := [.int .i64 0]) (res := .agg [.int .i64 1, .int .i64 0, .bool false, .str ⟨#[]⟩, .sl .ro 5 (encs [])]) rfl rfl rfl rfl rfl rfl rfl (w_f28 0) ⟨(Wv.refl _), trivial⟩ (by simp) ?_
 obtain ⟨q5, h6, hr⟩ := bnd1 hr
 refine AL.cw good (d := 41) (xs := [.sl .ro 1 (r_sl_st_GInst [[(GInst.mk ⟨#[112, 117, 115, 104]⟩ (Val.mk 1 6 false ⟨#[]⟩ []) 0), (GInst.mk ⟨#[120]⟩ (Val.mk 0 0 false ⟨#[]⟩ []) 0), (GInst.mk ⟨#[100, 105, 118]⟩ (Val.mk 0 0 false ⟨#[]⟩ []) 0), (GInst.mk ⟨#[101, 109, 105, 116]⟩ (Val.mk 0 0 false ⟨#[]⟩ []) 1), (GInst.mk ⟨#[114, 101, 116]⟩ (Val.mk 0 0 false ⟨#[]⟩ []) 0)]]), .agg (valC (Val.mk 1 0 false ⟨#[]⟩ []))]) (res := .tup [.sl .ro 5 (encs q5.1), .sl .ro 6 (r_st_GMiss q5.2)]) rfl rfl rfl rfl rfl rfl rfl (w_f44 _ _ _ _ h6) ⟨⟨.inr rfl, ⟨⟨⟨.inr rfl, ⟨⟨Wv.refl _, Wv.refl _, Wv.refl _, Wv.refl _, Wv.refl _, Wv.refl _, Wv.refl _, trivial⟩, ⟨Wv.refl _, Wv.refl _, Wv.refl _, Wv.refl _, Wv.refl _, ⟨.inr rfl, trivial, .inr rfl⟩, Wv.refl _, trivial⟩, ⟨Wv.refl _, Wv.refl _, Wv.refl _, Wv.refl _, Wv.refl _, ⟨.inr rfl, trivial, .inr rfl⟩, Wv.refl _, trivial⟩, ⟨Wv.refl _, Wv.refl _, Wv.refl _, Wv.refl _, Wv.refl _, ⟨.inr rfl, trivial, .inr rfl⟩, Wv.refl _, trivial⟩, ⟨Wv.refl _, Wv.refl _, Wv.refl _, Wv.refl _, Wv.refl _, ⟨.inr rfl, trivial, .inr rfl⟩, Wv.refl _, trivial⟩, trivial⟩, .inl rfl⟩, trivial⟩, trivial⟩, .inl rfl⟩, (Wv.refl _), trivial⟩ (by simp) ?_
 refine Av (.tup [.sl .ro 5 (encs q5.1), .sl .ro 6 (r_st_GMiss q5.2)]) rfl ?_
 refine Av (.sl .ro 5 (encs q5.1)) rfl ?_
 refine Av (.sl .ro 6 (r_st_GMiss q5.2)) rfl ?_
 refine Av (.sl .ro 5 (encs q5.1)) rfl ?_
 refine Av (.sl .ro 6 (r_st_GMiss q5.2)) rfl ?_
 refine AW.seq (Rg ?_)
 refine Av (.sl (.own 1) 7 [[.str ⟨#[112, 117, 115, 104]⟩, .int .i64 1, .int .i64 6, .bool false, .str ⟨#[]⟩, .sl .ro 5 (encs []), .int .i64 0], [.str ⟨#[120]⟩, .int .i64 0, .int .i64 0, .bool false, .str ⟨#[]⟩, .sl .nil 0 [], .int .i64 0], [.str ⟨#[100, 105, 118]⟩, .int .i64 0, .int .i64 0, .bool false, .str ⟨#[]⟩, .sl .nil 0 [], .int .i64 0], [.str ⟨#[101, 109, 105, 116]⟩, .int .i64 0, .int .i64 0, .bool false, .str ⟨#[]⟩, .sl .nil 0 [], .int .i64 1], [.str ⟨#[114, 101, 116]⟩, .int .i64 0, .int .i64 0, .bool false, .str ⟨#[]⟩, .sl .nil 0 [], .int .i64 0]]) rfl ?_
 refine AL.cw good (d := 46) (xs := [.int .i64 0]) (res := .agg [.int .i64 1, .int .i64 0, .bool false, .str ⟨#[]⟩, .sl .ro 5 (encs [])]) rfl rfl rfl rfl rfl rfl rfl (w_f28 0) ⟨(Wv.refl _), trivial⟩ (by simp) ?_
 obtain ⟨q7, h8, hr⟩ := bnd1 hr
 refine AL.cw good (d := 47) (xs := [.sl .ro 7 (r_st_GInst [(GInst.mk ⟨#[112, 117, 115, 104]⟩ (Val.mk 1 6 false ⟨#[]⟩ []) 0), (GInst.mk ⟨#[120]⟩ (Val.mk 0 0 false ⟨#[]⟩ []) 0), (GInst.mk ⟨#[100, 105, 118]⟩ (Val.mk 0 0 false ⟨#[]⟩ []) 0), (GInst.mk ⟨#[101, 109, 105, 116]⟩ (Val.mk 0 0 false ⟨#[]⟩ []) 1), (GInst.mk ⟨#[114, 101, 116]⟩ (Val.mk 0 0 false ⟨#[]⟩ []) 0)]), .agg (valC (Val.mk 1 0 false ⟨#[]⟩ []))]) (res := .tup [.sl .ro 5 (encs q7.1), .int .i64 q7.2]) rfl rfl rfl rfl rfl rfl rfl (w_f40 _ _ _ _ h8) ⟨⟨.inr rfl, ⟨⟨Wv.refl _, Wv.refl _, Wv.refl _, Wv.refl _, Wv.refl _, Wv.refl _, Wv.refl _, trivial⟩, ⟨Wv.refl _, Wv.refl _, Wv.refl _, Wv.refl _, Wv.refl _, ⟨.inr rfl, trivial, .inr rfl⟩, Wv.refl _, trivial⟩, ⟨Wv.refl _, Wv.refl _, Wv.refl _, Wv.refl _, Wv.refl _, ⟨.inr rfl, trivial, .inr rfl⟩, Wv.refl _, trivial⟩, ⟨Wv.refl _, Wv.refl _, Wv.refl _, Wv.refl _, Wv.refl _, ⟨.inr rfl, trivial, .inr rfl⟩, Wv.refl _, trivial⟩, ⟨Wv.refl _, Wv.refl _, Wv.refl _, Wv.refl _, Wv.refl _, ⟨.inr rfl, trivial, .inr rfl⟩, Wv.refl _, trivial⟩, trivial⟩, .inl rfl⟩, (Wv.refl _), trivial⟩ (by simp) ?_
 refine Av (.tup [.sl .ro 5 (encs q7.1), .int .i64 q7.2]) rfl ?_
 refine Av (.sl .ro 5 (encs q7.1)) rfl ?_
 refine Av (.int .i64 q7.2) rfl ?_
 refine Av (.sl .ro 5 (encs q7.1)) rfl ?_
 refine Av (.int .i64 q7.2) rfl ?_
 refine AW.seq (Rg ?_)
 refine Av (.int .i64 q1.2) rfl ?_
 refine Av (.bool (q1.2 == 0)) rfl ?_
 refine Av (.bool (q1.2 == 0)) rfl ?_
 refine AL.cs 52 rfl (fun h9 => ?_) (fun h9 => ?_)
 ·replace hr := cnd_t h9 hr
  refine Av (.sl .ro 5 (encs q1.1)) rfl ?_
  refine AL.ln good (d := 54) (m := q1.1.length) rfl rfl rfl rfl rfl rfl (encs_length _) ?_
  refine Av (.bool ((q1.1.length : Int) == 2)) rfl ?_
  refine Av (.bool ((q1.1.length : Int) == 2)) rfl ?_
  refine Av (.bool ((q1.1.length : Int) == 2)) rfl ?_
  refine AL.cs 57 rfl (fun h10 => ?_) (fun h10 => ?_)
  ·replace hr := cnd_t h10 hr
   refine Av (.sl .ro 5 (encs q3.1)) rfl ?_
   refine AL.ln good (d := 59) (m := q3.1.length) rfl rfl rfl rfl rfl rfl (encs_length _) ?_
   refine Av (.bool ((q3.1.length : Int) == 2)) rfl ?_
   refine Av (.bool ((q3.1.length : Int) == 2)) rfl ?_
   refine Av (.bool ((q3.1.length : Int) == 2)) rfl ?_
   refine AL.cs 62 rfl (fun h11 => ?_) (fun h11 => ?_)
   ·replace hr := cnd_t h11 hr
    refine Av (.sl .ro 5 (encs q3.1)) rfl ?_
    obtain ⟨x12, h13, hr⟩ := bnd1 hr
    refine AL.ix good (d := 64) (r := [.int .i64 x12.kind, .int .i64 x12.i, .bool x12.b, .str x12.s, .sl .ro 5 (encs x12.t)]) rfl rfl rfl rfl rfl rfl rfl (by decide) (encs_get h13) ?_
    refine Av (.ep [.int .i64 x12.i, .bool x12.b, .str x12.s, .sl .ro 5 (encs x12.t)]) rfl ?_
    refine Av (.int .i64 x12.i) rfl ?_
    refine Av (.bool (x12.i == 2)) rfl ?_
    refine Av (.bool (x12.i == 2)) rfl ?_
    refine Av (.bool (x12.i == 2)) rfl ?_
    refine AL.cs 69 rfl (fun h14 => ?_) (fun h14 => ?_)
    ·replace hr := cnd_t h14 hr
     refine Av (.sl .ro 6 (r_st_GMiss q3.2)) rfl ?_
     refine AL.ln good (d := 71) (m := q3.2.length) rfl rfl rfl rfl rfl rfl (r_st_GMiss_length _) ?_
     refine Av (.bool ((q3.2.length : Int) == 0)) rfl ?_
     refine Av (.bool ((q3.2.length : Int) == 0)) rfl ?_
     refine Av (.bool ((q3.2.length : Int) == 0)) rfl ?_
     refine AL.cs 74 rfl (fun h15 => ?_) (fun h15 => ?_)
     ·replace hr := cnd_t h15 hr
      refine Av (.sl .ro 6 (r_st_GMiss q5.2)) rfl ?_
      refine AL.ln good (d := 76) (m := q5.2.length) rfl rfl rfl rfl rfl rfl (r_st_GMiss_length _) ?_
      refine Av (.bool ((q5.2.length : Int) == 1)) rfl ?_
      refine Av (.bool ((q5.2.length : Int) == 1)) rfl ?_
      refine Av (.bool ((q5.2.length : Int) == 1)) rfl ?_
      refine AL.cs 79 rfl (fun h16 => ?_) (fun h16 => ?_)
      ·replace hr := cnd_t h16 hr
       refine Av (.sl .ro 6 (r_st_GMiss q5.2)) rfl ?_
       obtain ⟨x17, h18, hr⟩ := bnd1 hr
       refine AL.ix good (d := 81) (r := [.int .i64 x17.f0, .int .i64 x17.f1.kind, .int .i64 x17.f1.i, .bool x17.f1.b, .str x17.f1.s, .sl .ro 5 (encs x17.f1.t)]) rfl rfl rfl rfl rfl rfl rfl (by decide) (r_st_GMiss_get h18) ?_
       refine Av (.ep [.int .i64 x17.f0, .int .i64 x17.f1.kind, .int .i64 x17.f1.i, .bool x17.f1.b, .str x17.f1.s, .sl .ro 5 (encs x17.f1.t)]) rfl ?_
       refine Av (.int .i64 x17.f0) rfl ?_
       refine Av (.bool (x17.f0 == 0)) rfl ?_
       refine Av (.bool (x17.f0 == 0)) rfl ?_
       refine Av (.bool (x17.f0 == 0)) rfl ?_
       refine AL.cs 86 rfl (fun h19 => ?_) (fun h19 => ?_)
       ·replace hr := cnd_t h19 hr
        refine Av (.sl .ro 6 (r_st_GMiss q5.2)) rfl ?_
        obtain ⟨x20, h21, hr⟩ := bnd1 hr
        refine AL.ix good (d := 88) (r := [.int .i64 x20.f0, .int .i64 x20.f1.kind, .int .i64 x20.f1.i, .bool x20.f1.b, .str x20.f1.s, .sl .ro 5 (encs x20.f1.t)]) rfl rfl rfl rfl rfl rfl rfl (by decide) (r_st_GMiss_get h21) ?_
        refine Av (.ep [.int .i64 x20.f1.kind, .int .i64 x20.f1.i, .bool x20.f1.b, .str x20.f1.s, .sl .ro 5 (encs x20.f1.t)]) rfl ?_
        refine Av (.ep [.int .i64 x20.f1.kind, .int .i64 x20.f1.i, .bool x20.f1.b, .str x20.f1.s, .sl .ro 5 (encs x20.f1.t)]) rfl ?_
        refine Av (.int .i64 x20.f1.kind) rfl ?_
        refine Av (.bool (x20.f1.kind == 1)) rfl ?_
        refine Av (.bool (x20.f1.kind == 1)) rfl ?_
        refine Av (.bool (x20.f1.kind == 1)) rfl ?_
        refine AL.cs 94 rfl (fun h22 => ?_) (fun h22 => ?_)
        ·replace hr := cnd_t h22 hr
         refine Av (.int .i64 q7.2) rfl ?_
         refine Av (.bool (q7.2 == 8)) rfl ?_
         refine Av (.bool (q7.2 == 8)) rfl ?_
         refine Av (.bool (q7.2 == 8)) rfl ?_
         refine AW.ret ?_
         obtain rfl := Option.some.inj hr
         exact RetQ.w good (.inr rfl) rfl rfl (Wv.refl _) (by simp)
        ·replace hr := cnd_f h22 hr
         refine AL.sk good (d := 95) rfl rfl rfl ?_
         refine AL.sk good (d := 96) rfl rfl rfl ?_
         refine Av (.bool false) rfl ?_
         refine Av (.bool false) rfl ?_
         refine AW.ret ?_
         obtain rfl := Option.some.inj hr
         exact RetQ.w good (.inr rfl) rfl rfl (Wv.refl _) (by simp)
       ·replace hr := cnd_f h19 hr
        refine AL.sk good (d := 87) rfl rfl rfl ?_
        refine AL.sk good (d := 88) rfl rfl rfl ?_
        refine AL.sk good (d := 89) rfl rfl rfl ?_
        refine AL.sk good (d := 90) rfl rfl rfl ?_
        refine AL.sk good (d := 91) rfl rfl rfl ?_
        refine AL.sk good (d := 92) rfl rfl rfl ?_
        refine Av (.bool false) rfl ?_
        refine Av (.bool false) rfl ?_
        refine AL.sk good (d := 95) rfl rfl rfl ?_
        refine AL.sk good (d := 96) rfl rfl rfl ?_
        refine Av (.bool false) rfl ?_
        refine Av (.bool false) rfl ?_
        refine AW.ret ?_
        obtain rfl := Option.some.inj hr
        exact RetQ.w good (.inr rfl) rfl rfl (Wv.refl _) (by simp)
      ·replace hr := cnd_f h16 hr
       refine AL.sk good (d := 80) rfl rfl rfl ?_
       refine AL.sk good (d := 81) rfl rfl rfl ?_
       refine AL.sk good (d := 82) rfl rfl rfl ?_
       refine AL.sk good (d := 83) rfl rfl rfl ?_
       refine AL.sk good (d := 84) rfl rfl rfl ?_
       refine Av (.bool false) rfl ?_
       refine Av (.bool false) rfl ?_
       refine AL.sk good (d := 87) rfl rfl rfl ?_
       refine AL.sk good (d := 88) rfl rfl rfl ?_
       refine AL.sk good (d := 89) rfl rfl rfl ?_
       refine AL.sk good (d := 90) rfl rfl rfl ?_
       refine AL.sk good (d := 91) rfl rfl rfl ?_
       refine AL.sk good (d := 92) rfl rfl rfl ?_
       refine Av (.bool false) rfl ?_
       refine Av (.bool false) rfl ?_
       refine AL.sk good (d := 95) rfl rfl rfl ?_
       refine AL.sk good (d := 96) rfl rfl rfl ?_
       refine Av (.bool false) rfl ?_
       refine Av (.bool false) rfl ?_
       refine AW.ret ?_
       obtain rfl := Option.some.inj hr
       exact RetQ.w good (.inr rfl) rfl rfl (Wv.refl _) (by simp)
     ·replace hr := cnd_f h15 hr
      refine AL.sk good (d := 75) rfl rfl rfl ?_
      refine AL.sk good (d := 76) rfl rfl rfl ?_
      refine AL.sk good (d := 77) rfl rfl rfl ?_
      refine Av (.bool false) rfl ?_
      refine Av (.bool false) rfl ?_
      refine AL.sk good (d := 80) rfl rfl rfl ?_
      refine AL.sk good (d := 81) rfl rfl rfl ?_
      refine AL.sk good (d := 82) rfl rfl rfl ?_
      refine AL.sk good (d := 83) rfl rfl rfl ?_
      refine AL.sk good (d := 84) rfl rfl rfl ?_
      refine Av (.bool false) rfl ?_
      refine Av (.bool false) rfl ?_
      refine AL.sk good (d := 87) rfl rfl rfl ?_
      refine AL.sk good (d := 88) rfl rfl rfl ?_
      refine AL.sk good (d := 89) rfl rfl rfl ?_
      refine AL.sk good (d := 90) rfl rfl rfl ?_
      refine AL.sk good (d := 91) rfl rfl rfl ?_
      refine AL.sk good (d := 92) rfl rfl rfl ?_
      refine Av (.bool false) rfl ?_
      refine Av (.bool false) rfl ?_
      refine AL.sk good (d := 95) rfl rfl rfl ?_
      refine AL.sk good (d := 96) rfl rfl rfl ?_
      refine Av (.bool false) rfl ?_
      refine Av (.bool false) rfl ?_
      refine AW.ret ?_
      obtain rfl := Option.some.inj hr
      exact RetQ.w good (.inr rfl) rfl rfl (Wv.refl _) (by simp)
    ·replace hr := cnd_f h14 hr
     refine AL.sk good (d := 70) rfl rfl rfl ?_
     refine AL.sk good (d := 71) rfl rfl rfl ?_
     refine AL.sk good (d := 72) rfl rfl rfl ?_
     refine Av (.bool false) rfl ?_
     refine Av (.bool false) rfl ?_
     refine AL.sk good (d := 75) rfl rfl rfl ?_
     refine AL.sk good (d := 76) rfl rfl rfl ?_
     refine AL.sk good (d := 77) rfl rfl rfl ?_
     refine Av (.bool false) rfl ?_
     refine Av (.bool false) rfl ?_
     refine AL.sk good (d := 80) rfl rfl rfl ?_
     refine AL.sk good (d := 81) rfl rfl rfl ?_
     refine AL.sk good (d := 82) rfl rfl rfl ?_
     refine AL.sk good (d := 83) rfl rfl rfl ?_
     refine AL.sk good (d := 84) rfl rfl rfl ?_
     refine Av (.bool false) rfl ?_
     refine Av (.bool false) rfl ?_
     refine AL.sk good (d := 87) rfl rfl rfl ?_
     refine AL.sk good (d := 88) rfl rfl rfl ?_
     refine AL.sk good (d := 89) rfl rfl rfl ?_
     refine AL.sk good (d := 90) rfl rfl rfl ?_
     refine AL.sk good (d := 91) rfl rfl rfl ?_
     refine AL.sk good (d := 92) rfl rfl rfl ?_
     refine Av (.bool false) rfl ?_
     refine Av (.bool false) rfl ?_
     refine AL.sk good (d := 95) rfl rfl rfl ?_
     refine AL.sk good (d := 96) rfl rfl rfl ?_
     refine Av (.bool false) rfl ?_
     refine Av (.bool false) rfl ?_
     refine AW.ret ?_
     obtain rfl := Option.some.inj hr
     exact RetQ.w good (.inr rfl) rfl rfl (Wv.refl _) (by simp)
   ·replace hr := cnd_f h11 hr
    refine AL.sk good (d := 63) rfl rfl rfl ?_
    refine AL.sk good (d := 64) rfl rfl rfl ?_
    refine AL.sk good (d := 65) rfl rfl rfl ?_
    refine AL.sk good (d := 66) rfl rfl rfl ?_
    refine AL.sk good (d := 67) rfl rfl rfl ?_
    refine Av (.bool false) rfl ?_
    refine Av (.bool false) rfl ?_
    refine AL.sk good (d := 70) rfl rfl rfl ?_
    refine AL.sk good (d := 71) rfl rfl rfl ?_
    refine AL.sk good (d := 72) rfl rfl rfl ?_
    refine Av (.bool false) rfl ?_
    refine Av (.bool false) rfl ?_
    refine AL.sk good (d := 75) rfl rfl rfl ?_
    refine AL.sk good (d := 76) rfl rfl rfl ?_
    refine AL.sk good (d := 77) rfl rfl rfl ?_
    refine Av (.bool false) rfl ?_
    refine Av (.bool false) rfl ?_
    refine AL.sk good (d := 80) rfl rfl rfl ?_
    refine AL.sk good (d := 81) rfl rfl rfl ?_
    refine AL.sk good (d := 82) rfl rfl rfl ?_
    refine AL.sk good (d := 83) rfl rfl rfl ?_
    refine AL.sk good (d := 84) rfl rfl rfl ?_
    refine Av (.bool false) rfl ?_
    refine Av (.bool false) rfl ?_
    refine AL.sk good (d := 87) rfl rfl rfl ?_
    refine AL.sk good (d := 88) rfl rfl rfl ?_
    refine AL.sk good (d := 89) rfl rfl rfl ?_
    refine AL.sk good (d := 90) rfl rfl rfl ?_
    refine AL.sk good (d := 91) rfl rfl rfl ?_
    refine AL.sk good (d := 92) rfl rfl rfl ?_
    refine Av (.bool false) rfl ?_
    refine Av (.bool false) rfl ?_
    refine AL.sk good (d := 95) rfl rfl rfl ?_
    refine AL.sk good (d := 96) rfl rfl rfl ?_
    refine Av (.bool false) rfl ?_
    refine Av (.bool false) rfl ?_
    refine AW.ret ?_
    obtain rfl := Option.some.inj hr
    exact RetQ.w good (.inr rfl) rfl rfl (Wv.refl _) (by simp)
  ·replace hr := cnd_f h10 hr
   refine AL.sk good (d := 58) rfl rfl rfl ?_
   refine AL.sk good (d := 59) rfl rfl rfl ?_
   refine AL.sk good (d := 60) rfl rfl rfl ?_
   refine Av (.bool false) rfl ?_
   refine Av (.bool false) rfl ?_
   refine AL.sk good (d := 63) rfl rfl rfl ?_
   refine AL.sk good (d := 64) rfl rfl rfl ?_
   refine AL.sk good (d := 65) rfl rfl rfl ?_
   refine AL.sk good (d := 66) rfl rfl rfl ?_
   refine AL.sk good (d := 67) rfl rfl rfl ?_
   refine Av (.bool false) rfl ?_
   refine Av (.bool false) rfl ?_
   refine AL.sk good (d := 70) rfl rfl rfl ?_
   refine AL.sk good (d := 71) rfl rfl rfl ?_
   refine AL.sk good (d := 72) rfl rfl rfl ?_
   refine Av (.bool false) rfl ?_
   refine Av (.bool false) rfl ?_
   refine AL.sk good (d := 75) rfl rfl rfl ?_
   refine AL.sk good (d := 76) rfl rfl rfl ?_
   refine AL.sk good (d := 77) rfl rfl rfl ?_
   refine Av (.bool false) rfl ?_
   refine Av (.bool false) rfl ?_
   refine AL.sk good (d := 80) rfl rfl rfl ?_
   refine AL.sk good (d := 81) rfl rfl rfl ?_
   refine AL.sk good (d := 82) rfl rfl rfl ?_
   refine AL.sk good (d := 83) rfl rfl rfl ?_
   refine AL.sk good (d := 84) rfl rfl rfl ?_
   refine Av (.bool false) rfl ?_
   refine Av (.bool false) rfl ?_
   refine AL.sk good (d := 87) rfl rfl rfl ?_
   refine AL.sk good (d := 88) rfl rfl rfl ?_
   refine AL.sk good (d := 89) rfl rfl rfl ?_
   refine AL.sk good (d := 90) rfl rfl rfl ?_
   refine AL.sk good (d := 91) rfl rfl rfl ?_
   refine AL.sk good (d := 92) rfl rfl rfl ?_
   refine Av (.bool false) rfl ?_
   refine Av (.bool false) rfl ?_
   refine AL.sk good (d := 95) rfl rfl rfl ?_
   refine AL.sk good (d := 96) rfl rfl rfl ?_
   refine Av (.bool false) rfl ?_
   refine Av (.bool false) rfl ?_
   refine AW.ret ?_
   obtain rfl := Option.some.inj hr
   exact RetQ.w good (.inr rfl) rfl rfl (Wv.refl _) (by simp)
 ·replace hr := cnd_f h9 hr
  refine AL.sk good (d := 53) rfl rfl rfl ?_
  refine AL.sk good (d := 54) rfl rfl rfl ?_
  refine AL.sk good (d := 55) rfl rfl rfl ?_
  refine Av (.bool false) rfl ?_
  refine Av (.bool false) rfl ?_
  refine AL.sk good (d := 58) rfl rfl rfl ?_
  refine AL.sk good (d := 59) rfl rfl rfl ?_
  refine AL.sk good (d := 60) rfl rfl rfl ?_
  refine Av (.bool false) rfl ?_
  refine Av (.bool false) rfl ?_
  refine AL.sk good (d := 63) rfl rfl rfl ?_
  refine AL.sk good (d := 64) rfl rfl rfl ?_
  refine AL.sk good (d := 65) rfl rfl rfl ?_
  refine AL.sk good (d := 66) rfl rfl rfl ?_
  refine AL.sk good (d := 67) rfl rfl rfl ?_
  refine Av (.bool false) rfl ?_
  refine Av (.bool false) rfl ?_
  refine AL.sk good (d := 70) rfl rfl rfl ?_
  refine AL.sk good (d := 71) rfl rfl rfl ?_
  refine AL.sk good (d := 72) rfl rfl rfl ?_
  refine Av (.bool false) rfl ?_
  refine Av (.bool false) rfl ?_
  refine AL.sk good (d := 75) rfl rfl rfl ?_
  refine AL.sk good (d := 76) rfl rfl rfl ?_
  refine AL.sk good (d := 77) rfl rfl rfl ?_
  refine Av (.bool false) rfl ?_
  refine Av (.bool false) rfl ?_
  refine AL.sk good (d := 80) rfl rfl rfl ?_
  refine AL.sk good (d := 81) rfl rfl rfl ?_
  refine AL.sk good (d := 82) rfl rfl rfl ?_
  refine AL.sk good (d := 83) rfl rfl rfl ?_
  refine AL.sk good (d := 84) rfl rfl rfl ?_
  refine Av (.bool false) rfl ?_
  refine Av (.bool false) rfl ?_
  refine AL.sk good (d := 87) rfl rfl rfl ?_
  refine AL.sk good (d := 88) rfl rfl rfl ?_
  refine AL.sk good (d := 89) rfl rfl rfl ?_
  refine AL.sk good (d := 90) rfl rfl rfl ?_
  refine AL.sk good (d := 91) rfl rfl rfl ?_
  refine AL.sk good (d := 92) rfl rfl rfl ?_
  refine Av (.bool false) rfl ?_
  refine Av (.bool false) rfl ?_
  refine AL.sk good (d := 95) rfl rfl rfl ?_
  refine AL.sk good (d := 96) rfl rfl rfl ?_
  refine Av (.bool false) rfl ?_
  refine Av (.bool false) rfl ?_
  refine AW.ret ?_
  obtain rfl := Option.some.inj hr
  exact RetQ.w good (.inr rfl) rfl rfl (Wv.refl _) (by simp)

end
end Go.Proofs.YtbcjcekoonebiaaGreat.Tl

set_option linter.unusedVariables false
set_option linter.unusedSimpArgs false
namespace Go.Proofs.YtbcjcekoonebiaaGreat.Tl
open Go Go.RowKit
def s_f100 (n : Nat) (a0 : Bool) : Option Int :=
  (bif a0 then some (-1) else some 1)

section
attribute [local simp] pureA pureL pureR inA inL inR inO idsIn encs_pure enxs_pure enys_pure valC_pure exC_pure tyC_pure r_int_u8_pure r_st_GInst_pure r_sl_st_GInst_pure r_st_GMiss_pure
theorem w_f100 (n : Nat) (a0 : Bool) (r : Int) (hr : s_f100 n a0 = some r) : ACall Tryz.prog 62 [.bool a0] (.int .i64 r) := by
 refine ACall.go [(0, .bool a0)] Tryz.func62 rfl Tryz.ntmps62 rfl rfl (by simp) ?_
 rw [s_f100] at hr
 refine AW.seq (Rg ?_)
 refine Av (.int .i64 0) rfl ?_
 refine AW.seq ?_
 refine AW.seq (Rg ?_)
 refine Av (.bool a0) rfl ?_
 refine AW.if rfl (fun h1 => ?_) (fun h1 => ?_)
 ·replace hr := cnd_t h1 hr
  refine AW.seq (Rg ?_)
  refine Av (.int .i64 (-1)) rfl ?_
  refine AW.ret ?_
  obtain rfl := Option.some.inj hr
  exact RetQ.w good (.inr rfl) rfl rfl (Wv.refl _) (by simp)
 ·replace hr := cnd_f h1 hr
  refine AW.skip ?_
  refine AW.seq (Rg ?_)
  refine Av (.int .i64 1) rfl ?_
  refine AW.ret ?_
  obtain rfl := Option.some.inj hr
  exact RetQ.w good (.inr rfl) rfl rfl (Wv.refl _) (by simp)

mutual
def s_f68 : Nat → Val → Int → Option Int
  | 0, _, _ => none
  | n + 1, a0, a1 => (bif ((decide (a0.kind < 1)) || (decide (a0.kind > 4))) then some 5 else (bif (((((a0.kind != 1) && (a0.i != 0)) || ((a0.kind != 2) && a0.b)) || ((a0.kind != 3) && (a0.s.data.toList != []))) || ((a0.kind != 4) && (decide ((a0.t.length : Int) > 0)))) then some 2 else (bif (decide ((a0.s.size : Int) > 255)) then some 4 else (bif (a0.kind != 4) then some 0 else (bif ((a0.t.length : Int) == 0) then some 1 else (bif (decide ((a0.t.length : Int) > 8)) then some 10 else (bif (decide (a1 > 4)) then some 9 else (s_f68_l1 n a0 a1 0))))))))
def s_f68_l1 : Nat → Val → Int → Nat → Option Int
  | 0, _, _, _ => none
  | n + 1, a0, a1, v1_1 => (bif (decide ((v1_1 : Int) < (a0.t.length : Int))) then ((a0.t[v1_1]?).bind fun x33 => ((s_f68 n x33 (IntKind.i64.wrap (a1 + 1))).bind fun q35 => (bif (q35 != 0) then some q35 else (s_f68_l1 n a0 a1 (v1_1 + 1))))) else some 0)
end

theorem w_f68_a (n : Nat) (ih : ∀ (m : Nat) (a0 : Val) (a1 : Int) (r : Int), s_f68 m a0 a1 = some r → m < n → ACall Tryz.prog 46 [.agg (valC a0), .int .i64 a1] (.int .i64 r)) (a0 : Val) (a1 : Int) (r : Int) (hr : s_f68 n a0 a1 = some r) : ACall Tryz.prog 46 [.agg (valC a0), .int .i64 a1] (.int .i64 r) := by
 refine ACall.go [(0, .agg (valC a0)), (1, .int .i64 a1)] Tryz.func46 rfl Tryz.ntmps46 rfl rfl (by simp) ?_
 cases n with
 | zero => rw [s_f68] at hr; cases hr
 | succ n =>
  rw [s_f68] at hr
  refine AW.seq (Rg ?_)
  refine AL.bx good (d := 2) (l := [.int .i64 a0.kind, .int .i64 a0.i, .bool a0.b, .str a0.s, .sl .ro 5 (encs a0.t)]) rfl rfl rfl rfl rfl rfl 0 rfl ?_
  refine Av (.int .i64 0) rfl ?_
  refine AW.seq ?_
  refine AW.block ?_
  refine AW.seq (Rg ?_)
  refine Av (.ptr 0 0) rfl ?_
  refine Av (.int .i64 a0.kind) rfl ?_
  refine Av (.bool (decide (a0.kind < 1))) rfl ?_
  refine AL.vb good (d := 11) (b := (decide (a0.kind < 1))) rfl rfl rfl rfl (fun g1 h2 => ?_)
  refine Gv ((!g1)) (.ptr 0 0) rfl (by cases g1 <;> exact ⟨rfl, fun h => by first | rfl | cases h⟩) ?_
  refine Gv ((!g1)) (.int .i64 a0.kind) rfl (by cases g1 <;> exact ⟨rfl, fun h => by first | rfl | cases h⟩) ?_
  refine Gv ((!g1)) (.bool (decide (a0.kind > 4))) rfl (by cases g1 <;> exact ⟨rfl, fun h => by first | rfl | cases h⟩) ?_
  refine AL.v good (d := 15) (v := .bool (g1 || (decide (a0.kind > 4)))) (rd := []) rfl rfl rfl (by cases g1 <;> rfl) ?_
  refine Av (.bool (g1 || (decide (a0.kind > 4)))) rfl ?_
  subst h2
  refine AW.if rfl (fun h3 => ?_) (fun h3 => ?_)
  ·replace hr := cnd_t h3 hr
   refine AW.seq (Rg ?_)
   refine Av (.int .i64 5) rfl ?_
   refine AW.ret ?_
   obtain rfl := Option.some.inj hr
   exact RetQ.w good (.inr rfl) rfl rfl (Wv.refl _) (by simp)
  ·replace hr := cnd_f h3 hr
   refine AW.seq (Rg ?_)
   refine Av (.ptr 0 0) rfl ?_
   refine Av (.int .i64 a0.kind) rfl ?_
   refine Av (.bool (a0.kind != 1)) rfl ?_
   refine AL.vb good (d := 20) (b := (a0.kind != 1)) rfl rfl rfl rfl (fun g4 h5 => ?_)
   refine Gv (g4) (.ptr 0 1) rfl (by cases g4 <;> exact ⟨rfl, fun h => by first | rfl | cases h⟩) ?_
   refine Gv (g4) (.int .i64 a0.i) rfl (by cases g4 <;> exact ⟨rfl, fun h => by first | rfl | cases h⟩) ?_
   refine Gv (g4) (.bool (a0.i != 0)) rfl (by cases g4 <;> exact ⟨rfl, fun h => by first | rfl | cases h⟩) ?_
   refine AL.v good (d := 24) (v := .bool (g4 && (a0.i != 0))) (rd := []) rfl rfl rfl (by cases g4 <;> rfl) ?_
   refine AL.vb good (d := 25) (b := (g4 && (a0.i != 0))) rfl rfl rfl rfl (fun g6 h7 => ?_)
   refine Gv ((!g6)) (.ptr 0 0) rfl (by cases g6 <;> exact ⟨rfl, fun h => by first | rfl | cases h⟩) ?_
   refine Gv ((!g6)) (.int .i64 a0.kind) rfl (by cases g6 <;> exact ⟨rfl, fun h => by first | rfl | cases h⟩) ?_
   refine Gv ((!g6)) (.bool (a0.kind != 2)) rfl (by cases g6 <;> exact ⟨rfl, fun h => by first | rfl | cases h⟩) ?_
   refine AL.gvb good (d := 29) (c := (!g6)) (r := (a0.kind != 2)) (rd := []) rfl rfl (by cases g6 <;> rfl) (fun h => by cases g6 <;> first | rfl | exact absurd h (by decide)) (fun g8 h9 => ?_)
   refine Gv (((!g6) && g8)) (.ptr 0 2) rfl (by cases g6 <;> cases g8 <;> exact ⟨rfl, fun h => by first | rfl | cases h⟩) ?_
   refine Gv (((!g6) && g8)) (.bool a0.b) rfl (by cases g6 <;> cases g8 <;> exact ⟨rfl, fun h => by first | rfl | cases h⟩) ?_
   refine Gv ((!g6)) (.bool (g8 && a0.b)) rfl (by cases g6 <;> cases g8 <;> exact ⟨rfl, fun h => by first | rfl | cases h⟩) ?_
   refine AL.v good (d := 33) (v := .bool (g6 || (g8 && a0.b))) (rd := []) rfl rfl rfl (by cases g6 <;> rfl) ?_
   refine AL.vb good (d := 34) (b := (g6 || (g8 && a0.b))) rfl rfl rfl rfl (fun g10 h11 => ?_)
   refine Gv ((!g10)) (.ptr 0 0) rfl (by cases g10 <;> exact ⟨rfl, fun h => by first | rfl | cases h⟩) ?_
   refine Gv ((!g10)) (.int .i64 a0.kind) rfl (by cases g10 <;> exact ⟨rfl, fun h => by first | rfl | cases h⟩) ?_
   refine Gv ((!g10)) (.bool (a0.kind != 3)) rfl (by cases g10 <;> exact ⟨rfl, fun h => by first | rfl | cases h⟩) ?_
   refine AL.gvb good (d := 38) (c := (!g10)) (r := (a0.kind != 3)) (rd := []) rfl rfl (by cases g10 <;> rfl) (fun h => by cases g10 <;> first | rfl | exact absurd h (by decide)) (fun g12 h13 => ?_)
   refine Gv (((!g10) && g12)) (.ptr 0 3) rfl (by cases g10 <;> cases g12 <;> exact ⟨rfl, fun h => by first | rfl | cases h⟩) ?_
   refine Gv (((!g10) && g12)) (.str a0.s) rfl (by cases g10 <;> cases g12 <;> exact ⟨rfl, fun h => by first | rfl | cases h⟩) ?_
   refine AL.gsb good (d := 41) (c := ((!g10) && g12)) (b := (a0.s.data.toList != [])) rfl rfl (by cases g10 <;> cases g12 <;> rfl) rfl (fun h => by cases g10 <;> cases g12 <;> first | rfl | exact absurd h (by decide)) (fun h => by cases g10 <;> cases g12 <;> first | rfl | exact absurd h (by decide)) rfl ?_
   refine Gv ((!g10)) (.bool (g12 && (a0.s.data.toList != []))) rfl (by cases g10 <;> cases g12 <;> exact ⟨rfl, fun h => by first | rfl | cases h⟩) ?_
   refine AL.v good (d := 43) (v := .bool (g10 || (g12 && (a0.s.data.toList != [])))) (rd := []) rfl rfl rfl (by cases g10 <;> rfl) ?_
   refine AL.vb good (d := 44) (b := (g10 || (g12 && (a0.s.data.toList != [])))) rfl rfl rfl rfl (fun g14 h15 => ?_)
   refine Gv ((!g14)) (.ptr 0 0) rfl (by cases g14 <;> exact ⟨rfl, fun h => by first | rfl | cases h⟩) ?_
   refine Gv ((!g14)) (.int .i64 a0.kind) rfl (by cases g14 <;> exact ⟨rfl, fun h => by first | rfl | cases h⟩) ?_
   refine Gv ((!g14)) (.bool (a0.kind != 4)) rfl (by cases g14 <;> exact ⟨rfl, fun h => by first | rfl | cases h⟩) ?_
   refine AL.gvb good (d := 48) (c := (!g14)) (r := (a0.kind != 4)) (rd := []) rfl rfl (by cases g14 <;> rfl) (fun h => by cases g14 <;> first | rfl | exact absurd h (by decide)) (fun g16 h17 => ?_)
   refine Gv (((!g14) && g16)) (.ptr 0 4) rfl (by cases g14 <;> cases g16 <;> exact ⟨rfl, fun h => by first | rfl | cases h⟩) ?_
   refine Gv (((!g14) && g16)) (.sl .ro 5 (encs a0.t)) rfl (by cases g14 <;> cases g16 <;> exact ⟨rfl, fun h => by first | rfl | cases h⟩) ?_
   refine AL.gln good (d := 51) (c := ((!g14) && g16)) (m := a0.t.length) rfl rfl (by cases g14 <;> cases g16 <;> rfl) rfl rfl (fun h => by cases g14 <;> cases g16 <;> first | rfl | exact absurd h (by decide)) (encs_length _) ?_
   refine Gv (((!g14) && g16)) (.bool (decide ((a0.t.length : Int) > 0))) rfl (by cases g14 <;> cases g16 <;> exact ⟨rfl, fun h => by first | rfl | cases h⟩) ?_
   refine Gv ((!g14)) (.bool (g16 && (decide ((a0.t.length : Int) > 0)))) rfl (by cases g14 <;> cases g16 <;> exact ⟨rfl, fun h => by first | rfl | cases h⟩) ?_
   refine AL.v good (d := 54) (v := .bool (g14 || (g16 && (decide ((a0.t.length : Int) > 0))))) (rd := []) rfl rfl rfl (by cases g14 <;> rfl) ?_
   refine Av (.bool (g14 || (g16 && (decide ((a0.t.length : Int) > 0))))) rfl ?_
   subst h5 h7 h9 h11 h13 h15 h17
   refine AW.if rfl (fun h18 => ?_) (fun h18 => ?_)
   ·replace hr := cnd_t h18 hr
    refine AW.seq (Rg ?_)
    refine Av (.int .i64 2) rfl ?_
    refine AW.ret ?_
    obtain rfl := Option.some.inj hr
    exact RetQ.w good (.inr rfl) rfl rfl (Wv.refl _) (by simp)
   ·replace hr := cnd_f h18 hr
    refine AW.seq (Rg ?_)
    refine Av (.ptr 0 3) rfl ?_
    refine Av (.str a0.s) rfl ?_
    refine Av (.int .i64 (a0.s.size : Int)) rfl ?_
    refine Av (.bool (decide ((a0.s.size : Int) > 255))) rfl ?_
    refine Av (.bool (decide ((a0.s.size : Int) > 255))) rfl ?_
    refine AW.if rfl (fun h19 => ?_) (fun h19 => ?_)
    ·replace hr := cnd_t h19 hr
     refine AW.seq (Rg ?_)
     refine Av (.int .i64 4) rfl ?_
     refine AW.ret ?_
     obtain rfl := Option.some.inj hr
     exact RetQ.w good (.inr rfl) rfl rfl (Wv.refl _) (by simp)
    ·replace hr := cnd_f h19 hr
     refine AW.seq (Rg ?_)
     refine Av (.ptr 0 0) rfl ?_
     refine Av (.int .i64 a0.kind) rfl ?_
     refine Av (.bool (a0.kind != 4)) rfl ?_
     refine Av (.bool (a0.kind != 4)) rfl ?_
     refine AW.if rfl (fun h20 => ?_) (fun h20 => ?_)
     ·replace hr := cnd_t h20 hr
      refine AW.seq (Rg ?_)
      refine Av (.int .i64 0) rfl ?_
      refine AW.ret ?_
      obtain rfl := Option.some.inj hr
      exact RetQ.w good (.inr rfl) rfl rfl (Wv.refl _) (by simp)
     ·replace hr := cnd_f h20 hr
      refine AW.seq (Rg ?_)
      refine Av (.ptr 0 4) rfl ?_
      refine Av (.sl .ro 5 (encs a0.t)) rfl ?_
      refine AL.ln good (d := 67) (m := a0.t.length) rfl rfl rfl rfl rfl rfl (encs_length _) ?_
      refine Av (.bool ((a0.t.length : Int) == 0)) rfl ?_
      refine Av (.bool ((a0.t.length : Int) == 0)) rfl ?_
      refine AW.if rfl (fun h21 => ?_) (fun h21 => ?_)
      ·replace hr := cnd_t h21 hr
       refine AW.seq (Rg ?_)
       refine Av (.int .i64 1) rfl ?_
       refine AW.ret ?_
       obtain rfl := Option.some.inj hr
       exact RetQ.w good (.inr rfl) rfl rfl (Wv.refl _) (by simp)
      ·replace hr := cnd_f h21 hr
       refine AW.seq (Rg ?_)
       refine Av (.ptr 0 4) rfl ?_
       refine Av (.sl .ro 5 (encs a0.t)) rfl ?_
       refine AL.ln good (d := 72) (m := a0.t.length) rfl rfl rfl rfl rfl rfl (encs_length _) ?_
       refine Av (.bool (decide ((a0.t.length : Int) > 8))) rfl ?_
       refine Av (.bool (decide ((a0.t.length : Int) > 8))) rfl ?_
       refine AW.if rfl (fun h22 => ?_) (fun h22 => ?_)
       ·replace hr := cnd_t h22 hr
        refine AW.seq (Rg ?_)
        refine Av (.int .i64 10) rfl ?_
        refine AW.ret ?_
        obtain rfl := Option.some.inj hr
        exact RetQ.w good (.inr rfl) rfl rfl (Wv.refl _) (by simp)
       ·replace hr := cnd_f h22 hr
        refine AW.seq (Rg ?_)
        refine Av (.int .i64 a1) rfl ?_
        refine Av (.bool (decide (a1 > 4))) rfl ?_
        refine Av (.bool (decide (a1 > 4))) rfl ?_
        refine AW.if rfl (fun h23 => ?_) (fun h23 => ?_)
        ·replace hr := cnd_t h23 hr
         refine AW.seq (Rg ?_)
         refine Av (.int .i64 9) rfl ?_
         refine AW.ret ?_
         obtain rfl := Option.some.inj hr
         exact RetQ.w good (.inr rfl) rfl rfl (Wv.refl _) (by simp)
        ·replace hr := cnd_f h23 hr
         refine AW.skip ?_
         refine AW.seq ?_
         refine AW.seq (Rg ?_)
         refine Av (.int .i64 0) rfl ?_
         refine AW.block ?_
         refine AW.lensB 0 rfl (fun hl31 => ?_)
         replace hl31 : a0.t.length ≤ 9223372036854775807 := by rw [← encs_length a0.t]; exact hl31.2.2.2.2.1
         refine AW.lpw (fun x : Nat × Nat => [(1, .int .i64 a1), (2, .ptr 0 0), (5, .int .i64 (x.2 : Int))]) (fun x => [(0, .box 42 [.int .i64 a0.kind, .int .i64 a0.i, .bool a0.b, .str a0.s, .sl .ro 5 (encs a0.t)])]) (fun x => s_f68_l1 x.1 a0 a1 x.2 = some r ∧ x.1 ≤ n) (fun x => x.1) (n, 0) ⟨(fun _ h => by cases h), fmc ⟨⟨⟨_, rfl, Wv.refl _⟩, (by simp)⟩, fmc ⟨⟨⟨_, rfl, Wv.refl _⟩, (by simp)⟩, fmc ⟨⟨⟨_, rfl, Wv.refl _⟩, (by simp)⟩, (fun _ h => by cases h)⟩⟩⟩, fmc ⟨⟨⟨_, rfl, ⟨rfl, ⟨Wv.refl _, Wv.refl _, Wv.refl _, Wv.refl _, Wv.refl _, trivial⟩⟩⟩, (by simp)⟩, (fun _ h => by cases h)⟩⟩ ⟨hr, Nat.le_refl _⟩ (fun ⟨m, v1_1⟩ hx => ?_)
         obtain ⟨hr, hm⟩ := hx
         try dsimp only at hr hm
         cases m with
         | zero => rw [s_f68_l1] at hr; cases hr
         | succ m =>
          rw [s_f68_l1] at hr
          show AW Tryz.prog _ _ _ (mkS 95 [(1, .int .i64 a1), (2, .ptr 0 0), (5, .int .i64 (v1_1 : Int))] [(0, .box 42 [.int .i64 a0.kind, .int .i64 a0.i, .bool a0.b, .str a0.s, .sl .ro 5 (encs a0.t)])])
          refine AW.seq ?_
          refine AW.seq (Rg ?_)
          refine Av (.int .i64 (v1_1 : Int)) rfl ?_
          refine Av (.ptr 0 4) rfl ?_
          refine Av (.sl .ro 5 (encs a0.t)) rfl ?_
          refine AL.ln good (d := 80) (m := a0.t.length) rfl rfl rfl rfl rfl rfl (encs_length _) ?_
          refine Av (.bool (decide ((v1_1 : Int) < (a0.t.length : Int)))) rfl ?_
          refine AW.if rfl (fun h32 => ?_) (fun h32 => ?_)
          ·replace hr := cnd_t h32 hr
           refine AW.skip ?_
           refine AW.seq ?_
           refine AW.block ?_
           refine AW.seq (Rg ?_)
           refine Av (.ptr 0 4) rfl ?_
           refine Av (.sl .ro 5 (encs a0.t)) rfl ?_
           refine Av (.int .i64 (v1_1 : Int)) rfl ?_
           obtain ⟨x33, h34, hr⟩ := bnd1 hr
           refine AL.ix good (d := 87) (r := [.int .i64 x33.kind, .int .i64 x33.i, .bool x33.b, .str x33.s, .sl .ro 5 (encs x33.t)]) rfl rfl rfl rfl rfl rfl rfl (Int.natCast_nonneg _) (encs_get h34) ?_
           refine Av (.agg [.int .i64 x33.kind, .int .i64 x33.i, .bool x33.b, .str x33.s, .sl .ro 5 (encs x33.t)]) rfl ?_
           refine Av (.int .i64 a1) rfl ?_
           refine Av (.int .i64 (IntKind.i64.wrap (a1 + 1))) rfl ?_
           obtain ⟨q35, h36, hr⟩ := bnd1 hr
           refine AL.cw good (d := 91) (xs := [.agg (valC x33), .int .i64 (IntKind.i64.wrap (a1 + 1))]) (res := .int .i64 q35) rfl rfl rfl rfl rfl rfl rfl (ih _ _ _ _ h36 (by omega)) ⟨(Wv.refl _), (Wv.refl _), trivial⟩ (by simp) ?_
           refine Av (.int .i64 q35) rfl ?_
           refine AW.seq (Rg ?_)
           refine Av (.int .i64 q35) rfl ?_
           refine Av (.bool (q35 != 0)) rfl ?_
           refine AW.if rfl (fun h37 => ?_) (fun h37 => ?_)
           ·replace hr := cnd_t h37 hr
            refine AW.seq (Rg ?_)
            refine Av (.int .i64 q35) rfl ?_
            refine Av (.int .i64 q35) rfl ?_
            refine AW.ret ?_
            obtain rfl := Option.some.inj hr
            exact RetQ.w good (.inr rfl) rfl rfl (Wv.refl _) (by simp)
           ·replace hr := cnd_f h37 hr
            refine AW.skip ?_
            refine Rg ?_
            refine Av (.int .i64 (v1_1 : Int)) rfl ?_
            refine Av (.int .i64 (IntKind.i64.wrap ((v1_1 : Int) + 1))) rfl ?_
            refine Av (.int .i64 (IntKind.i64.wrap ((v1_1 : Int) + 1))) rfl ?_
            exact ⟨(m, (v1_1 + 1)), _, _, rfl, ⟨(fun _ h => by cases h), fmc ⟨⟨⟨_, rfl, Wv.refl _⟩, (by simp)⟩, fmc ⟨⟨⟨_, rfl, Wv.refl _⟩, (by simp)⟩, fmc ⟨⟨⟨_, rfl, (wnx h32 hl31)⟩, (by simp)⟩, (fun _ h => by cases h)⟩⟩⟩, fmc ⟨⟨⟨_, rfl, ⟨rfl, ⟨Wv.refl _, Wv.refl _, Wv.refl _, Wv.refl _, Wv.refl _, trivial⟩⟩⟩, (by simp)⟩, (fun _ h => by cases h)⟩⟩, ⟨hr, Nat.le_of_succ_le hm⟩, Nat.lt_succ_self _⟩
          ·replace hr := cnd_f h32 hr
           refine AW.exit ?_
           refine AW.seq (Rg ?_)
           refine Av (.int .i64 0) rfl ?_
           refine AW.ret ?_
           obtain rfl := Option.some.inj hr
           exact RetQ.w good (.inr rfl) rfl rfl (Wv.refl _) (by simp)
theorem w_f68 (n : Nat) : ∀ (a0 : Val) (a1 : Int) (r : Int) (hr : s_f68 n a0 a1 = some r), ACall Tryz.prog 46 [.agg (valC a0), .int .i64 a1] (.int .i64 r) := by
 induction n using Nat.strongRecOn with
 | _ n ih =>
  intro a0 a1 r hr
  exact w_f68_a n (fun m a0 a1 r h hm => ih m hm a0 a1 r h) a0 a1 r hr

def s_f34 (n : Nat) (a0 : Val) : Option Int :=
  ((s_f68 n a0 0).bind fun q1 => some q1)

theorem w_f34 (n : Nat) (a0 : Val) (r : Int) (hr : s_f34 n a0 = some r) : ACall Tryz.prog 25 [.agg (valC a0)] (.int .i64 r) := by
 refine ACall.go [(0, .agg (valC a0))] Tryz.func25 rfl Tryz.ntmps25 rfl rfl (by simp) ?_
 rw [s_f34] at hr
 refine AW.seq (Rg ?_)
 refine AL.bx good (d := 1) (l := [.int .i64 a0.kind, .int .i64 a0.i, .bool a0.b, .str a0.s, .sl .ro 5 (encs a0.t)]) rfl rfl rfl rfl rfl rfl 0 rfl ?_
 refine Av (.int .i64 0) rfl ?_
 refine AW.seq (Rg ?_)
 refine Av (.agg [.int .i64 a0.kind, .int .i64 a0.i, .bool a0.b, .str a0.s, .sl .ro 5 (encs a0.t)]) rfl ?_
 obtain ⟨q1, h2, hr⟩ := bnd1 hr
 refine AL.cw good (d := 4) (xs := [.agg (valC a0), .int .i64 0]) (res := .int .i64 q1) rfl rfl rfl rfl rfl rfl rfl (w_f68 _ _ _ _ h2) ⟨(Wv.refl _), (Wv.refl _), trivial⟩ (by simp) ?_
 refine Av (.int .i64 q1) rfl ?_
 refine AW.ret ?_
 obtain rfl := Option.some.inj hr
 exact RetQ.w good (.inr rfl) rfl rfl (Wv.refl _) (by simp)

mutual
def s_f90 : Nat → Val → Int → Int → Option Int
  | 0, _, _, _ => none
  | n + 1, a0, a1, a2 => (bif ((((decide (a2 ≤ 0)) || (decide (a1 ≤ 0))) || (decide ((a0.t.length : Int) > 20))) || (decide ((a0.s.size : Int) > 300))) then some 0 else (s_f90_l1 n a0 a1 (IntKind.i64.wrap (a2 - 1)) 0))
def s_f90_l1 : Nat → Val → Int → Int → Int → Option Int
  | 0, _, _, _, _ => none
  | n + 1, a0, a1, v1_1, v1_2 => (bif ((decide (v1_2 < (a0.t.length : Int))) && (decide (v1_1 > 0))) then (if 0 ≤ v1_2 then ((a0.t[v1_2.toNat]?).bind fun x19 => ((s_f90 n x19 (IntKind.i64.wrap (a1 - 1)) v1_1).bind fun q22 => (s_f90_l1 n a0 a1 q22 (IntKind.i64.wrap (v1_2 + 1))))) else none) else some v1_1)
end

theorem w_f90_a (n : Nat) (ih : ∀ (m : Nat) (a0 : Val) (a1 : Int) (a2 : Int) (r : Int), s_f90 m a0 a1 a2 = some r → m < n → ACall Tryz.prog 45 [.agg (valC a0), .int .i64 a1, .int .i64 a2] (.int .i64 r)) (a0 : Val) (a1 : Int) (a2 : Int) (r : Int) (hr : s_f90 n a0 a1 a2 = some r) : ACall Tryz.prog 45 [.agg (valC a0), .int .i64 a1, .int .i64 a2] (.int .i64 r) := by
 refine ACall.go [(0, .agg (valC a0)), (1, .int .i64 a1), (2, .int .i64 a2)] Tryz.func45 rfl Tryz.ntmps45 rfl rfl (by simp) ?_
 cases n with
 | zero => rw [s_f90] at hr; cases hr
 | succ n =>
  rw [s_f90] at hr
  refine AW.seq (Rg ?_)
  refine AL.bx good (d := 3) (l := [.int .i64 a0.kind, .int .i64 a0.i, .bool a0.b, .str a0.s, .sl .ro 5 (encs a0.t)]) rfl rfl rfl rfl rfl rfl 0 rfl ?_
  refine Av (.int .i64 0) rfl ?_
  refine AW.seq ?_
  refine AW.seq (Rg ?_)
  refine Av (.int .i64 a2) rfl ?_
  refine Av (.bool (decide (a2 ≤ 0))) rfl ?_
  refine AL.vb good (d := 10) (b := (decide (a2 ≤ 0))) rfl rfl rfl rfl (fun g1 h2 => ?_)
  refine Gv ((!g1)) (.int .i64 a1) rfl (by cases g1 <;> exact ⟨rfl, fun h => by first | rfl | cases h⟩) ?_
  refine Gv ((!g1)) (.bool (decide (a1 ≤ 0))) rfl (by cases g1 <;> exact ⟨rfl, fun h => by first | rfl | cases h⟩) ?_
  refine AL.v good (d := 13) (v := .bool (g1 || (decide (a1 ≤ 0)))) (rd := []) rfl rfl rfl (by cases g1 <;> rfl) ?_
  refine AL.vb good (d := 14) (b := (g1 || (decide (a1 ≤ 0)))) rfl rfl rfl rfl (fun g3 h4 => ?_)
  refine Gv ((!g3)) (.ptr 0 4) rfl (by cases g3 <;> exact ⟨rfl, fun h => by first | rfl | cases h⟩) ?_
  refine Gv ((!g3)) (.sl .ro 5 (encs a0.t)) rfl (by cases g3 <;> exact ⟨rfl, fun h => by first | rfl | cases h⟩) ?_
  refine AL.gln good (d := 17) (c := (!g3)) (m := a0.t.length) rfl rfl (by cases g3 <;> rfl) rfl rfl (fun h => by cases g3 <;> first | rfl | exact absurd h (by decide)) (encs_length _) ?_
  refine Gv ((!g3)) (.bool (decide ((a0.t.length : Int) > 20))) rfl (by cases g3 <;> exact ⟨rfl, fun h => by first | rfl | cases h⟩) ?_
  refine AL.v good (d := 19) (v := .bool (g3 || (decide ((a0.t.length : Int) > 20)))) (rd := []) rfl rfl rfl (by cases g3 <;> rfl) ?_
  refine AL.vb good (d := 20) (b := (g3 || (decide ((a0.t.length : Int) > 20)))) rfl rfl rfl rfl (fun g5 h6 => ?_)
  refine Gv ((!g5)) (.ptr 0 3) rfl (by cases g5 <;> exact ⟨rfl, fun h => by first | rfl | cases h⟩) ?_
  refine Gv ((!g5)) (.str a0.s) rfl (by cases g5 <;> exact ⟨rfl, fun h => by first | rfl | cases h⟩) ?_
  refine Gv ((!g5)) (.int .i64 (a0.s.size : Int)) rfl (by cases g5 <;> exact ⟨rfl, fun h => by first | rfl | cases h⟩) ?_
  refine Gv ((!g5)) (.bool (decide ((a0.s.size : Int) > 300))) rfl (by cases g5 <;> exact ⟨rfl, fun h => by first | rfl | cases h⟩) ?_
  refine AL.v good (d := 25) (v := .bool (g5 || (decide ((a0.s.size : Int) > 300)))) (rd := []) rfl rfl rfl (by cases g5 <;> rfl) ?_
  subst h2 h4 h6
  refine AW.if rfl (fun h7 => ?_) (fun h7 => ?_)
  ·replace hr := cnd_t h7 hr
   refine AW.seq (Rg ?_)
   refine Av (.int .i64 0) rfl ?_
   refine AW.ret ?_
   obtain rfl := Option.some.inj hr
   exact RetQ.w good (.inr rfl) rfl rfl (Wv.refl _) (by simp)
  ·replace hr := cnd_f h7 hr
   refine AW.skip ?_
   refine AW.seq (Rg ?_)
   refine Av (.int .i64 a2) rfl ?_
   refine Av (.int .i64 (IntKind.i64.wrap (a2 - 1))) rfl ?_
   refine Av (.int .i64 (IntKind.i64.wrap (a2 - 1))) rfl ?_
   refine AW.seq ?_
   refine AW.seq (Rg ?_)
   refine Av (.int .i64 0) rfl ?_
   refine AW.block ?_
   refine AW.lpw (fun x : Nat × Int × Int => [(1, .int .i64 a1), (2, .int .i64 x.2.1), (3, .ptr 0 0), (7, .int .i64 x.2.2)]) (fun x => [(0, .box 28 [.int .i64 a0.kind, .int .i64 a0.i, .bool a0.b, .str a0.s, .sl .ro 5 (encs a0.t)])]) (fun x => s_f90_l1 x.1 a0 a1 x.2.1 x.2.2 = some r ∧ x.1 ≤ n) (fun x => x.1) (n, (IntKind.i64.wrap (a2 - 1)), 0) ⟨(fun _ h => by cases h), fmc ⟨⟨⟨_, rfl, Wv.refl _⟩, (by simp)⟩, fmc ⟨⟨⟨_, rfl, Wv.refl _⟩, (by simp)⟩, fmc ⟨⟨⟨_, rfl, Wv.refl _⟩, (by simp)⟩, fmc ⟨⟨⟨_, rfl, Wv.refl _⟩, (by simp)⟩, (fun _ h => by cases h)⟩⟩⟩⟩, fmc ⟨⟨⟨_, rfl, ⟨rfl, ⟨Wv.refl _, Wv.refl _, Wv.refl _, Wv.refl _, Wv.refl _, trivial⟩⟩⟩, (by simp)⟩, (fun _ h => by cases h)⟩⟩ ⟨hr, Nat.le_refl _⟩ (fun ⟨m, v1_1, v1_2⟩ hx => ?_)
   obtain ⟨hr, hm⟩ := hx
   try dsimp only at hr hm
   cases m with
   | zero => rw [s_f90_l1] at hr; cases hr
   | succ m =>
    rw [s_f90_l1] at hr
    show AW Tryz.prog _ _ _ (mkS 49 [(1, .int .i64 a1), (2, .int .i64 v1_1), (3, .ptr 0 0), (7, .int .i64 v1_2)] [(0, .box 28 [.int .i64 a0.kind, .int .i64 a0.i, .bool a0.b, .str a0.s, .sl .ro 5 (encs a0.t)])])
    refine AW.seq ?_
    refine AW.seq (Rg ?_)
    refine Av (.int .i64 v1_2) rfl ?_
    refine Av (.ptr 0 4) rfl ?_
    refine Av (.sl .ro 5 (encs a0.t)) rfl ?_
    refine AL.ln good (d := 31) (m := a0.t.length) rfl rfl rfl rfl rfl rfl (encs_length _) ?_
    refine Av (.bool (decide (v1_2 < (a0.t.length : Int)))) rfl ?_
    refine AL.vb good (d := 33) (b := (decide (v1_2 < (a0.t.length : Int)))) rfl rfl rfl rfl (fun g16 h17 => ?_)
    refine Gv (g16) (.int .i64 v1_1) rfl (by cases g16 <;> exact ⟨rfl, fun h => by first | rfl | cases h⟩) ?_
    refine Gv (g16) (.bool (decide (v1_1 > 0))) rfl (by cases g16 <;> exact ⟨rfl, fun h => by first | rfl | cases h⟩) ?_
    refine AL.v good (d := 36) (v := .bool (g16 && (decide (v1_1 > 0)))) (rd := []) rfl rfl rfl (by cases g16 <;> rfl) ?_
    subst h17
    refine AW.if rfl (fun h18 => ?_) (fun h18 => ?_)
    ·replace hr := cnd_t h18 hr
     refine AW.skip ?_
     refine AW.seq ?_
     refine AW.block ?_
     refine Rg ?_
     refine Av (.ptr 0 4) rfl ?_
     refine Av (.sl .ro 5 (encs a0.t)) rfl ?_
     refine Av (.int .i64 v1_2) rfl ?_
     obtain ⟨h21, hr⟩ := grd hr
     obtain ⟨x19, h20, hr⟩ := bnd1 hr
     refine AL.ix good (d := 42) (r := [.int .i64 x19.kind, .int .i64 x19.i, .bool x19.b, .str x19.s, .sl .ro 5 (encs x19.t)]) rfl rfl rfl rfl rfl rfl rfl h21 (encs_get h20) ?_
     refine Av (.agg [.int .i64 x19.kind, .int .i64 x19.i, .bool x19.b, .str x19.s, .sl .ro 5 (encs x19.t)]) rfl ?_
     refine Av (.int .i64 a1) rfl ?_
     refine Av (.int .i64 (IntKind.i64.wrap (a1 - 1))) rfl ?_
     refine Av (.int .i64 v1_1) rfl ?_
     obtain ⟨q22, h23, hr⟩ := bnd1 hr
     refine AL.cw good (d := 47) (xs := [.agg (valC x19), .int .i64 (IntKind.i64.wrap (a1 - 1)), .int .i64 v1_1]) (res := .int .i64 q22) rfl rfl rfl rfl rfl rfl rfl (ih _ _ _ _ _ h23 (by omega)) ⟨(Wv.refl _), (Wv.refl _), (Wv.refl _), trivial⟩ (by simp) ?_
     refine Av (.int .i64 q22) rfl ?_
     refine Rg ?_
     refine Av (.int .i64 v1_2) rfl ?_
     refine Av (.int .i64 (IntKind.i64.wrap (v1_2 + 1))) rfl ?_
     refine Av (.int .i64 (IntKind.i64.wrap (v1_2 + 1))) rfl ?_
     exact ⟨(m, q22, (IntKind.i64.wrap (v1_2 + 1))), _, _, rfl, ⟨(fun _ h => by cases h), fmc ⟨⟨⟨_, rfl, Wv.refl _⟩, (by simp)⟩, fmc ⟨⟨⟨_, rfl, Wv.refl _⟩, (by simp)⟩, fmc ⟨⟨⟨_, rfl, Wv.refl _⟩, (by simp)⟩, fmc ⟨⟨⟨_, rfl, Wv.refl _⟩, (by simp)⟩, (fun _ h => by cases h)⟩⟩⟩⟩, fmc ⟨⟨⟨_, rfl, ⟨rfl, ⟨Wv.refl _, Wv.refl _, Wv.refl _, Wv.refl _, Wv.refl _, trivial⟩⟩⟩, (by simp)⟩, (fun _ h => by cases h)⟩⟩, ⟨hr, Nat.le_of_succ_le hm⟩, Nat.lt_succ_self _⟩
    ·replace hr := cnd_f h18 hr
     refine AW.exit ?_
     refine AW.seq (Rg ?_)
     refine Av (.int .i64 v1_1) rfl ?_
     refine Av (.int .i64 v1_1) rfl ?_
     refine AW.ret ?_
     obtain rfl := Option.some.inj hr
     exact RetQ.w good (.inr rfl) rfl rfl (Wv.refl _) (by simp)
theorem w_f90 (n : Nat) : ∀ (a0 : Val) (a1 : Int) (a2 : Int) (r : Int) (hr : s_f90 n a0 a1 a2 = some r), ACall Tryz.prog 45 [.agg (valC a0), .int .i64 a1, .int .i64 a2] (.int .i64 r) := by
 induction n using Nat.strongRecOn with
 | _ n ih =>
  intro a0 a1 a2 r hr
  exact w_f90_a n (fun m a0 a1 a2 r h hm => ih m hm a0 a1 a2 r h) a0 a1 a2 r hr

def s_f55 (n : Nat) (a0 : Val) : Option Bool :=
  ((s_f90 n a0 12 300).bind fun q1 => some (decide (q1 > 0)))

theorem w_f55 (n : Nat) (a0 : Val) (r : Bool) (hr : s_f55 n a0 = some r) : ACall Tryz.prog 24 [.agg (valC a0)] (.bool r) := by
 refine ACall.go [(0, .agg (valC a0))] Tryz.func24 rfl Tryz.ntmps24 rfl rfl (by simp) ?_
 rw [s_f55] at hr
 refine AW.seq (Rg ?_)
 refine AL.bx good (d := 1) (l := [.int .i64 a0.kind, .int .i64 a0.i, .bool a0.b, .str a0.s, .sl .ro 5 (encs a0.t)]) rfl rfl rfl rfl rfl rfl 0 rfl ?_
 refine Av (.bool false) rfl ?_
 refine AW.seq (Rg ?_)
 refine Av (.agg [.int .i64 a0.kind, .int .i64 a0.i, .bool a0.b, .str a0.s, .sl .ro 5 (encs a0.t)]) rfl ?_
 obtain ⟨q1, h2, hr⟩ := bnd1 hr
 refine AL.cw good (d := 4) (xs := [.agg (valC a0), .int .i64 12, .int .i64 300]) (res := .int .i64 q1) rfl rfl rfl rfl rfl rfl rfl (w_f90 _ _ _ _ _ h2) ⟨(Wv.refl _), (Wv.refl _), (Wv.refl _), trivial⟩ (by simp) ?_
 refine Av (.bool (decide (q1 > 0))) rfl ?_
 refine Av (.bool (decide (q1 > 0))) rfl ?_
 refine AW.ret ?_
 obtain rfl := Option.some.inj hr
 exact RetQ.w good (.inr rfl) rfl rfl (Wv.refl _) (by simp)

mutual
def s_f22 : Nat → Val → Option Val
  | 0, _ => none
  | n + 1, a0 => (s_f22_l1 n a0 0 [])
def s_f22_l1 : Nat → Val → Nat → (List Val) → Option Val
  | 0, _, _, _ => none
  | n + 1, a0, v1_1, v1_2 => (bif (decide ((v1_1 : Int) < (a0.t.length : Int))) then ((a0.t[v1_1]?).bind fun x10 => ((s_f22 n x10).bind fun q12 => (if v1_2.length + 1 ≤ 1000000 then (s_f22_l1 n a0 (v1_1 + 1) (v1_2 ++ [q12])) else none))) else some (Val.mk a0.kind a0.i a0.b a0.s v1_2))
end

theorem w_f22_a (n : Nat) (ih : ∀ (m : Nat) (a0 : Val) (r : Val), s_f22 m a0 = some r → m < n → ACall Tryz.prog 8 [.agg (valC a0)] (.agg (valC r))) (a0 : Val) (r : Val) (hr : s_f22 n a0 = some r) : ACall Tryz.prog 8 [.agg (valC a0)] (.agg (valC r)) := by
 refine ACall.go [(0, .agg (valC a0))] Tryz.func8 rfl Tryz.ntmps8 rfl rfl (by simp) ?_
 cases n with
 | zero => rw [s_f22] at hr; cases hr
 | succ n =>
  rw [s_f22] at hr
  refine AW.seq (Rg ?_)
  refine AL.bx good (d := 1) (l := [.int .i64 a0.kind, .int .i64 a0.i, .bool a0.b, .str a0.s, .sl .ro 5 (encs a0.t)]) rfl rfl rfl rfl rfl rfl 0 rfl ?_
  refine AL.alc good (d := 2) rfl rfl rfl rfl rfl 1 rfl ?_
  refine AW.seq (Rg ?_)
  refine Av (.ptr 0 0) rfl ?_
  refine Av (.int .i64 a0.kind) rfl ?_
  refine Av (.ptr 0 1) rfl ?_
  refine Av (.int .i64 a0.i) rfl ?_
  refine Av (.ptr 0 2) rfl ?_
  refine Av (.bool a0.b) rfl ?_
  refine Av (.ptr 0 3) rfl ?_
  refine Av (.str a0.s) rfl ?_
  refine AL.bld good (d := 13) (l := [.int .i64 a0.kind, .int .i64 a0.i, .bool a0.b, .str a0.s, .sl .nil 0 []]) rfl rfl rfl rfl rfl rfl rfl ?_
  refine AL.alc good (d := 3) rfl rfl rfl rfl rfl 2 rfl ?_
  refine AL.st2 good (c2 := [.int .i64 a0.kind, .int .i64 a0.i, .bool a0.b, .str a0.s, .sl .nil 0 []]) rfl rfl rfl rfl rfl rfl rfl rfl rfl rfl rfl rfl ?_
  refine AW.seq ?_
  refine AW.seq (Rg ?_)
  refine Av (.int .i64 0) rfl ?_
  refine AW.block ?_
  refine AW.adoptB 2 rfl 4 rfl 3 5 42 rfl rfl ?_
  refine AW.lensB 0 rfl (fun hl8 => ?_)
  replace hl8 : a0.t.length ≤ 9223372036854775807 := by rw [← encs_length a0.t]; exact hl8.2.2.2.2.1
  refine AW.lpw (fun x : Nat × Nat × (List Val) => [(1, .ptr 0 0), (2, .ptr 1 0), (3, .ptr 2 0), (4, .int .i64 (x.2.1 : Int))]) (fun x => [(0, .box 28 [.int .i64 a0.kind, .int .i64 a0.i, .bool a0.b, .str a0.s, .sl .ro 5 (encs a0.t)]), (1, .box 42 [.int .i64 0, .int .i64 0, .bool false, .str ⟨#[]⟩, .sl .nil 0 []]), (2, .box 42 [.int .i64 a0.kind, .int .i64 a0.i, .bool a0.b, .str a0.s, .sl (.own 3) 5 (encs x.2.2)]), (3, .row 42 5 (encs x.2.2).length)]) (fun x => s_f22_l1 x.1 a0 x.2.1 x.2.2 = some r ∧ x.1 ≤ n) (fun x => x.1) (n, 0, []) ⟨(fun _ h => by cases h), fmc ⟨⟨⟨_, rfl, Wv.refl _⟩, (by simp)⟩, fmc ⟨⟨⟨_, rfl, Wv.refl _⟩, (by simp)⟩, fmc ⟨⟨⟨_, rfl, Wv.refl _⟩, (by simp)⟩, fmc ⟨⟨⟨_, rfl, Wv.refl _⟩, (by simp)⟩, (fun _ h => by cases h)⟩⟩⟩⟩, fmc ⟨⟨⟨_, rfl, ⟨rfl, ⟨Wv.refl _, Wv.refl _, Wv.refl _, Wv.refl _, Wv.refl _, trivial⟩⟩⟩, (by simp)⟩, fmc ⟨⟨⟨_, rfl, ⟨rfl, ⟨Wv.refl _, Wv.refl _, Wv.refl _, Wv.refl _, Wv.refl _, trivial⟩⟩⟩, (by simp)⟩, fmc ⟨⟨⟨_, rfl, ⟨rfl, ⟨Wv.refl _, Wv.refl _, Wv.refl _, Wv.refl _, Wv.refl _, trivial⟩⟩⟩, (by simp)⟩, fmc ⟨⟨⟨_, rfl, ⟨rfl, rfl, rfl⟩⟩, (by simp)⟩, (fun _ h => by cases h)⟩⟩⟩⟩⟩ ⟨hr, Nat.le_refl _⟩ (fun ⟨m, v1_1, v1_2⟩ hx => ?_)
  obtain ⟨hr, hm⟩ := hx
  try dsimp only at hr hm
  cases m with
  | zero => rw [s_f22_l1] at hr; cases hr
  | succ m =>
   rw [s_f22_l1] at hr
   show AW Tryz.prog _ _ _ (mkS 33 [(1, .ptr 0 0), (2, .ptr 1 0), (3, .ptr 2 0), (4, .int .i64 (v1_1 : Int))] [(0, .box 28 [.int .i64 a0.kind, .int .i64 a0.i, .bool a0.b, .str a0.s, .sl .ro 5 (encs a0.t)]), (1, .box 42 [.int .i64 0, .int .i64 0, .bool false, .str ⟨#[]⟩, .sl .nil 0 []]), (2, .box 42 [.int .i64 a0.kind, .int .i64 a0.i, .bool a0.b, .str a0.s, .sl (.own 3) 5 (encs v1_2)]), (3, .row 42 5 (encs v1_2).length)])
   refine AW.seq ?_
   refine AW.seq (Rg ?_)
   refine Av (.int .i64 (v1_1 : Int)) rfl ?_
   refine Av (.ptr 0 4) rfl ?_
   refine Av (.sl .ro 5 (encs a0.t)) rfl ?_
   refine AL.ln good (d := 17) (m := a0.t.length) rfl rfl rfl rfl rfl rfl (encs_length _) ?_
   refine Av (.bool (decide ((v1_1 : Int) < (a0.t.length : Int)))) rfl ?_
   refine AW.if rfl (fun h9 => ?_) (fun h9 => ?_)
   ·replace hr := cnd_t h9 hr
    refine AW.skip ?_
    refine AW.seq ?_
    refine AW.block ?_
    refine AW.drawc (M := fun i => ⟨Nat.beq i 9 || Nat.beq i 11, bif Nat.beq i 1 then some { ids := [2] } else bif Nat.beq i 3 then some { ids := [0] } else bif Nat.beq i 6 then some { ids := [] } else bif Nat.beq i 8 then some { ids := [4] } else bif Nat.beq i 9 then some { ids := [3] } else bif Nat.beq i 11 then some { ids := [2] } else none⟩) good.wide (by kernel_rfl) ?_
    refine Av (nc := ⟨rfl⟩) (.ptr 2 4) rfl ?_
    refine AL.vc good (d := 22) (v := .sl (.own 3) 5 (encs v1_2)) rfl rfl rfl rfl rfl rfl (fmc ⟨.head _, (fun _ h => by cases h)⟩) ?_
    refine Av (nc := ⟨rfl⟩) (.ptr 0 4) rfl ?_
    refine AL.vc good (d := 24) (v := .sl .ro 5 (encs a0.t)) rfl rfl rfl rfl rfl rfl (fmc ⟨.head _, (fun _ h => by cases h)⟩) ?_
    refine Av (nc := ⟨rfl⟩) (.int .i64 (v1_1 : Int)) rfl ?_
    obtain ⟨x10, h11, hr⟩ := bnd1 hr
    refine AL.ix (nc := ⟨rfl⟩) good (d := 26) (r := [.int .i64 x10.kind, .int .i64 x10.i, .bool x10.b, .str x10.s, .sl .ro 5 (encs x10.t)]) rfl rfl rfl rfl rfl rfl rfl (Int.natCast_nonneg _) (encs_get h11) ?_
    refine AL.vc good (d := 27) (v := .agg [.int .i64 x10.kind, .int .i64 x10.i, .bool x10.b, .str x10.s, .sl .ro 5 (encs x10.t)]) rfl rfl rfl rfl rfl rfl (fun _ h => by cases h) ?_
    obtain ⟨q12, h13, hr⟩ := bnd1 hr
    refine AL.cw (nc := ⟨rfl⟩) good (d := 28) (xs := [.agg (valC x10)]) (res := .agg [.int .i64 q12.kind, .int .i64 q12.i, .bool q12.b, .str q12.s, .sl .ro 5 (encs q12.t)]) rfl rfl rfl rfl rfl rfl rfl (ih _ _ _ h13 (by omega)) ⟨(Wv.refl _), trivial⟩ (by simp) ?_
    refine AL.litC good (d := 29) (rows := [[.int .i64 q12.kind, .int .i64 q12.i, .bool q12.b, .str q12.s, .sl .ro 5 (encs q12.t)]]) rfl rfl rfl rfl rfl rfl rfl rfl rfl 4 rfl (ColN.mk rfl rfl (fun _ h => by cases h) (fmc ⟨.head _, (fun _ h => by cases h)⟩) (fun _ h => by cases h)) ?_
    obtain ⟨h14, hr⟩ := grd hr
    refine AL.aw2c good (d := 30) (rows := encs v1_2) (news := [(valC q12)]) (rows2 := encs (v1_2 ++ [q12])) rfl rfl rfl rfl rfl rfl rfl rfl rfl (by simp) rfl rfl rfl rfl ⟨⟨Wv.refl _, Wv.refl _, Wv.refl _, Wv.refl _, Wv.refl _, trivial⟩, trivial⟩ (by simp [encs_map]) (by rw [encs_length, List.length_append]; exact h14) rfl ?_
    refine Av (nc := ⟨rfl⟩) (.ptr 2 4) rfl ?_
    refine AL.st2c good (c2 := [.int .i64 a0.kind, .int .i64 a0.i, .bool a0.b, .str a0.s, .sl (.own 3) 5 (encs (v1_2 ++ [q12]))]) rfl rfl rfl rfl rfl rfl rfl rfl rfl rfl rfl rfl rfl ?_
    refine Rg ?_
    refine Av (.int .i64 (v1_1 : Int)) rfl ?_
    refine Av (.int .i64 (IntKind.i64.wrap ((v1_1 : Int) + 1))) rfl ?_
    refine Av (.int .i64 (IntKind.i64.wrap ((v1_1 : Int) + 1))) rfl ?_
    exact ⟨(m, (v1_1 + 1), (v1_2 ++ [q12])), _, _, rfl, ⟨(fun _ h => by cases h), fmc ⟨⟨⟨_, rfl, Wv.refl _⟩, (by simp)⟩, fmc ⟨⟨⟨_, rfl, Wv.refl _⟩, (by simp)⟩, fmc ⟨⟨⟨_, rfl, Wv.refl _⟩, (by simp)⟩, fmc ⟨⟨⟨_, rfl, (wnx h9 hl8)⟩, (by simp)⟩, (fun _ h => by cases h)⟩⟩⟩⟩, fmc ⟨⟨⟨_, rfl, ⟨rfl, ⟨Wv.refl _, Wv.refl _, Wv.refl _, Wv.refl _, Wv.refl _, trivial⟩⟩⟩, (by simp)⟩, fmc ⟨⟨⟨_, rfl, ⟨rfl, ⟨Wv.refl _, Wv.refl _, Wv.refl _, Wv.refl _, Wv.refl _, trivial⟩⟩⟩, (by simp)⟩, fmc ⟨⟨⟨_, rfl, ⟨rfl, ⟨Wv.refl _, Wv.refl _, Wv.refl _, Wv.refl _, Wv.refl _, trivial⟩⟩⟩, (by simp)⟩, fmc ⟨⟨⟨_, rfl, ⟨rfl, rfl, rfl⟩⟩, (by simp)⟩, (fun _ h => by cases h)⟩⟩⟩⟩⟩, ⟨hr, Nat.le_of_succ_le hm⟩, Nat.lt_succ_self _⟩
   ·replace hr := cnd_f h9 hr
    refine AW.exit ?_
    refine AW.seq (Rg ?_)
    refine Av (.agg [.int .i64 a0.kind, .int .i64 a0.i, .bool a0.b, .str a0.s, .sl (.own 3) 5 (encs v1_2)]) rfl ?_
    refine AL.st2 good (c2 := [.int .i64 a0.kind, .int .i64 a0.i, .bool a0.b, .str a0.s, .sl (.own 3) 5 (encs v1_2)]) rfl rfl rfl rfl rfl rfl rfl rfl rfl rfl rfl rfl ?_
    refine AW.ret ?_
    obtain rfl := Option.some.inj hr
    exact RetQ.w good (.inr rfl) rfl rfl ⟨Wv.refl _, Wv.refl _, Wv.refl _, Wv.refl _, ⟨.inr rfl, WvR.refl _, .inl rfl⟩, trivial⟩ (by simp)
theorem w_f22 (n : Nat) : ∀ (a0 : Val) (r : Val) (hr : s_f22 n a0 = some r), ACall Tryz.prog 8 [.agg (valC a0)] (.agg (valC r)) := by
 induction n using Nat.strongRecOn with
 | _ n ih =>
  intro a0 r hr
  exact w_f22_a n (fun m a0 r h hm => ih m hm a0 r h) a0 r hr

def s_f18 (n : Nat) (a0 : Val) : Option Bool :=
  ((s_f55 n a0).bind fun q1 => (bif q1 then ((s_f22 n a0).bind fun q4 => ((s_f34 n q4).bind fun q6 => some (q6 == 0))) else some false))

theorem w_f18 (n : Nat) (a0 : Val) (r : Bool) (hr : s_f18 n a0 = some r) : ACall Tryz.prog 6 [.agg (valC a0)] (.bool r) := by
 refine ACall.go [(0, .agg (valC a0))] Tryz.func6 rfl Tryz.ntmps6 rfl rfl (by simp) ?_
 rw [s_f18] at hr
 refine AW.seq (Rg ?_)
 refine AL.bx good (d := 1) (l := [.int .i64 a0.kind, .int .i64 a0.i, .bool a0.b, .str a0.s, .sl .ro 5 (encs a0.t)]) rfl rfl rfl rfl rfl rfl 0 rfl ?_
 refine Av (.bool false) rfl ?_
 refine AW.seq (Rg ?_)
 refine Av (.agg [.int .i64 a0.kind, .int .i64 a0.i, .bool a0.b, .str a0.s, .sl .ro 5 (encs a0.t)]) rfl ?_
 obtain ⟨q1, h2, hr⟩ := bnd1 hr
 refine AL.cw good (d := 4) (xs := [.agg (valC a0)]) (res := .bool q1) rfl rfl rfl rfl rfl rfl rfl (w_f55 _ _ _ h2) ⟨(Wv.refl _), trivial⟩ (by simp) ?_
 refine Av (.bool q1) rfl ?_
 refine AL.cs 5 rfl (fun h3 => ?_) (fun h3 => ?_)
 ·replace hr := cnd_t h3 hr
  refine Av (.agg [.int .i64 a0.kind, .int .i64 a0.i, .bool a0.b, .str a0.s, .sl .ro 5 (encs a0.t)]) rfl ?_
  obtain ⟨q4, h5, hr⟩ := bnd1 hr
  refine AL.cw good (d := 7) (xs := [.agg (valC a0)]) (res := .agg [.int .i64 q4.kind, .int .i64 q4.i, .bool q4.b, .str q4.s, .sl .ro 5 (encs q4.t)]) rfl rfl rfl rfl rfl rfl rfl (w_f22 _ _ _ h5) ⟨(Wv.refl _), trivial⟩ (by simp) ?_
  obtain ⟨q6, h7, hr⟩ := bnd1 hr
  refine AL.cw good (d := 8) (xs := [.agg (valC q4)]) (res := .int .i64 q6) rfl rfl rfl rfl rfl rfl rfl (w_f34 _ _ _ h7) ⟨(Wv.refl _), trivial⟩ (by simp) ?_
  refine Av (.bool (q6 == 0)) rfl ?_
  refine Av (.bool (q6 == 0)) rfl ?_
  refine Av (.bool (q6 == 0)) rfl ?_
  refine AW.ret ?_
  obtain rfl := Option.some.inj hr
  exact RetQ.w good (.inr rfl) rfl rfl (Wv.refl _) (by simp)
 ·replace hr := cnd_f h3 hr
  refine AL.sk good (d := 6) rfl rfl rfl ?_
  refine AL.sk good (d := 7) rfl rfl rfl ?_
  refine AL.sk good (d := 8) rfl rfl rfl ?_
  refine AL.sk good (d := 9) rfl rfl rfl ?_
  refine Av (.bool false) rfl ?_
  refine Av (.bool false) rfl ?_
  refine AW.ret ?_
  obtain rfl := Option.some.inj hr
  exact RetQ.w good (.inr rfl) rfl rfl (Wv.refl _) (by simp)

end
end Go.Proofs.YtbcjcekoonebiaaGreat.Tl

set_option linter.unusedVariables false
set_option linter.unusedSimpArgs false
namespace Go.Proofs.YtbcjcekoonebiaaGreat.Tl
open Go Go.RowKit
section
attribute [local simp] pureA pureL pureR inA inL inR inO idsIn encs_pure enxs_pure enys_pure valC_pure exC_pure tyC_pure r_int_u8_pure r_st_GInst_pure r_sl_st_GInst_pure r_st_GMiss_pure
theorem w_f93 (a0 : Val) : ACall Tryz.prog 65 [.agg (valC a0)] (.bool (((((a0.kind == 0) && (a0.i == 0)) && (!a0.b)) && (a0.s.data.toList == [])) && ((a0.t.length : Int) == 0))) := by
 refine ACall.go [(0, .agg (valC a0))] Tryz.func65 rfl Tryz.ntmps65 rfl rfl (by simp) ?_
 refine AW.seq (Rg ?_)
 refine AL.bx good (d := 1) (l := [.int .i64 a0.kind, .int .i64 a0.i, .bool a0.b, .str a0.s, .sl .ro 5 (encs a0.t)]) rfl rfl rfl rfl rfl rfl 0 rfl ?_
 refine Av (.bool false) rfl ?_
 refine AW.seq (Rg ?_)
 refine Av (.ptr 0 0) rfl ?_
 refine Av (.int .i64 a0.kind) rfl ?_
 refine Av (.bool (a0.kind == 0)) rfl ?_
 refine AL.vb good (d := 6) (b := (a0.kind == 0)) rfl rfl rfl rfl (fun g1 h2 => ?_)
 refine Gv (g1) (.ptr 0 1) rfl (by cases g1 <;> exact ⟨rfl, fun h => by first | rfl | cases h⟩) ?_
 refine Gv (g1) (.int .i64 a0.i) rfl (by cases g1 <;> exact ⟨rfl, fun h => by first | rfl | cases h⟩) ?_
 refine Gv (g1) (.bool (a0.i == 0)) rfl (by cases g1 <;> exact ⟨rfl, fun h => by first | rfl | cases h⟩) ?_
 refine AL.v good (d := 10) (v := .bool (g1 && (a0.i == 0))) (rd := []) rfl rfl rfl (by cases g1 <;> rfl) ?_
 refine AL.vb good (d := 11) (b := (g1 && (a0.i == 0))) rfl rfl rfl rfl (fun g3 h4 => ?_)
 refine Gv (g3) (.ptr 0 2) rfl (by cases g3 <;> exact ⟨rfl, fun h => by first | rfl | cases h⟩) ?_
 refine Gv (g3) (.bool a0.b) rfl (by cases g3 <;> exact ⟨rfl, fun h => by first | rfl | cases h⟩) ?_
 refine Gv (g3) (.bool (!a0.b)) rfl (by cases g3 <;> exact ⟨rfl, fun h => by first | rfl | cases h⟩) ?_
 refine AL.v good (d := 15) (v := .bool (g3 && (!a0.b))) (rd := []) rfl rfl rfl (by cases g3 <;> rfl) ?_
 refine AL.vb good (d := 16) (b := (g3 && (!a0.b))) rfl rfl rfl rfl (fun g5 h6 => ?_)
 refine Gv (g5) (.ptr 0 3) rfl (by cases g5 <;> exact ⟨rfl, fun h => by first | rfl | cases h⟩) ?_
 refine Gv (g5) (.str a0.s) rfl (by cases g5 <;> exact ⟨rfl, fun h => by first | rfl | cases h⟩) ?_
 refine AL.gsb good (d := 19) (c := g5) (b := (a0.s.data.toList == [])) rfl rfl (by cases g5 <;> rfl) rfl (fun h => by cases g5 <;> first | rfl | exact absurd h (by decide)) (fun h => by cases g5 <;> first | rfl | exact absurd h (by decide)) rfl ?_
 refine AL.v good (d := 20) (v := .bool (g5 && (a0.s.data.toList == []))) (rd := []) rfl rfl rfl (by cases g5 <;> rfl) ?_
 refine AL.vb good (d := 21) (b := (g5 && (a0.s.data.toList == []))) rfl rfl rfl rfl (fun g7 h8 => ?_)
 refine Gv (g7) (.ptr 0 4) rfl (by cases g7 <;> exact ⟨rfl, fun h => by first | rfl | cases h⟩) ?_
 refine Gv (g7) (.sl .ro 5 (encs a0.t)) rfl (by cases g7 <;> exact ⟨rfl, fun h => by first | rfl | cases h⟩) ?_
 refine AL.gln good (d := 24) (c := g7) (m := a0.t.length) rfl rfl (by cases g7 <;> rfl) rfl rfl (fun h => by cases g7 <;> first | rfl | exact absurd h (by decide)) (encs_length _) ?_
 refine Gv (g7) (.bool ((a0.t.length : Int) == 0)) rfl (by cases g7 <;> exact ⟨rfl, fun h => by first | rfl | cases h⟩) ?_
 refine AL.v good (d := 26) (v := .bool (g7 && ((a0.t.length : Int) == 0))) (rd := []) rfl rfl rfl (by cases g7 <;> rfl) ?_
 refine Av (.bool (g7 && ((a0.t.length : Int) == 0))) rfl ?_
 subst h2 h4 h6 h8
 refine AW.ret ?_
 exact RetQ.w good (.inr rfl) rfl rfl (Wv.refl _) (by simp)

def s_f92 (n : Nat) (a0 : ByteArray) : Option Int :=
  (bif (a0.data.toList == [108, 105, 116]) then some 0 else (bif (a0.data.toList == [120]) then some 0 else (bif (a0.data.toList == [97, 116]) then some 1 else (bif (a0.data.toList == [110, 101, 103]) then some 1 else (bif (a0.data.toList == [110, 111, 116]) then some 1 else (bif (a0.data.toList == [108, 101, 110]) then some 1 else (bif (a0.data.toList == [97, 100, 100]) then some 2 else (bif (a0.data.toList == [115, 117, 98]) then some 2 else (bif (a0.data.toList == [109, 117, 108]) then some 2 else (bif (a0.data.toList == [100, 105, 118]) then some 2 else (bif (a0.data.toList == [114, 101, 109]) then some 2 else (bif (a0.data.toList == [101, 113]) then some 2 else (bif (a0.data.toList == [108, 116]) then some 2 else (bif (a0.data.toList == [97, 110, 100]) then some 2 else (bif (a0.data.toList == [111, 114]) then some 2 else (bif (a0.data.toList == [99, 97, 116]) then some 2 else (bif (a0.data.toList == [105, 102]) then some 3 else (bif (a0.data.toList == [116, 117, 112]) then some (-1) else some (-2)))))))))))))))))))

theorem w_f92 (n : Nat) (a0 : ByteArray) (r : Int) (hr : s_f92 n a0 = some r) : ACall Tryz.prog 64 [.str a0] (.int .i64 r) := by
 refine ACall.go [(0, .str a0)] Tryz.func64 rfl Tryz.ntmps64 rfl rfl (by simp) ?_
 rw [s_f92] at hr
 refine AW.seq (Rg ?_)
 refine Av (.int .i64 0) rfl ?_
 refine AW.seq ?_
 refine AW.seq (Rg ?_)
 refine Av (.str a0) rfl ?_
 refine AW.block ?_
 refine AW.seq ?_
 refine AW.seq (Rg ?_)
 refine AL.sb good (d := 5) (b := (a0.data.toList == [108, 105, 116])) rfl rfl rfl rfl rfl rfl rfl ?_
 refine Av (.bool (a0.data.toList == [108, 105, 116])) rfl ?_
 refine AW.if rfl (fun h1 => ?_) (fun h1 => ?_)
 ·replace hr := cnd_t h1 hr
  refine AW.skip ?_
  refine AW.if rfl (fun h => ?_) (fun h => by cases h1.symm.trans h)
  refine AW.seq (Rg ?_)
  refine Av (.int .i64 0) rfl ?_
  refine AW.ret ?_
  obtain rfl := Option.some.inj hr
  exact RetQ.w good (.inr rfl) rfl rfl (Wv.refl _) (by simp)
 ·replace hr := cnd_f h1 hr
  refine Rg ?_
  refine AL.sb good (d := 6) (b := (a0.data.toList == [120])) rfl rfl rfl rfl rfl rfl rfl ?_
  refine Av (.bool (a0.data.toList == [120])) rfl ?_
  refine AW.if rfl (fun h2 => ?_) (fun h2 => ?_)
  ·replace hr := cnd_t h2 hr
   refine AW.seq (Rg ?_)
   refine Av (.int .i64 0) rfl ?_
   refine AW.ret ?_
   obtain rfl := Option.some.inj hr
   exact RetQ.w good (.inr rfl) rfl rfl (Wv.refl _) (by simp)
  ·replace hr := cnd_f h2 hr
   refine AW.seq ?_
   refine AW.seq (Rg ?_)
   refine AL.sb good (d := 8) (b := (a0.data.toList == [97, 116])) rfl rfl rfl rfl rfl rfl rfl ?_
   refine Av (.bool (a0.data.toList == [97, 116])) rfl ?_
   refine AW.if rfl (fun h3 => ?_) (fun h3 => ?_)
   ·replace hr := cnd_t h3 hr
    refine AW.skip ?_
    refine AW.if rfl (fun h => ?_) (fun h => by cases h3.symm.trans h)
    refine AW.seq (Rg ?_)
    refine Av (.int .i64 1) rfl ?_
    refine AW.ret ?_
    obtain rfl := Option.some.inj hr
    exact RetQ.w good (.inr rfl) rfl rfl (Wv.refl _) (by simp)
   ·replace hr := cnd_f h3 hr
    refine AW.seq (Rg ?_)
    refine AL.sb good (d := 9) (b := (a0.data.toList == [110, 101, 103])) rfl rfl rfl rfl rfl rfl rfl ?_
    refine Av (.bool (a0.data.toList == [110, 101, 103])) rfl ?_
    refine AW.if rfl (fun h4 => ?_) (fun h4 => ?_)
    ·replace hr := cnd_t h4 hr
     refine AW.skip ?_
     refine AW.if rfl (fun h => ?_) (fun h => by cases h4.symm.trans h)
     refine AW.seq (Rg ?_)
     refine Av (.int .i64 1) rfl ?_
     refine AW.ret ?_
     obtain rfl := Option.some.inj hr
     exact RetQ.w good (.inr rfl) rfl rfl (Wv.refl _) (by simp)
    ·replace hr := cnd_f h4 hr
     refine AW.seq (Rg ?_)
     refine AL.sb good (d := 10) (b := (a0.data.toList == [110, 111, 116])) rfl rfl rfl rfl rfl rfl rfl ?_
     refine Av (.bool (a0.data.toList == [110, 111, 116])) rfl ?_
     refine AW.if rfl (fun h5 => ?_) (fun h5 => ?_)
     ·replace hr := cnd_t h5 hr
      refine AW.skip ?_
      refine AW.if rfl (fun h => ?_) (fun h => by cases h5.symm.trans h)
      refine AW.seq (Rg ?_)
      refine Av (.int .i64 1) rfl ?_
      refine AW.ret ?_
      obtain rfl := Option.some.inj hr
      exact RetQ.w good (.inr rfl) rfl rfl (Wv.refl _) (by simp)
     ·replace hr := cnd_f h5 hr
      refine Rg ?_
      refine AL.sb good (d := 11) (b := (a0.data.toList == [108, 101, 110])) rfl rfl rfl rfl rfl rfl rfl ?_
      refine Av (.bool (a0.data.toList == [108, 101, 110])) rfl ?_
      refine AW.if rfl (fun h6 => ?_) (fun h6 => ?_)
      ·replace hr := cnd_t h6 hr
       refine AW.seq (Rg ?_)
       refine Av (.int .i64 1) rfl ?_
       refine AW.ret ?_
       obtain rfl := Option.some.inj hr
       exact RetQ.w good (.inr rfl) rfl rfl (Wv.refl _) (by simp)
      ·replace hr := cnd_f h6 hr
       refine AW.seq ?_
       refine AW.seq (Rg ?_)
       refine AL.sb good (d := 13) (b := (a0.data.toList == [97, 100, 100])) rfl rfl rfl rfl rfl rfl rfl ?_
       refine Av (.bool (a0.data.toList == [97, 100, 100])) rfl ?_
       refine AW.if rfl (fun h7 => ?_) (fun h7 => ?_)
       ·replace hr := cnd_t h7 hr
        refine AW.skip ?_
        refine AW.if rfl (fun h => ?_) (fun h => by cases h7.symm.trans h)
        refine AW.seq (Rg ?_)
        refine Av (.int .i64 2) rfl ?_
        refine AW.ret ?_
        obtain rfl := Option.some.inj hr
        exact RetQ.w good (.inr rfl) rfl rfl (Wv.refl _) (by simp)
       ·replace hr := cnd_f h7 hr
        refine AW.seq (Rg ?_)
        refine AL.sb good (d := 14) (b := (a0.data.toList == [115, 117, 98])) rfl rfl rfl rfl rfl rfl rfl ?_
        refine Av (.bool (a0.data.toList == [115, 117, 98])) rfl ?_
        refine AW.if rfl (fun h8 => ?_) (fun h8 => ?_)
        ·replace hr := cnd_t h8 hr
         refine AW.skip ?_
         refine AW.if rfl (fun h => ?_) (fun h => by cases h8.symm.trans h)
         refine AW.seq (Rg ?_)
         refine Av (.int .i64 2) rfl ?_
         refine AW.ret ?_
         obtain rfl := Option.some.inj hr
         exact RetQ.w good (.inr rfl) rfl rfl (Wv.refl _) (by simp)
        ·replace hr := cnd_f h8 hr
         refine AW.seq (Rg ?_)
         refine AL.sb good (d := 15) (b := (a0.data.toList == [109, 117, 108])) rfl rfl rfl rfl rfl rfl rfl ?_
         refine Av (.bool (a0.data.toList == [109, 117, 108])) rfl ?_
         refine AW.if rfl (fun h9 => ?_) (fun h9 => ?_)
         ·replace hr := cnd_t h9 hr
          refine AW.skip ?_
          refine AW.if rfl (fun h => ?_) (fun h => by cases h9.symm.trans h)
          refine AW.seq (Rg ?_)
          refine Av (.int .i64 2) rfl ?_
          refine AW.ret ?_
          obtain rfl := Option.some.inj hr
          exact RetQ.w good (.inr rfl) rfl rfl (Wv.refl _) (by simp)
         ·replace hr := cnd_f h9 hr
          refine AW.seq (Rg ?_)
          refine AL.sb good (d := 16) (b := (a0.data.toList == [100, 105, 118])) rfl rfl rfl rfl rfl rfl rfl ?_
          refine Av (.bool (a0.data.toList == [100, 105, 118])) rfl ?_
          refine AW.if rfl (fun h10 => ?_) (fun h10 => ?_)
          ·replace hr := cnd_t h10 hr
           refine AW.skip ?_
           refine AW.if rfl (fun h => ?_) (fun h => by cases h10.symm.trans h)
           refine AW.seq (Rg ?_)
           refine Av (.int .i64 2) rfl ?_
           refine AW.ret ?_
           obtain rfl := Option.some.inj hr
           exact RetQ.w good (.inr rfl) rfl rfl (Wv.refl _) (by simp)
          ·replace hr := cnd_f h10 hr
           refine AW.seq (Rg ?_)
           refine AL.sb good (d := 17) (b := (a0.data.toList == [114, 101, 109])) rfl rfl rfl rfl rfl rfl rfl ?_
           refine Av (.bool (a0.data.toList == [114, 101, 109])) rfl ?_
           refine AW.if rfl (fun h11 => ?_) (fun h11 => ?_)
           ·replace hr := cnd_t h11 hr
            refine AW.skip ?_
            refine AW.if rfl (fun h => ?_) (fun h => by cases h11.symm.trans h)
            refine AW.seq (Rg ?_)
            refine Av (.int .i64 2) rfl ?_
            refine AW.ret ?_
            obtain rfl := Option.some.inj hr
            exact RetQ.w good (.inr rfl) rfl rfl (Wv.refl _) (by simp)
           ·replace hr := cnd_f h11 hr
            refine AW.seq (Rg ?_)
            refine AL.sb good (d := 18) (b := (a0.data.toList == [101, 113])) rfl rfl rfl rfl rfl rfl rfl ?_
            refine Av (.bool (a0.data.toList == [101, 113])) rfl ?_
            refine AW.if rfl (fun h12 => ?_) (fun h12 => ?_)
            ·replace hr := cnd_t h12 hr
             refine AW.skip ?_
             refine AW.if rfl (fun h => ?_) (fun h => by cases h12.symm.trans h)
             refine AW.seq (Rg ?_)
             refine Av (.int .i64 2) rfl ?_
             refine AW.ret ?_
             obtain rfl := Option.some.inj hr
             exact RetQ.w good (.inr rfl) rfl rfl (Wv.refl _) (by simp)
            ·replace hr := cnd_f h12 hr
             refine AW.seq (Rg ?_)
             refine AL.sb good (d := 19) (b := (a0.data.toList == [108, 116])) rfl rfl rfl rfl rfl rfl rfl ?_
             refine Av (.bool (a0.data.toList == [108, 116])) rfl ?_
             refine AW.if rfl (fun h13 => ?_) (fun h13 => ?_)
             ·replace hr := cnd_t h13 hr
              refine AW.skip ?_
              refine AW.if rfl (fun h => ?_) (fun h => by cases h13.symm.trans h)
              refine AW.seq (Rg ?_)
              refine Av (.int .i64 2) rfl ?_
              refine AW.ret ?_
              obtain rfl := Option.some.inj hr
              exact RetQ.w good (.inr rfl) rfl rfl (Wv.refl _) (by simp)
             ·replace hr := cnd_f h13 hr
              refine AW.seq (Rg ?_)
              refine AL.sb good (d := 20) (b := (a0.data.toList == [97, 110, 100])) rfl rfl rfl rfl rfl rfl rfl ?_
              refine Av (.bool (a0.data.toList == [97, 110, 100])) rfl ?_
              refine AW.if rfl (fun h14 => ?_) (fun h14 => ?_)
              ·replace hr := cnd_t h14 hr
               refine AW.skip ?_
               refine AW.if rfl (fun h => ?_) (fun h => by cases h14.symm.trans h)
               refine AW.seq (Rg ?_)
               refine Av (.int .i64 2) rfl ?_
               refine AW.ret ?_
               obtain rfl := Option.some.inj hr
               exact RetQ.w good (.inr rfl) rfl rfl (Wv.refl _) (by simp)
              ·replace hr := cnd_f h14 hr
               refine AW.seq (Rg ?_)
               refine AL.sb good (d := 21) (b := (a0.data.toList == [111, 114])) rfl rfl rfl rfl rfl rfl rfl ?_
               refine Av (.bool (a0.data.toList == [111, 114])) rfl ?_
               refine AW.if rfl (fun h15 => ?_) (fun h15 => ?_)
               ·replace hr := cnd_t h15 hr
                refine AW.skip ?_
                refine AW.if rfl (fun h => ?_) (fun h => by cases h15.symm.trans h)
                refine AW.seq (Rg ?_)
                refine Av (.int .i64 2) rfl ?_
                refine AW.ret ?_
                obtain rfl := Option.some.inj hr
                exact RetQ.w good (.inr rfl) rfl rfl (Wv.refl _) (by simp)
               ·replace hr := cnd_f h15 hr
                refine Rg ?_
                refine AL.sb good (d := 22) (b := (a0.data.toList == [99, 97, 116])) rfl rfl rfl rfl rfl rfl rfl ?_
                refine Av (.bool (a0.data.toList == [99, 97, 116])) rfl ?_
                refine AW.if rfl (fun h16 => ?_) (fun h16 => ?_)
                ·replace hr := cnd_t h16 hr
                 refine AW.seq (Rg ?_)
                 refine Av (.int .i64 2) rfl ?_
                 refine AW.ret ?_
                 obtain rfl := Option.some.inj hr
                 exact RetQ.w good (.inr rfl) rfl rfl (Wv.refl _) (by simp)
                ·replace hr := cnd_f h16 hr
                 refine AW.seq (Rg ?_)
                 refine AL.sb good (d := 24) (b := (a0.data.toList == [105, 102])) rfl rfl rfl rfl rfl rfl rfl ?_
                 refine Av (.bool (a0.data.toList == [105, 102])) rfl ?_
                 refine AW.if rfl (fun h17 => ?_) (fun h17 => ?_)
                 ·replace hr := cnd_t h17 hr
                  refine AW.seq (Rg ?_)
                  refine Av (.int .i64 3) rfl ?_
                  refine AW.ret ?_
                  obtain rfl := Option.some.inj hr
                  exact RetQ.w good (.inr rfl) rfl rfl (Wv.refl _) (by simp)
                 ·replace hr := cnd_f h17 hr
                  refine AW.seq (Rg ?_)
                  refine AL.sb good (d := 26) (b := (a0.data.toList == [116, 117, 112])) rfl rfl rfl rfl rfl rfl rfl ?_
                  refine Av (.bool (a0.data.toList == [116, 117, 112])) rfl ?_
                  refine AW.if rfl (fun h18 => ?_) (fun h18 => ?_)
                  ·replace hr := cnd_t h18 hr
                   refine AW.seq (Rg ?_)
                   refine Av (.int .i64 (-1)) rfl ?_
                   refine AW.ret ?_
                   obtain rfl := Option.some.inj hr
                   exact RetQ.w good (.inr rfl) rfl rfl (Wv.refl _) (by simp)
                  ·replace hr := cnd_f h18 hr
                   refine AW.skip ?_
                   refine AW.seq (Rg ?_)
                   refine Av (.int .i64 (-2)) rfl ?_
                   refine AW.ret ?_
                   obtain rfl := Option.some.inj hr
                   exact RetQ.w good (.inr rfl) rfl rfl (Wv.refl _) (by simp)

mutual
def s_f54 : Nat → Ex → Int → Int → Option Int
  | 0, _, _, _ => none
  | n + 1, a0, a1, a2 => (bif (decide (a2 ≤ 0)) then some 0 else (bif (decide (a1 ≤ 0)) then some 0 else (bif (decide ((a0.a.length : Int) > 12)) then some 0 else (bif (decide ((a0.op.size : Int) > 20)) then some 0 else ((s_f55 n a0.v).bind fun q5 => (bif (!q5) then some 0 else (s_f54_l1 n a0 a1 (IntKind.i64.wrap (a2 - 1)) 0)))))))
def s_f54_l1 : Nat → Ex → Int → Int → Int → Option Int
  | 0, _, _, _, _ => none
  | n + 1, a0, a1, v1_1, v1_2 => (bif ((decide (v1_2 < (a0.a.length : Int))) && (decide (v1_1 > 0))) then (if 0 ≤ v1_2 then ((a0.a[v1_2.toNat]?).bind fun x19 => ((s_f54 n x19 (IntKind.i64.wrap (a1 - 1)) v1_1).bind fun q22 => (s_f54_l1 n a0 a1 q22 (IntKind.i64.wrap (v1_2 + 1))))) else none) else some v1_1)
end

theorem w_f54_a (n : Nat) (ih : ∀ (m : Nat) (a0 : Ex) (a1 : Int) (a2 : Int) (r : Int), s_f54 m a0 a1 a2 = some r → m < n → ACall Tryz.prog 44 [.agg (exC a0), .int .i64 a1, .int .i64 a2] (.int .i64 r)) (a0 : Ex) (a1 : Int) (a2 : Int) (r : Int) (hr : s_f54 n a0 a1 a2 = some r) : ACall Tryz.prog 44 [.agg (exC a0), .int .i64 a1, .int .i64 a2] (.int .i64 r) := by
 refine ACall.go [(0, .agg (exC a0)), (1, .int .i64 a1), (2, .int .i64 a2)] Tryz.func44 rfl Tryz.ntmps44 rfl rfl (by simp) ?_
 cases n with
 | zero => rw [s_f54] at hr; cases hr
 | succ n =>
  rw [s_f54] at hr
  refine AW.seq (Rg ?_)
  refine AL.bx good (d := 3) (l := [.str a0.op, .int .i64 a0.v.kind, .int .i64 a0.v.i, .bool a0.v.b, .str a0.v.s, .sl .ro 5 (encs a0.v.t), .int .i64 a0.n, .sl .ro 8 (enxs a0.a)]) rfl rfl rfl rfl rfl rfl 0 rfl ?_
  refine Av (.int .i64 0) rfl ?_
  refine AW.seq ?_
  refine AW.seq (Rg ?_)
  refine Av (.int .i64 a2) rfl ?_
  refine Av (.bool (decide (a2 ≤ 0))) rfl ?_
  refine Av (.bool (decide (a2 ≤ 0))) rfl ?_
  refine AL.cs 10 rfl (fun h1 => ?_) (fun h1 => ?_)
  ·replace hr := cnd_t h1 hr
   refine AL.sk good (d := 11) rfl rfl rfl ?_
   refine AL.sk good (d := 12) rfl rfl rfl ?_
   refine Av (.bool true) rfl ?_
   refine Av (.bool true) rfl ?_
   refine AL.sk good (d := 15) rfl rfl rfl ?_
   refine AL.sk good (d := 16) rfl rfl rfl ?_
   refine AL.sk good (d := 17) rfl rfl rfl ?_
   refine AL.sk good (d := 18) rfl rfl rfl ?_
   refine Av (.bool true) rfl ?_
   refine Av (.bool true) rfl ?_
   refine AL.sk good (d := 21) rfl rfl rfl ?_
   refine AL.sk good (d := 22) rfl rfl rfl ?_
   refine AL.sk good (d := 23) rfl rfl rfl ?_
   refine AL.sk good (d := 24) rfl rfl rfl ?_
   refine Av (.bool true) rfl ?_
   refine Av (.bool true) rfl ?_
   refine AL.sk good (d := 27) rfl rfl rfl ?_
   refine AL.sk good (d := 28) rfl rfl rfl ?_
   refine AL.sk good (d := 29) rfl rfl rfl ?_
   refine AL.sk good (d := 30) rfl rfl rfl ?_
   refine Av (.bool true) rfl ?_
   refine AW.if rfl (fun h => ?_) (fun h => by cases h)
   refine AW.seq (Rg ?_)
   refine Av (.int .i64 0) rfl ?_
   refine AW.ret ?_
   obtain rfl := Option.some.inj hr
   exact RetQ.w good (.inr rfl) rfl rfl (Wv.refl _) (by simp)
  ·replace hr := cnd_f h1 hr
   refine Av (.int .i64 a1) rfl ?_
   refine Av (.bool (decide (a1 ≤ 0))) rfl ?_
   refine Av (.bool (decide (a1 ≤ 0))) rfl ?_
   refine Av (.bool (decide (a1 ≤ 0))) rfl ?_
   refine AL.cs 14 rfl (fun h2 => ?_) (fun h2 => ?_)
   ·replace hr := cnd_t h2 hr
    refine AL.sk good (d := 15) rfl rfl rfl ?_
    refine AL.sk good (d := 16) rfl rfl rfl ?_
    refine AL.sk good (d := 17) rfl rfl rfl ?_
    refine AL.sk good (d := 18) rfl rfl rfl ?_
    refine Av (.bool true) rfl ?_
    refine Av (.bool true) rfl ?_
    refine AL.sk good (d := 21) rfl rfl rfl ?_
    refine AL.sk good (d := 22) rfl rfl rfl ?_
    refine AL.sk good (d := 23) rfl rfl rfl ?_
    refine AL.sk good (d := 24) rfl rfl rfl ?_
    refine Av (.bool true) rfl ?_
    refine Av (.bool true) rfl ?_
    refine AL.sk good (d := 27) rfl rfl rfl ?_
    refine AL.sk good (d := 28) rfl rfl rfl ?_
    refine AL.sk good (d := 29) rfl rfl rfl ?_
    refine AL.sk good (d := 30) rfl rfl rfl ?_
    refine Av (.bool true) rfl ?_
    refine AW.if rfl (fun h => ?_) (fun h => by cases h)
    refine AW.seq (Rg ?_)
    refine Av (.int .i64 0) rfl ?_
    refine AW.ret ?_
    obtain rfl := Option.some.inj hr
    exact RetQ.w good (.inr rfl) rfl rfl (Wv.refl _) (by simp)
   ·replace hr := cnd_f h2 hr
    refine Av (.ptr 0 7) rfl ?_
    refine Av (.sl .ro 8 (enxs a0.a)) rfl ?_
    refine AL.ln good (d := 17) (m := a0.a.length) rfl rfl rfl rfl rfl rfl (enxs_length _) ?_
    refine Av (.bool (decide ((a0.a.length : Int) > 12))) rfl ?_
    refine Av (.bool (decide ((a0.a.length : Int) > 12))) rfl ?_
    refine Av (.bool (decide ((a0.a.length : Int) > 12))) rfl ?_
    refine AL.cs 20 rfl (fun h3 => ?_) (fun h3 => ?_)
    ·replace hr := cnd_t h3 hr
     refine AL.sk good (d := 21) rfl rfl rfl ?_
     refine AL.sk good (d := 22) rfl rfl rfl ?_
     refine AL.sk good (d := 23) rfl rfl rfl ?_
     refine AL.sk good (d := 24) rfl rfl rfl ?_
     refine Av (.bool true) rfl ?_
     refine Av (.bool true) rfl ?_
     refine AL.sk good (d := 27) rfl rfl rfl ?_
     refine AL.sk good (d := 28) rfl rfl rfl ?_
     refine AL.sk good (d := 29) rfl rfl rfl ?_
     refine AL.sk good (d := 30) rfl rfl rfl ?_
     refine Av (.bool true) rfl ?_
     refine AW.if rfl (fun h => ?_) (fun h => by cases h)
     refine AW.seq (Rg ?_)
     refine Av (.int .i64 0) rfl ?_
     refine AW.ret ?_
     obtain rfl := Option.some.inj hr
     exact RetQ.w good (.inr rfl) rfl rfl (Wv.refl _) (by simp)
    ·replace hr := cnd_f h3 hr
     refine Av (.ptr 0 0) rfl ?_
     refine Av (.str a0.op) rfl ?_
     refine Av (.int .i64 (a0.op.size : Int)) rfl ?_
     refine Av (.bool (decide ((a0.op.size : Int) > 20))) rfl ?_
     refine Av (.bool (decide ((a0.op.size : Int) > 20))) rfl ?_
     refine Av (.bool (decide ((a0.op.size : Int) > 20))) rfl ?_
     refine AL.cs 26 rfl (fun h4 => ?_) (fun h4 => ?_)
     ·replace hr := cnd_t h4 hr
      refine AL.sk good (d := 27) rfl rfl rfl ?_
      refine AL.sk good (d := 28) rfl rfl rfl ?_
      refine AL.sk good (d := 29) rfl rfl rfl ?_
      refine AL.sk good (d := 30) rfl rfl rfl ?_
      refine Av (.bool true) rfl ?_
      refine AW.if rfl (fun h => ?_) (fun h => by cases h)
      refine AW.seq (Rg ?_)
      refine Av (.int .i64 0) rfl ?_
      refine AW.ret ?_
      obtain rfl := Option.some.inj hr
      exact RetQ.w good (.inr rfl) rfl rfl (Wv.refl _) (by simp)
     ·replace hr := cnd_f h4 hr
      refine Av (.ptr 0 1) rfl ?_
      refine Av (.agg [.int .i64 a0.v.kind, .int .i64 a0.v.i, .bool a0.v.b, .str a0.v.s, .sl .ro 5 (encs a0.v.t)]) rfl ?_
      obtain ⟨q5, h6, hr⟩ := bnd1 hr
      refine AL.cw good (d := 29) (xs := [.agg (valC a0.v)]) (res := .bool q5) rfl rfl rfl rfl rfl rfl rfl (w_f55 _ _ _ h6) ⟨(Wv.refl _), trivial⟩ (by simp) ?_
      refine Av (.bool (!q5)) rfl ?_
      refine Av (.bool (!q5)) rfl ?_
      refine AW.if rfl (fun h7 => ?_) (fun h7 => ?_)
      ·replace hr := cnd_t h7 hr
       refine AW.seq (Rg ?_)
       refine Av (.int .i64 0) rfl ?_
       refine AW.ret ?_
       obtain rfl := Option.some.inj hr
       exact RetQ.w good (.inr rfl) rfl rfl (Wv.refl _) (by simp)
      ·replace hr := cnd_f h7 hr
       refine AW.skip ?_
       refine AW.seq (Rg ?_)
       refine Av (.int .i64 a2) rfl ?_
       refine Av (.int .i64 (IntKind.i64.wrap (a2 - 1))) rfl ?_
       refine Av (.int .i64 (IntKind.i64.wrap (a2 - 1))) rfl ?_
       refine AW.seq ?_
       refine AW.seq (Rg ?_)
       refine Av (.int .i64 0) rfl ?_
       refine AW.block ?_
       refine AW.lpw (fun x : Nat × Int × Int => [(1, .int .i64 a1), (2, .int .i64 x.2.1), (3, .ptr 0 0), (7, .int .i64 x.2.2)]) (fun x => [(0, .box 30 [.str a0.op, .int .i64 a0.v.kind, .int .i64 a0.v.i, .bool a0.v.b, .str a0.v.s, .sl .ro 5 (encs a0.v.t), .int .i64 a0.n, .sl .ro 8 (enxs a0.a)])]) (fun x => s_f54_l1 x.1 a0 a1 x.2.1 x.2.2 = some r ∧ x.1 ≤ n) (fun x => x.1) (n, (IntKind.i64.wrap (a2 - 1)), 0) ⟨(fun _ h => by cases h), fmc ⟨⟨⟨_, rfl, Wv.refl _⟩, (by simp)⟩, fmc ⟨⟨⟨_, rfl, Wv.refl _⟩, (by simp)⟩, fmc ⟨⟨⟨_, rfl, Wv.refl _⟩, (by simp)⟩, fmc ⟨⟨⟨_, rfl, Wv.refl _⟩, (by simp)⟩, (fun _ h => by cases h)⟩⟩⟩⟩, fmc ⟨⟨⟨_, rfl, ⟨rfl, ⟨Wv.refl _, Wv.refl _, Wv.refl _, Wv.refl _, Wv.refl _, Wv.refl _, Wv.refl _, Wv.refl _, trivial⟩⟩⟩, (by simp)⟩, (fun _ h => by cases h)⟩⟩ ⟨hr, Nat.le_refl _⟩ (fun ⟨m, v1_1, v1_2⟩ hx => ?_)
       obtain ⟨hr, hm⟩ := hx
       try dsimp only at hr hm
       cases m with
       | zero => rw [s_f54_l1] at hr; cases hr
       | succ m =>
        rw [s_f54_l1] at hr
        show AW Tryz.prog _ _ _ (mkS 55 [(1, .int .i64 a1), (2, .int .i64 v1_1), (3, .ptr 0 0), (7, .int .i64 v1_2)] [(0, .box 30 [.str a0.op, .int .i64 a0.v.kind, .int .i64 a0.v.i, .bool a0.v.b, .str a0.v.s, .sl .ro 5 (encs a0.v.t), .int .i64 a0.n, .sl .ro 8 (enxs a0.a)])])
        refine AW.seq ?_
        refine AW.seq (Rg ?_)
        refine Av (.int .i64 v1_2) rfl ?_
        refine Av (.ptr 0 7) rfl ?_
        refine Av (.sl .ro 8 (enxs a0.a)) rfl ?_
        refine AL.ln good (d := 37) (m := a0.a.length) rfl rfl rfl rfl rfl rfl (enxs_length _) ?_
        refine Av (.bool (decide (v1_2 < (a0.a.length : Int)))) rfl ?_
        refine AL.vb good (d := 39) (b := (decide (v1_2 < (a0.a.length : Int)))) rfl rfl rfl rfl (fun g16 h17 => ?_)
        refine Gv (g16) (.int .i64 v1_1) rfl (by cases g16 <;> exact ⟨rfl, fun h => by first | rfl | cases h⟩) ?_
        refine Gv (g16) (.bool (decide (v1_1 > 0))) rfl (by cases g16 <;> exact ⟨rfl, fun h => by first | rfl | cases h⟩) ?_
        refine AL.v good (d := 42) (v := .bool (g16 && (decide (v1_1 > 0)))) (rd := []) rfl rfl rfl (by cases g16 <;> rfl) ?_
        subst h17
        refine AW.if rfl (fun h18 => ?_) (fun h18 => ?_)
        ·replace hr := cnd_t h18 hr
         refine AW.skip ?_
         refine AW.seq ?_
         refine AW.block ?_
         refine Rg ?_
         refine Av (.ptr 0 7) rfl ?_
         refine Av (.sl .ro 8 (enxs a0.a)) rfl ?_
         refine Av (.int .i64 v1_2) rfl ?_
         obtain ⟨h21, hr⟩ := grd hr
         obtain ⟨x19, h20, hr⟩ := bnd1 hr
         refine AL.ix good (d := 48) (r := [.str x19.op, .int .i64 x19.v.kind, .int .i64 x19.v.i, .bool x19.v.b, .str x19.v.s, .sl .ro 5 (encs x19.v.t), .int .i64 x19.n, .sl .ro 8 (enxs x19.a)]) rfl rfl rfl rfl rfl rfl rfl h21 (enxs_get h20) ?_
         refine Av (.agg [.str x19.op, .int .i64 x19.v.kind, .int .i64 x19.v.i, .bool x19.v.b, .str x19.v.s, .sl .ro 5 (encs x19.v.t), .int .i64 x19.n, .sl .ro 8 (enxs x19.a)]) rfl ?_
         refine Av (.int .i64 a1) rfl ?_
         refine Av (.int .i64 (IntKind.i64.wrap (a1 - 1))) rfl ?_
         refine Av (.int .i64 v1_1) rfl ?_
         obtain ⟨q22, h23, hr⟩ := bnd1 hr
         refine AL.cw good (d := 53) (xs := [.agg (exC x19), .int .i64 (IntKind.i64.wrap (a1 - 1)), .int .i64 v1_1]) (res := .int .i64 q22) rfl rfl rfl rfl rfl rfl rfl (ih _ _ _ _ _ h23 (by omega)) ⟨(Wv.refl _), (Wv.refl _), (Wv.refl _), trivial⟩ (by simp) ?_
         refine Av (.int .i64 q22) rfl ?_
         refine Rg ?_
         refine Av (.int .i64 v1_2) rfl ?_
         refine Av (.int .i64 (IntKind.i64.wrap (v1_2 + 1))) rfl ?_
         refine Av (.int .i64 (IntKind.i64.wrap (v1_2 + 1))) rfl ?_
         exact ⟨(m, q22, (IntKind.i64.wrap (v1_2 + 1))), _, _, rfl, ⟨(fun _ h => by cases h), fmc ⟨⟨⟨_, rfl, Wv.refl _⟩, (by simp)⟩, fmc ⟨⟨⟨_, rfl, Wv.refl _⟩, (by simp)⟩, fmc ⟨⟨⟨_, rfl, Wv.refl _⟩, (by simp)⟩, fmc ⟨⟨⟨_, rfl, Wv.refl _⟩, (by simp)⟩, (fun _ h => by cases h)⟩⟩⟩⟩, fmc ⟨⟨⟨_, rfl, ⟨rfl, ⟨Wv.refl _, Wv.refl _, Wv.refl _, Wv.refl _, Wv.refl _, Wv.refl _, Wv.refl _, Wv.refl _, trivial⟩⟩⟩, (by simp)⟩, (fun _ h => by cases h)⟩⟩, ⟨hr, Nat.le_of_succ_le hm⟩, Nat.lt_succ_self _⟩
        ·replace hr := cnd_f h18 hr
         refine AW.exit ?_
         refine AW.seq (Rg ?_)
         refine Av (.int .i64 v1_1) rfl ?_
         refine Av (.int .i64 v1_1) rfl ?_
         refine AW.ret ?_
         obtain rfl := Option.some.inj hr
         exact RetQ.w good (.inr rfl) rfl rfl (Wv.refl _) (by simp)
theorem w_f54 (n : Nat) : ∀ (a0 : Ex) (a1 : Int) (a2 : Int) (r : Int) (hr : s_f54 n a0 a1 a2 = some r), ACall Tryz.prog 44 [.agg (exC a0), .int .i64 a1, .int .i64 a2] (.int .i64 r) := by
 induction n using Nat.strongRecOn with
 | _ n ih =>
  intro a0 a1 a2 r hr
  exact w_f54_a n (fun m a0 a1 a2 r h hm => ih m hm a0 a1 a2 r h) a0 a1 a2 r hr

def s_f17 (n : Nat) (a0 : Ex) : Option Bool :=
  ((s_f54 n a0 20 400).bind fun q1 => some (decide (q1 > 0)))

theorem w_f17 (n : Nat) (a0 : Ex) (r : Bool) (hr : s_f17 n a0 = some r) : ACall Tryz.prog 23 [.agg (exC a0)] (.bool r) := by
 refine ACall.go [(0, .agg (exC a0))] Tryz.func23 rfl Tryz.ntmps23 rfl rfl (by simp) ?_
 rw [s_f17] at hr
 refine AW.seq (Rg ?_)
 refine AL.bx good (d := 1) (l := [.str a0.op, .int .i64 a0.v.kind, .int .i64 a0.v.i, .bool a0.v.b, .str a0.v.s, .sl .ro 5 (encs a0.v.t), .int .i64 a0.n, .sl .ro 8 (enxs a0.a)]) rfl rfl rfl rfl rfl rfl 0 rfl ?_
 refine Av (.bool false) rfl ?_
 refine AW.seq (Rg ?_)
 refine Av (.agg [.str a0.op, .int .i64 a0.v.kind, .int .i64 a0.v.i, .bool a0.v.b, .str a0.v.s, .sl .ro 5 (encs a0.v.t), .int .i64 a0.n, .sl .ro 8 (enxs a0.a)]) rfl ?_
 obtain ⟨q1, h2, hr⟩ := bnd1 hr
 refine AL.cw good (d := 4) (xs := [.agg (exC a0), .int .i64 20, .int .i64 400]) (res := .int .i64 q1) rfl rfl rfl rfl rfl rfl rfl (w_f54 _ _ _ _ _ h2) ⟨(Wv.refl _), (Wv.refl _), (Wv.refl _), trivial⟩ (by simp) ?_
 refine Av (.bool (decide (q1 > 0))) rfl ?_
 refine Av (.bool (decide (q1 > 0))) rfl ?_
 refine AW.ret ?_
 obtain rfl := Option.some.inj hr
 exact RetQ.w good (.inr rfl) rfl rfl (Wv.refl _) (by simp)

mutual
def s_f19 : Nat → Ex → Option Ex
  | 0, _ => none
  | n + 1, a0 => ((s_f22 n a0.v).bind fun q1 => (s_f19_l1 n a0 q1 0 []))
def s_f19_l1 : Nat → Ex → Val → Nat → (List Ex) → Option Ex
  | 0, _, _, _, _ => none
  | n + 1, a0, q1, v1_1, v1_2 => (bif (decide ((v1_1 : Int) < (a0.a.length : Int))) then ((a0.a[v1_1]?).bind fun x12 => ((s_f19 n x12).bind fun q14 => (if v1_2.length + 1 ≤ 1000000 then (s_f19_l1 n a0 q1 (v1_1 + 1) (v1_2 ++ [q14])) else none))) else some (Ex.mk a0.op q1 a0.n v1_2))
end

theorem w_f19_a (n : Nat) (ih : ∀ (m : Nat) (a0 : Ex) (r : Ex), s_f19 m a0 = some r → m < n → ACall Tryz.prog 27 [.agg (exC a0)] (.agg (exC r))) (a0 : Ex) (r : Ex) (hr : s_f19 n a0 = some r) : ACall Tryz.prog 27 [.agg (exC a0)] (.agg (exC r)) := by
 refine ACall.go [(0, .agg (exC a0))] Tryz.func27 rfl Tryz.ntmps27 rfl rfl (by simp) ?_
 cases n with
 | zero => rw [s_f19] at hr; cases hr
 | succ n =>
  rw [s_f19] at hr
  refine AW.seq (Rg ?_)
  refine AL.bx good (d := 1) (l := [.str a0.op, .int .i64 a0.v.kind, .int .i64 a0.v.i, .bool a0.v.b, .str a0.v.s, .sl .ro 5 (encs a0.v.t), .int .i64 a0.n, .sl .ro 8 (enxs a0.a)]) rfl rfl rfl rfl rfl rfl 0 rfl ?_
  refine AL.alc good (d := 2) rfl rfl rfl rfl rfl 1 rfl ?_
  refine AW.seq ?_
  refine AW.drawc (M := fun i => ⟨Nat.beq i 9, bif Nat.beq i 1 then some { ids := [0] } else bif Nat.beq i 3 then some { ids := [0] } else bif Nat.beq i 6 then some { ids := [0] } else bif Nat.beq i 8 then some { ids := [2] } else bif Nat.beq i 9 then some { ids := [2] } else none⟩) good.wide (by kernel_rfl) ?_
  refine Av (nc := ⟨rfl⟩) (.ptr 0 0) rfl ?_
  refine AL.vc good (d := 6) (v := .str a0.op) rfl rfl rfl rfl rfl rfl (fmc ⟨.head _, (fun _ h => by cases h)⟩) ?_
  refine Av (nc := ⟨rfl⟩) (.ptr 0 1) rfl ?_
  refine AL.vc good (d := 8) (v := .agg [.int .i64 a0.v.kind, .int .i64 a0.v.i, .bool a0.v.b, .str a0.v.s, .sl .ro 5 (encs a0.v.t)]) rfl rfl rfl rfl rfl rfl (fmc ⟨.head _, (fun _ h => by cases h)⟩) ?_
  obtain ⟨q1, h2, hr⟩ := bnd1 hr
  refine AL.cw (nc := ⟨rfl⟩) good (d := 9) (xs := [.agg (valC a0.v)]) (res := .agg [.int .i64 q1.kind, .int .i64 q1.i, .bool q1.b, .str q1.s, .sl .ro 5 (encs q1.t)]) rfl rfl rfl rfl rfl rfl rfl (w_f22 _ _ _ h2) ⟨(Wv.refl _), trivial⟩ (by simp) ?_
  refine Av (nc := ⟨rfl⟩) (.ptr 0 6) rfl ?_
  refine AL.vc good (d := 11) (v := .int .i64 a0.n) rfl rfl rfl rfl rfl rfl (fmc ⟨.head _, (fun _ h => by cases h)⟩) ?_
  refine AL.bld (nc := ⟨rfl⟩) good (d := 12) (l := [.str a0.op, .int .i64 q1.kind, .int .i64 q1.i, .bool q1.b, .str q1.s, .sl .ro 5 (encs q1.t), .int .i64 a0.n, .sl .nil 0 []]) rfl rfl rfl rfl rfl rfl rfl ?_
  refine AL.alcC good (d := 3) rfl rfl rfl rfl rfl 2 rfl (ColN.mk rfl rfl (fun _ h => by cases h) (fmc ⟨.head _, (fun _ h => by cases h)⟩) (fun _ h => by cases h)) ?_
  refine AL.st2c good (c2 := [.str a0.op, .int .i64 q1.kind, .int .i64 q1.i, .bool q1.b, .str q1.s, .sl .ro 5 (encs q1.t), .int .i64 a0.n, .sl .nil 0 []]) rfl rfl rfl rfl rfl rfl rfl rfl rfl rfl rfl rfl rfl ?_
  refine AW.seq ?_
  refine AW.seq (Rg ?_)
  refine Av (.int .i64 0) rfl ?_
  refine AW.block ?_
  refine AW.adoptB 2 rfl 7 rfl 3 8 44 rfl rfl ?_
  refine AW.lensB 0 rfl (fun hl10 => ?_)
  replace hl10 : a0.a.length ≤ 9223372036854775807 := by rw [← enxs_length a0.a]; exact hl10.2.2.2.2.2.2.2.1
  refine AW.lpw (fun x : Nat × Nat × (List Ex) => [(1, .ptr 0 0), (2, .ptr 1 0), (3, .ptr 2 0), (4, .int .i64 (x.2.1 : Int))]) (fun x => [(0, .box 30 [.str a0.op, .int .i64 a0.v.kind, .int .i64 a0.v.i, .bool a0.v.b, .str a0.v.s, .sl .ro 5 (encs a0.v.t), .int .i64 a0.n, .sl .ro 8 (enxs a0.a)]), (1, .box 44 [.str ⟨#[]⟩, .int .i64 0, .int .i64 0, .bool false, .str ⟨#[]⟩, .sl .nil 0 [], .int .i64 0, .sl .nil 0 []]), (2, .box 44 [.str a0.op, .int .i64 q1.kind, .int .i64 q1.i, .bool q1.b, .str q1.s, .sl .ro 5 (encs q1.t), .int .i64 a0.n, .sl (.own 3) 8 (enxs x.2.2)]), (3, .row 44 8 (enxs x.2.2).length)]) (fun x => s_f19_l1 x.1 a0 q1 x.2.1 x.2.2 = some r ∧ x.1 ≤ n) (fun x => x.1) (n, 0, []) ⟨(fun _ h => by cases h), fmc ⟨⟨⟨_, rfl, Wv.refl _⟩, (by simp)⟩, fmc ⟨⟨⟨_, rfl, Wv.refl _⟩, (by simp)⟩, fmc ⟨⟨⟨_, rfl, Wv.refl _⟩, (by simp)⟩, fmc ⟨⟨⟨_, rfl, Wv.refl _⟩, (by simp)⟩, (fun _ h => by cases h)⟩⟩⟩⟩, fmc ⟨⟨⟨_, rfl, ⟨rfl, ⟨Wv.refl _, Wv.refl _, Wv.refl _, Wv.refl _, Wv.refl _, Wv.refl _, Wv.refl _, Wv.refl _, trivial⟩⟩⟩, (by simp)⟩, fmc ⟨⟨⟨_, rfl, ⟨rfl, ⟨Wv.refl _, Wv.refl _, Wv.refl _, Wv.refl _, Wv.refl _, Wv.refl _, Wv.refl _, Wv.refl _, trivial⟩⟩⟩, (by simp)⟩, fmc ⟨⟨⟨_, rfl, ⟨rfl, ⟨Wv.refl _, Wv.refl _, Wv.refl _, Wv.refl _, Wv.refl _, Wv.refl _, Wv.refl _, Wv.refl _, trivial⟩⟩⟩, (by simp)⟩, fmc ⟨⟨⟨_, rfl, ⟨rfl, rfl, rfl⟩⟩, (by simp)⟩, (fun _ h => by cases h)⟩⟩⟩⟩⟩ ⟨hr, Nat.le_refl _⟩ (fun ⟨m, v1_1, v1_2⟩ hx => ?_)
  obtain ⟨hr, hm⟩ := hx
  try dsimp only at hr hm
  cases m with
  | zero => rw [s_f19_l1] at hr; cases hr
  | succ m =>
   rw [s_f19_l1] at hr
   show AW Tryz.prog _ _ _ (mkS 32 [(1, .ptr 0 0), (2, .ptr 1 0), (3, .ptr 2 0), (4, .int .i64 (v1_1 : Int))] [(0, .box 30 [.str a0.op, .int .i64 a0.v.kind, .int .i64 a0.v.i, .bool a0.v.b, .str a0.v.s, .sl .ro 5 (encs a0.v.t), .int .i64 a0.n, .sl .ro 8 (enxs a0.a)]), (1, .box 44 [.str ⟨#[]⟩, .int .i64 0, .int .i64 0, .bool false, .str ⟨#[]⟩, .sl .nil 0 [], .int .i64 0, .sl .nil 0 []]), (2, .box 44 [.str a0.op, .int .i64 q1.kind, .int .i64 q1.i, .bool q1.b, .str q1.s, .sl .ro 5 (encs q1.t), .int .i64 a0.n, .sl (.own 3) 8 (enxs v1_2)]), (3, .row 44 8 (enxs v1_2).length)])
   refine AW.seq ?_
   refine AW.seq (Rg ?_)
   refine Av (.int .i64 (v1_1 : Int)) rfl ?_
   refine Av (.ptr 0 7) rfl ?_
   refine Av (.sl .ro 8 (enxs a0.a)) rfl ?_
   refine AL.ln good (d := 16) (m := a0.a.length) rfl rfl rfl rfl rfl rfl (enxs_length _) ?_
   refine Av (.bool (decide ((v1_1 : Int) < (a0.a.length : Int)))) rfl ?_
   refine AW.if rfl (fun h11 => ?_) (fun h11 => ?_)
   ·replace hr := cnd_t h11 hr
    refine AW.skip ?_
    refine AW.seq ?_
    refine AW.block ?_
    refine AW.drawc (M := fun i => ⟨Nat.beq i 9 || Nat.beq i 11, bif Nat.beq i 1 then some { ids := [2] } else bif Nat.beq i 3 then some { ids := [0] } else bif Nat.beq i 6 then some { ids := [] } else bif Nat.beq i 8 then some { ids := [4] } else bif Nat.beq i 9 then some { ids := [3] } else bif Nat.beq i 11 then some { ids := [2] } else none⟩) good.wide (by kernel_rfl) ?_
    refine Av (nc := ⟨rfl⟩) (.ptr 2 7) rfl ?_
    refine AL.vc good (d := 21) (v := .sl (.own 3) 8 (enxs v1_2)) rfl rfl rfl rfl rfl rfl (fmc ⟨.head _, (fun _ h => by cases h)⟩) ?_
    refine Av (nc := ⟨rfl⟩) (.ptr 0 7) rfl ?_
    refine AL.vc good (d := 23) (v := .sl .ro 8 (enxs a0.a)) rfl rfl rfl rfl rfl rfl (fmc ⟨.head _, (fun _ h => by cases h)⟩) ?_
    refine Av (nc := ⟨rfl⟩) (.int .i64 (v1_1 : Int)) rfl ?_
    obtain ⟨x12, h13, hr⟩ := bnd1 hr
    refine AL.ix (nc := ⟨rfl⟩) good (d := 25) (r := [.str x12.op, .int .i64 x12.v.kind, .int .i64 x12.v.i, .bool x12.v.b, .str x12.v.s, .sl .ro 5 (encs x12.v.t), .int .i64 x12.n, .sl .ro 8 (enxs x12.a)]) rfl rfl rfl rfl rfl rfl rfl (Int.natCast_nonneg _) (enxs_get h13) ?_
    refine AL.vc good (d := 26) (v := .agg [.str x12.op, .int .i64 x12.v.kind, .int .i64 x12.v.i, .bool x12.v.b, .str x12.v.s, .sl .ro 5 (encs x12.v.t), .int .i64 x12.n, .sl .ro 8 (enxs x12.a)]) rfl rfl rfl rfl rfl rfl (fun _ h => by cases h) ?_
    obtain ⟨q14, h15, hr⟩ := bnd1 hr
    refine AL.cw (nc := ⟨rfl⟩) good (d := 27) (xs := [.agg (exC x12)]) (res := .agg [.str q14.op, .int .i64 q14.v.kind, .int .i64 q14.v.i, .bool q14.v.b, .str q14.v.s, .sl .ro 5 (encs q14.v.t), .int .i64 q14.n, .sl .ro 8 (enxs q14.a)]) rfl rfl rfl rfl rfl rfl rfl (ih _ _ _ h15 (by omega)) ⟨(Wv.refl _), trivial⟩ (by simp) ?_
    refine AL.litC good (d := 28) (rows := [[.str q14.op, .int .i64 q14.v.kind, .int .i64 q14.v.i, .bool q14.v.b, .str q14.v.s, .sl .ro 5 (encs q14.v.t), .int .i64 q14.n, .sl .ro 8 (enxs q14.a)]]) rfl rfl rfl rfl rfl rfl rfl rfl rfl 4 rfl (ColN.mk rfl rfl (fun _ h => by cases h) (fmc ⟨.head _, (fun _ h => by cases h)⟩) (fun _ h => by cases h)) ?_
    obtain ⟨h16, hr⟩ := grd hr
    refine AL.aw2c good (d := 29) (rows := enxs v1_2) (news := [(exC q14)]) (rows2 := enxs (v1_2 ++ [q14])) rfl rfl rfl rfl rfl rfl rfl rfl rfl (by simp) rfl rfl rfl rfl ⟨⟨Wv.refl _, Wv.refl _, Wv.refl _, Wv.refl _, Wv.refl _, Wv.refl _, Wv.refl _, Wv.refl _, trivial⟩, trivial⟩ (by simp [enxs_map]) (by rw [enxs_length, List.length_append]; exact h16) rfl ?_
    refine Av (nc := ⟨rfl⟩) (.ptr 2 7) rfl ?_
    refine AL.st2c good (c2 := [.str a0.op, .int .i64 q1.kind, .int .i64 q1.i, .bool q1.b, .str q1.s, .sl .ro 5 (encs q1.t), .int .i64 a0.n, .sl (.own 3) 8 (enxs (v1_2 ++ [q14]))]) rfl rfl rfl rfl rfl rfl rfl rfl rfl rfl rfl rfl rfl ?_
    refine Rg ?_
    refine Av (.int .i64 (v1_1 : Int)) rfl ?_
    refine Av (.int .i64 (IntKind.i64.wrap ((v1_1 : Int) + 1))) rfl ?_
    refine Av (.int .i64 (IntKind.i64.wrap ((v1_1 : Int) + 1))) rfl ?_
    exact ⟨(m, (v1_1 + 1), (v1_2 ++ [q14])), _, _, rfl, ⟨(fun _ h => by cases h), fmc ⟨⟨⟨_, rfl, Wv.refl _⟩, (by simp)⟩, fmc ⟨⟨⟨_, rfl, Wv.refl _⟩, (by simp)⟩, fmc ⟨⟨⟨_, rfl, Wv.refl _⟩, (by simp)⟩, fmc ⟨⟨⟨_, rfl, (wnx h11 hl10)⟩, (by simp)⟩, (fun _ h => by cases h)⟩⟩⟩⟩, fmc ⟨⟨⟨_, rfl, ⟨rfl, ⟨Wv.refl _, Wv.refl _, Wv.refl _, Wv.refl _, Wv.refl _, Wv.refl _, Wv.refl _, Wv.refl _, trivial⟩⟩⟩, (by simp)⟩, fmc ⟨⟨⟨_, rfl, ⟨rfl, ⟨Wv.refl _, Wv.refl _, Wv.refl _, Wv.refl _, Wv.refl _, Wv.refl _, Wv.refl _, Wv.refl _, trivial⟩⟩⟩, (by simp)⟩, fmc ⟨⟨⟨_, rfl, ⟨rfl, ⟨Wv.refl _, Wv.refl _, Wv.refl _, Wv.refl _, Wv.refl _, Wv.refl _, Wv.refl _, Wv.refl _, trivial⟩⟩⟩, (by simp)⟩, fmc ⟨⟨⟨_, rfl, ⟨rfl, rfl, rfl⟩⟩, (by simp)⟩, (fun _ h => by cases h)⟩⟩⟩⟩⟩, ⟨hr, Nat.le_of_succ_le hm⟩, Nat.lt_succ_self _⟩
   ·replace hr := cnd_f h11 hr
    refine AW.exit ?_
    refine AW.seq (Rg ?_)
    refine Av (.agg [.str a0.op, .int .i64 q1.kind, .int .i64 q1.i, .bool q1.b, .str q1.s, .sl .ro 5 (encs q1.t), .int .i64 a0.n, .sl (.own 3) 8 (enxs v1_2)]) rfl ?_
    refine AL.st2 good (c2 := [.str a0.op, .int .i64 q1.kind, .int .i64 q1.i, .bool q1.b, .str q1.s, .sl .ro 5 (encs q1.t), .int .i64 a0.n, .sl (.own 3) 8 (enxs v1_2)]) rfl rfl rfl rfl rfl rfl rfl rfl rfl rfl rfl rfl ?_
    refine AW.ret ?_
    obtain rfl := Option.some.inj hr
    exact RetQ.w good (.inr rfl) rfl rfl ⟨Wv.refl _, Wv.refl _, Wv.refl _, Wv.refl _, Wv.refl _, Wv.refl _, Wv.refl _, ⟨.inr rfl, WvR.refl _, .inl rfl⟩, trivial⟩ (by simp)
theorem w_f19 (n : Nat) : ∀ (a0 : Ex) (r : Ex) (hr : s_f19 n a0 = some r), ACall Tryz.prog 27 [.agg (exC a0)] (.agg (exC r)) := by
 induction n using Nat.strongRecOn with
 | _ n ih =>
  intro a0 r hr
  exact w_f19_a n (fun m a0 r h hm => ih m hm a0 r h) a0 r hr

end
end Go.Proofs.YtbcjcekoonebiaaGreat.Tl
