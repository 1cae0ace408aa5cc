/- Definitions and walks: fields read. Conditions: none. -/
import Derived.Test.YtbcjcekoonebiaaTlYb
set_option linter.unusedVariables false
set_option linter.unusedSimpArgs false
namespace Go.Proofs.Ytbcjcekoonebiaa.Tl
open Go Go.RowKit

structure GReader where
  f0 : List Int
  f1 : Int
  f2 : Int

def s_f144 (n : Nat) (a0 : GReader) : Option (GReader × Int) :=
  (bif (a0.f2 != 0) then some (a0, 0) else (if 0 ≤ a0.f1 ∧ a0.f1.toNat ≤ a0.f0.length then ((s_f145 n (a0.f0.drop a0.f1.toNat)).bind fun q3 => (bif (q3.2.2 != 0) then some ((GReader.mk a0.f0 a0.f1 q3.2.2), 0) else some ((GReader.mk a0.f0 (IntKind.i64.wrap (a0.f1 + q3.2.1)) a0.f2), q3.1))) else none))

theorem w_f144_1 (n : Nat) (a0 : GReader) (r : GReader × Int) (hr : s_f144 n a0 = some r) : ACallH Try.prog 144 [.ptr 1 0, .func 145 [] []] [(1, .box 160 [.sl .ro 1 (r_int_u8 a0.f0), .int .i64 a0.f1, .int .i64 a0.f2])] [(1, .box 160 [.sl .ro 1 (r_int_u8 r.1.f0), .int .i64 r.1.f1, .int .i64 r.1.f2])] (.int .u8 r.2) := by
  refine ACallH.go [(0, .ptr 1 0), (1, .func 145 [] [])] [(1, .box 160 [.sl .ro 1 (r_int_u8 a0.f0), .int .i64 a0.f1, .int .i64 a0.f2])] Try.func144 rfl Try.ntmps144 rfl rfl rfl (by simp [pureA, pureL, pureR, inA, inL, inR, inO, idsIn, encs_pure, enxs_pure, enys_pure, valC_pure, exC_pure, tyC_pure, r_int_u8_pure]) (List.forall_mem_cons.2 ⟨(by simp [pureA, pureL, pureR, inA, inL, inR, inO, idsIn, encs_pure, enxs_pure, enys_pure, valC_pure, exC_pure, tyC_pure, r_int_u8_pure]), (fun _ h => by cases h)⟩) (List.forall_mem_cons.2 ⟨⟨rfl, (by simp [pureA, pureL, pureR, inA, inL, inR, inO, idsIn, encs_pure, enxs_pure, enys_pure, valC_pure, exC_pure, tyC_pure, r_int_u8_pure])⟩, (fun _ h => by cases h)⟩) (by simp [pureA, pureL, pureR, inA, inL, inR, inO, idsIn, encs_pure, enxs_pure, enys_pure, valC_pure, exC_pure, tyC_pure, r_int_u8_pure]) ?_
  rw [s_f144] at hr
  refine AW.seq ?_
  refine AW.region (M := fun _ => true) ?_
  refine AL.v good (d := 4) (v := .int .u8 0) rfl rfl rfl rfl ?_
  refine AW.seq ?_
  refine AW.region (M := fun _ => true) ?_
  refine AL.v good (d := 5) (v := .int .u8 0) rfl rfl rfl rfl ?_
  refine AW.seq ?_
  refine AW.seq ?_
  refine AW.region (M := fun _ => true) ?_
  refine AL.v good (d := 9) (v := .ptr 1 0) rfl rfl rfl rfl ?_
  refine AL.v good (d := 10) (v := .ptr 1 0) rfl rfl rfl rfl ?_
  refine AL.v good (d := 11) (v := .ptr 1 2) rfl rfl rfl rfl ?_
  refine AL.v good (d := 12) (v := .int .i64 a0.f2) rfl rfl rfl rfl ?_
  refine AL.v good (d := 13) (v := .bool (a0.f2 != 0)) rfl rfl rfl rfl ?_
  refine AW.if rfl (fun h1 => ?_) (fun h1 => ?_)
  · replace hr := cnd_t h1 hr
    refine AW.seq ?_
    refine AW.region (M := fun _ => true) ?_
    refine AL.v good (d := 14) (v := .int .u8 0) rfl rfl rfl rfl ?_
    refine AL.v good (d := 4) (v := .int .u8 0) rfl rfl rfl rfl ?_
    refine AW.ret ?_
    obtain rfl := Option.some.inj hr
    exact RetH.w good (.inr rfl) rfl rfl (Wv.refl _) (List.forall_mem_cons.2 ⟨rfl, (fun _ h => by cases h)⟩)
  · replace hr := cnd_f h1 hr
    refine AW.skip ?_
    refine AW.seq ?_
    refine AW.drawc (M := fun i => ⟨false, bif Nat.beq i 4 then some [1] else bif Nat.beq i 8 then some [1] else none⟩) good.wide (by kernel_rfl) ?_
    refine AL.v (nc := ⟨rfl⟩) good (d := 16) (v := .func 145 [] []) rfl rfl rfl rfl ?_
    refine AL.v (nc := ⟨rfl⟩) good (d := 17) (v := .ptr 1 0) rfl rfl rfl rfl ?_
    refine AL.v (nc := ⟨rfl⟩) good (d := 18) (v := .ptr 1 0) rfl rfl rfl rfl ?_
    refine AL.v (nc := ⟨rfl⟩) good (d := 19) (v := .ptr 1 0) rfl rfl rfl rfl ?_
    refine AL.vc good (d := 20) (v := .sl .ro 1 (r_int_u8 a0.f0)) rfl rfl rfl rfl rfl (List.forall_mem_cons.2 ⟨.head _, (fun _ h => by cases h)⟩) ?_
    refine AL.v (nc := ⟨rfl⟩) good (d := 21) (v := .ptr 1 0) rfl rfl rfl rfl ?_
    refine AL.v (nc := ⟨rfl⟩) good (d := 22) (v := .ptr 1 0) rfl rfl rfl rfl ?_
    refine AL.v (nc := ⟨rfl⟩) good (d := 23) (v := .ptr 1 1) rfl rfl rfl rfl ?_
    refine AL.vc good (d := 24) (v := .int .i64 a0.f1) rfl rfl rfl rfl rfl (List.forall_mem_cons.2 ⟨.head _, (fun _ h => by cases h)⟩) ?_
    obtain ⟨h2, hr⟩ := grd hr
    refine AL.sc (nc := ⟨rfl⟩) good (d := 25) (rows := r_int_u8 a0.f0) (rows2 := r_int_u8 (a0.f0.drop a0.f1.toNat)) (m := a0.f0.length) (l := a0.f1.toNat) (h := a0.f0.length) rfl rfl rfl rfl rfl rfl rfl (r_int_u8_length _) rfl (bndS rfl h2.1 h2.2) (by exact rowF_drop _ _ _) ?_
    obtain ⟨q3, h4, hr⟩ := bnd1 hr
    refine AL.cw (nc := ⟨rfl⟩) good (d := 26) (xs := [.sl .ro 1 (r_int_u8 (a0.f0.drop a0.f1.toNat))]) (res := .tup [.int .u8 q3.1, .int .i64 q3.2.1, .int .i64 q3.2.2]) rfl rfl rfl rfl rfl rfl rfl (w_f145 _ _ _ h4) ⟨(Wv.refl _), trivial⟩ (by simp [pureA, pureL, pureR, inA, inL, inR, inO, idsIn, encs_pure, enxs_pure, enys_pure, valC_pure, exC_pure, tyC_pure, r_int_u8_pure]) ?_
    refine AL.v (nc := ⟨rfl⟩) good (d := 15) (v := .tup [.int .u8 q3.1, .int .i64 q3.2.1, .int .i64 q3.2.2]) rfl rfl rfl rfl ?_
    refine AL.v (nc := ⟨rfl⟩) good (d := 27) (v := .int .u8 q3.1) rfl rfl rfl rfl ?_
    refine AL.v (nc := ⟨rfl⟩) good (d := 28) (v := .int .i64 q3.2.1) rfl rfl rfl rfl ?_
    refine AL.v (nc := ⟨rfl⟩) good (d := 29) (v := .int .i64 q3.2.2) rfl rfl rfl rfl ?_
    refine AL.v (nc := ⟨rfl⟩) good (d := 6) (v := .int .u8 q3.1) rfl rfl rfl rfl ?_
    refine AL.v (nc := ⟨rfl⟩) good (d := 7) (v := .int .i64 q3.2.1) rfl rfl rfl rfl ?_
    refine AL.v (nc := ⟨rfl⟩) good (d := 8) (v := .int .i64 q3.2.2) rfl rfl rfl rfl ?_
    refine AW.seq ?_
    refine AW.seq ?_
    refine AW.region (M := fun _ => true) ?_
    refine AL.v good (d := 30) (v := .int .i64 q3.2.2) rfl rfl rfl rfl ?_
    refine AL.v good (d := 31) (v := .bool (q3.2.2 != 0)) rfl rfl rfl rfl ?_
    refine AW.if rfl (fun h5 => ?_) (fun h5 => ?_)
    · replace hr := cnd_t h5 hr
      refine AW.seq ?_
      refine AW.region (M := fun _ => true) ?_
      refine AL.v good (d := 32) (v := .ptr 1 0) rfl rfl rfl rfl ?_
      refine AL.v good (d := 33) (v := .int .i64 q3.2.2) rfl rfl rfl rfl ?_
      refine AL.v good (d := 34) (v := .ptr 1 0) rfl rfl rfl rfl ?_
      refine AL.v good (d := 35) (v := .ptr 1 2) rfl rfl rfl rfl ?_
      refine AL.st2 good (c2 := [.sl .ro 1 (r_int_u8 a0.f0), .int .i64 a0.f1, .int .i64 q3.2.2]) rfl rfl rfl rfl rfl rfl rfl rfl rfl rfl rfl rfl ?_
      refine AW.seq ?_
      refine AW.region (M := fun _ => true) ?_
      refine AL.v good (d := 36) (v := .int .u8 0) rfl rfl rfl rfl ?_
      refine AL.v good (d := 4) (v := .int .u8 0) rfl rfl rfl rfl ?_
      refine AW.ret ?_
      obtain rfl := Option.some.inj hr
      exact RetH.w good (.inr rfl) rfl rfl (Wv.refl _) (List.forall_mem_cons.2 ⟨rfl, (fun _ h => by cases h)⟩)
    · replace hr := cnd_f h5 hr
      refine AW.skip ?_
      refine AW.seq ?_
      refine AW.region (M := fun _ => true) ?_
      refine AL.v good (d := 37) (v := .ptr 1 0) rfl rfl rfl rfl ?_
      refine AL.v good (d := 38) (v := .ptr 1 0) rfl rfl rfl rfl ?_
      refine AL.v good (d := 39) (v := .ptr 1 1) rfl rfl rfl rfl ?_
      refine AL.v good (d := 40) (v := .int .i64 a0.f1) rfl rfl rfl rfl ?_
      refine AL.v good (d := 41) (v := .int .i64 q3.2.1) rfl rfl rfl rfl ?_
      refine AL.v good (d := 42) (v := .int .i64 (IntKind.i64.wrap (a0.f1 + q3.2.1))) rfl rfl rfl rfl ?_
      refine AL.v good (d := 43) (v := .ptr 1 0) rfl rfl rfl rfl ?_
      refine AL.v good (d := 44) (v := .ptr 1 1) rfl rfl rfl rfl ?_
      refine AL.st2 good (c2 := [.sl .ro 1 (r_int_u8 a0.f0), .int .i64 (IntKind.i64.wrap (a0.f1 + q3.2.1)), .int .i64 a0.f2]) rfl rfl rfl rfl rfl rfl rfl rfl rfl rfl rfl rfl ?_
      refine AW.seq ?_
      refine AW.region (M := fun _ => true) ?_
      refine AL.v good (d := 45) (v := .int .u8 q3.1) rfl rfl rfl rfl ?_
      refine AL.v good (d := 4) (v := .int .u8 q3.1) rfl rfl rfl rfl ?_
      refine AW.ret ?_
      obtain rfl := Option.some.inj hr
      exact RetH.w good (.inr rfl) rfl rfl (Wv.refl _) (List.forall_mem_cons.2 ⟨rfl, (fun _ h => by cases h)⟩)

def s_f114 (n : Nat) (a0 : GReader) : Option (GReader × Int) :=
  ((s_f144 n a0).bind fun q1 => some (q1.1, q1.2))

theorem w_f114_1 (n : Nat) (a0 : GReader) (r : GReader × Int) (hr : s_f114 n a0 = some r) : ACallH Try.prog 114 [.ptr 1 0] [(1, .box 160 [.sl .ro 1 (r_int_u8 a0.f0), .int .i64 a0.f1, .int .i64 a0.f2])] [(1, .box 160 [.sl .ro 1 (r_int_u8 r.1.f0), .int .i64 r.1.f1, .int .i64 r.1.f2])] (.int .u8 r.2) := by
  refine ACallH.go [(0, .ptr 1 0)] [(1, .box 160 [.sl .ro 1 (r_int_u8 a0.f0), .int .i64 a0.f1, .int .i64 a0.f2])] Try.func114 rfl Try.ntmps114 rfl rfl rfl (by simp [pureA, pureL, pureR, inA, inL, inR, inO, idsIn, encs_pure, enxs_pure, enys_pure, valC_pure, exC_pure, tyC_pure, r_int_u8_pure]) (List.forall_mem_cons.2 ⟨(by simp [pureA, pureL, pureR, inA, inL, inR, inO, idsIn, encs_pure, enxs_pure, enys_pure, valC_pure, exC_pure, tyC_pure, r_int_u8_pure]), (fun _ h => by cases h)⟩) (List.forall_mem_cons.2 ⟨⟨rfl, (by simp [pureA, pureL, pureR, inA, inL, inR, inO, idsIn, encs_pure, enxs_pure, enys_pure, valC_pure, exC_pure, tyC_pure, r_int_u8_pure])⟩, (fun _ h => by cases h)⟩) (by simp [pureA, pureL, pureR, inA, inL, inR, inO, idsIn, encs_pure, enxs_pure, enys_pure, valC_pure, exC_pure, tyC_pure, r_int_u8_pure]) ?_
  rw [s_f114] at hr
  refine AW.seq ?_
  refine AW.region (M := fun _ => true) ?_
  refine AL.v good (d := 2) (v := .int .u8 0) rfl rfl rfl rfl ?_
  refine AW.seq ?_
  refine AW.region (M := fun _ => true) ?_
  refine AL.v good (d := 3) (v := .ptr 1 0) rfl rfl rfl rfl ?_
  obtain ⟨q1, h2, hr⟩ := bnd1 hr
  refine AL.clW good (d := 4) (xs := [.ptr 1 0, .func 145 [] []]) (rd := [(1, .box 160 [.sl .ro 1 (r_int_u8 a0.f0), .int .i64 a0.f1, .int .i64 a0.f2])]) (up := [(1, .box 160 [.sl .ro 1 (r_int_u8 q1.1.f0), .int .i64 q1.1.f1, .int .i64 q1.1.f2])]) (res := .int .u8 q1.2) rfl rfl rfl rfl rfl rfl rfl (w_f144_1 _ _ _ h2) ⟨(Wv.refl _), (Wv.refl _), trivial⟩ (List.forall_mem_cons.2 ⟨rfl, (fun _ h => by cases h)⟩) (List.forall_mem_cons.2 ⟨⟨_, .head _⟩, (fun _ h => by cases h)⟩) rfl rfl ?_
  refine AL.v good (d := 2) (v := .int .u8 q1.2) rfl rfl rfl rfl ?_
  refine AW.ret ?_
  obtain rfl := Option.some.inj hr
  exact RetH.w good (.inr rfl) rfl rfl (Wv.refl _) (List.forall_mem_cons.2 ⟨rfl, (fun _ h => by cases h)⟩)

def s_f146 (n : Nat) (a0 : GReader) : Option (GReader × Int) :=
  (bif (a0.f2 != 0) then some (a0, 0) else (if 0 ≤ a0.f1 ∧ a0.f1.toNat ≤ a0.f0.length then ((s_f78 n (a0.f0.drop a0.f1.toNat)).bind fun q3 => (bif (q3.2.2 != 0) then some ((GReader.mk a0.f0 a0.f1 q3.2.2), 0) else some ((GReader.mk a0.f0 (IntKind.i64.wrap (a0.f1 + q3.2.1)) a0.f2), q3.1))) else none))

theorem w_f146_1 (n : Nat) (a0 : GReader) (r : GReader × Int) (hr : s_f146 n a0 = some r) : ACallH Try.prog 146 [.ptr 1 0, .func 78 [] []] [(1, .box 160 [.sl .ro 1 (r_int_u8 a0.f0), .int .i64 a0.f1, .int .i64 a0.f2])] [(1, .box 160 [.sl .ro 1 (r_int_u8 r.1.f0), .int .i64 r.1.f1, .int .i64 r.1.f2])] (.int .u64 r.2) := by
  refine ACallH.go [(0, .ptr 1 0), (1, .func 78 [] [])] [(1, .box 160 [.sl .ro 1 (r_int_u8 a0.f0), .int .i64 a0.f1, .int .i64 a0.f2])] Try.func146 rfl Try.ntmps146 rfl rfl rfl (by simp [pureA, pureL, pureR, inA, inL, inR, inO, idsIn, encs_pure, enxs_pure, enys_pure, valC_pure, exC_pure, tyC_pure, r_int_u8_pure]) (List.forall_mem_cons.2 ⟨(by simp [pureA, pureL, pureR, inA, inL, inR, inO, idsIn, encs_pure, enxs_pure, enys_pure, valC_pure, exC_pure, tyC_pure, r_int_u8_pure]), (fun _ h => by cases h)⟩) (List.forall_mem_cons.2 ⟨⟨rfl, (by simp [pureA, pureL, pureR, inA, inL, inR, inO, idsIn, encs_pure, enxs_pure, enys_pure, valC_pure, exC_pure, tyC_pure, r_int_u8_pure])⟩, (fun _ h => by cases h)⟩) (by simp [pureA, pureL, pureR, inA, inL, inR, inO, idsIn, encs_pure, enxs_pure, enys_pure, valC_pure, exC_pure, tyC_pure, r_int_u8_pure]) ?_
  rw [s_f146] at hr
  refine AW.seq ?_
  refine AW.region (M := fun _ => true) ?_
  refine AL.v good (d := 4) (v := .int .u64 0) rfl rfl rfl rfl ?_
  refine AW.seq ?_
  refine AW.region (M := fun _ => true) ?_
  refine AL.v good (d := 5) (v := .int .u64 0) rfl rfl rfl rfl ?_
  refine AW.seq ?_
  refine AW.seq ?_
  refine AW.region (M := fun _ => true) ?_
  refine AL.v good (d := 9) (v := .ptr 1 0) rfl rfl rfl rfl ?_
  refine AL.v good (d := 10) (v := .ptr 1 0) rfl rfl rfl rfl ?_
  refine AL.v good (d := 11) (v := .ptr 1 2) rfl rfl rfl rfl ?_
  refine AL.v good (d := 12) (v := .int .i64 a0.f2) rfl rfl rfl rfl ?_
  refine AL.v good (d := 13) (v := .bool (a0.f2 != 0)) rfl rfl rfl rfl ?_
  refine AW.if rfl (fun h1 => ?_) (fun h1 => ?_)
  · replace hr := cnd_t h1 hr
    refine AW.seq ?_
    refine AW.region (M := fun _ => true) ?_
    refine AL.v good (d := 14) (v := .int .u64 0) rfl rfl rfl rfl ?_
    refine AL.v good (d := 4) (v := .int .u64 0) rfl rfl rfl rfl ?_
    refine AW.ret ?_
    obtain rfl := Option.some.inj hr
    exact RetH.w good (.inr rfl) rfl rfl (Wv.refl _) (List.forall_mem_cons.2 ⟨rfl, (fun _ h => by cases h)⟩)
  · replace hr := cnd_f h1 hr
    refine AW.skip ?_
    refine AW.seq ?_
    refine AW.drawc (M := fun i => ⟨false, bif Nat.beq i 4 then some [1] else bif Nat.beq i 8 then some [1] else none⟩) good.wide (by kernel_rfl) ?_
    refine AL.v (nc := ⟨rfl⟩) good (d := 16) (v := .func 78 [] []) rfl rfl rfl rfl ?_
    refine AL.v (nc := ⟨rfl⟩) good (d := 17) (v := .ptr 1 0) rfl rfl rfl rfl ?_
    refine AL.v (nc := ⟨rfl⟩) good (d := 18) (v := .ptr 1 0) rfl rfl rfl rfl ?_
    refine AL.v (nc := ⟨rfl⟩) good (d := 19) (v := .ptr 1 0) rfl rfl rfl rfl ?_
    refine AL.vc good (d := 20) (v := .sl .ro 1 (r_int_u8 a0.f0)) rfl rfl rfl rfl rfl (List.forall_mem_cons.2 ⟨.head _, (fun _ h => by cases h)⟩) ?_
    refine AL.v (nc := ⟨rfl⟩) good (d := 21) (v := .ptr 1 0) rfl rfl rfl rfl ?_
    refine AL.v (nc := ⟨rfl⟩) good (d := 22) (v := .ptr 1 0) rfl rfl rfl rfl ?_
    refine AL.v (nc := ⟨rfl⟩) good (d := 23) (v := .ptr 1 1) rfl rfl rfl rfl ?_
    refine AL.vc good (d := 24) (v := .int .i64 a0.f1) rfl rfl rfl rfl rfl (List.forall_mem_cons.2 ⟨.head _, (fun _ h => by cases h)⟩) ?_
    obtain ⟨h2, hr⟩ := grd hr
    refine AL.sc (nc := ⟨rfl⟩) good (d := 25) (rows := r_int_u8 a0.f0) (rows2 := r_int_u8 (a0.f0.drop a0.f1.toNat)) (m := a0.f0.length) (l := a0.f1.toNat) (h := a0.f0.length) rfl rfl rfl rfl rfl rfl rfl (r_int_u8_length _) rfl (bndS rfl h2.1 h2.2) (by exact rowF_drop _ _ _) ?_
    obtain ⟨q3, h4, hr⟩ := bnd1 hr
    refine AL.cw (nc := ⟨rfl⟩) good (d := 26) (xs := [.sl .ro 1 (r_int_u8 (a0.f0.drop a0.f1.toNat))]) (res := .tup [.int .u64 q3.1, .int .i64 q3.2.1, .int .i64 q3.2.2]) rfl rfl rfl rfl rfl rfl rfl (w_f78 _ _ _ h4) ⟨(Wv.refl _), trivial⟩ (by simp [pureA, pureL, pureR, inA, inL, inR, inO, idsIn, encs_pure, enxs_pure, enys_pure, valC_pure, exC_pure, tyC_pure, r_int_u8_pure]) ?_
    refine AL.v (nc := ⟨rfl⟩) good (d := 15) (v := .tup [.int .u64 q3.1, .int .i64 q3.2.1, .int .i64 q3.2.2]) rfl rfl rfl rfl ?_
    refine AL.v (nc := ⟨rfl⟩) good (d := 27) (v := .int .u64 q3.1) rfl rfl rfl rfl ?_
    refine AL.v (nc := ⟨rfl⟩) good (d := 28) (v := .int .i64 q3.2.1) rfl rfl rfl rfl ?_
    refine AL.v (nc := ⟨rfl⟩) good (d := 29) (v := .int .i64 q3.2.2) rfl rfl rfl rfl ?_
    refine AL.v (nc := ⟨rfl⟩) good (d := 6) (v := .int .u64 q3.1) rfl rfl rfl rfl ?_
    refine AL.v (nc := ⟨rfl⟩) good (d := 7) (v := .int .i64 q3.2.1) rfl rfl rfl rfl ?_
    refine AL.v (nc := ⟨rfl⟩) good (d := 8) (v := .int .i64 q3.2.2) rfl rfl rfl rfl ?_
    refine AW.seq ?_
    refine AW.seq ?_
    refine AW.region (M := fun _ => true) ?_
    refine AL.v good (d := 30) (v := .int .i64 q3.2.2) rfl rfl rfl rfl ?_
    refine AL.v good (d := 31) (v := .bool (q3.2.2 != 0)) rfl rfl rfl rfl ?_
    refine AW.if rfl (fun h5 => ?_) (fun h5 => ?_)
    · replace hr := cnd_t h5 hr
      refine AW.seq ?_
      refine AW.region (M := fun _ => true) ?_
      refine AL.v good (d := 32) (v := .ptr 1 0) rfl rfl rfl rfl ?_
      refine AL.v good (d := 33) (v := .int .i64 q3.2.2) rfl rfl rfl rfl ?_
      refine AL.v good (d := 34) (v := .ptr 1 0) rfl rfl rfl rfl ?_
      refine AL.v good (d := 35) (v := .ptr 1 2) rfl rfl rfl rfl ?_
      refine AL.st2 good (c2 := [.sl .ro 1 (r_int_u8 a0.f0), .int .i64 a0.f1, .int .i64 q3.2.2]) rfl rfl rfl rfl rfl rfl rfl rfl rfl rfl rfl rfl ?_
      refine AW.seq ?_
      refine AW.region (M := fun _ => true) ?_
      refine AL.v good (d := 36) (v := .int .u64 0) rfl rfl rfl rfl ?_
      refine AL.v good (d := 4) (v := .int .u64 0) rfl rfl rfl rfl ?_
      refine AW.ret ?_
      obtain rfl := Option.some.inj hr
      exact RetH.w good (.inr rfl) rfl rfl (Wv.refl _) (List.forall_mem_cons.2 ⟨rfl, (fun _ h => by cases h)⟩)
    · replace hr := cnd_f h5 hr
      refine AW.skip ?_
      refine AW.seq ?_
      refine AW.region (M := fun _ => true) ?_
      refine AL.v good (d := 37) (v := .ptr 1 0) rfl rfl rfl rfl ?_
      refine AL.v good (d := 38) (v := .ptr 1 0) rfl rfl rfl rfl ?_
      refine AL.v good (d := 39) (v := .ptr 1 1) rfl rfl rfl rfl ?_
      refine AL.v good (d := 40) (v := .int .i64 a0.f1) rfl rfl rfl rfl ?_
      refine AL.v good (d := 41) (v := .int .i64 q3.2.1) rfl rfl rfl rfl ?_
      refine AL.v good (d := 42) (v := .int .i64 (IntKind.i64.wrap (a0.f1 + q3.2.1))) rfl rfl rfl rfl ?_
      refine AL.v good (d := 43) (v := .ptr 1 0) rfl rfl rfl rfl ?_
      refine AL.v good (d := 44) (v := .ptr 1 1) rfl rfl rfl rfl ?_
      refine AL.st2 good (c2 := [.sl .ro 1 (r_int_u8 a0.f0), .int .i64 (IntKind.i64.wrap (a0.f1 + q3.2.1)), .int .i64 a0.f2]) rfl rfl rfl rfl rfl rfl rfl rfl rfl rfl rfl rfl ?_
      refine AW.seq ?_
      refine AW.region (M := fun _ => true) ?_
      refine AL.v good (d := 45) (v := .int .u64 q3.1) rfl rfl rfl rfl ?_
      refine AL.v good (d := 4) (v := .int .u64 q3.1) rfl rfl rfl rfl ?_
      refine AW.ret ?_
      obtain rfl := Option.some.inj hr
      exact RetH.w good (.inr rfl) rfl rfl (Wv.refl _) (List.forall_mem_cons.2 ⟨rfl, (fun _ h => by cases h)⟩)

def s_f115 (n : Nat) (a0 : GReader) : Option (GReader × Int) :=
  ((s_f146 n a0).bind fun q1 => some (q1.1, q1.2))

theorem w_f115_1 (n : Nat) (a0 : GReader) (r : GReader × Int) (hr : s_f115 n a0 = some r) : ACallH Try.prog 115 [.ptr 1 0] [(1, .box 160 [.sl .ro 1 (r_int_u8 a0.f0), .int .i64 a0.f1, .int .i64 a0.f2])] [(1, .box 160 [.sl .ro 1 (r_int_u8 r.1.f0), .int .i64 r.1.f1, .int .i64 r.1.f2])] (.int .u64 r.2) := by
  refine ACallH.go [(0, .ptr 1 0)] [(1, .box 160 [.sl .ro 1 (r_int_u8 a0.f0), .int .i64 a0.f1, .int .i64 a0.f2])] Try.func115 rfl Try.ntmps115 rfl rfl rfl (by simp [pureA, pureL, pureR, inA, inL, inR, inO, idsIn, encs_pure, enxs_pure, enys_pure, valC_pure, exC_pure, tyC_pure, r_int_u8_pure]) (List.forall_mem_cons.2 ⟨(by simp [pureA, pureL, pureR, inA, inL, inR, inO, idsIn, encs_pure, enxs_pure, enys_pure, valC_pure, exC_pure, tyC_pure, r_int_u8_pure]), (fun _ h => by cases h)⟩) (List.forall_mem_cons.2 ⟨⟨rfl, (by simp [pureA, pureL, pureR, inA, inL, inR, inO, idsIn, encs_pure, enxs_pure, enys_pure, valC_pure, exC_pure, tyC_pure, r_int_u8_pure])⟩, (fun _ h => by cases h)⟩) (by simp [pureA, pureL, pureR, inA, inL, inR, inO, idsIn, encs_pure, enxs_pure, enys_pure, valC_pure, exC_pure, tyC_pure, r_int_u8_pure]) ?_
  rw [s_f115] at hr
  refine AW.seq ?_
  refine AW.region (M := fun _ => true) ?_
  refine AL.v good (d := 2) (v := .int .u64 0) rfl rfl rfl rfl ?_
  refine AW.seq ?_
  refine AW.region (M := fun _ => true) ?_
  refine AL.v good (d := 3) (v := .ptr 1 0) rfl rfl rfl rfl ?_
  obtain ⟨q1, h2, hr⟩ := bnd1 hr
  refine AL.clW good (d := 4) (xs := [.ptr 1 0, .func 78 [] []]) (rd := [(1, .box 160 [.sl .ro 1 (r_int_u8 a0.f0), .int .i64 a0.f1, .int .i64 a0.f2])]) (up := [(1, .box 160 [.sl .ro 1 (r_int_u8 q1.1.f0), .int .i64 q1.1.f1, .int .i64 q1.1.f2])]) (res := .int .u64 q1.2) rfl rfl rfl rfl rfl rfl rfl (w_f146_1 _ _ _ h2) ⟨(Wv.refl _), (Wv.refl _), trivial⟩ (List.forall_mem_cons.2 ⟨rfl, (fun _ h => by cases h)⟩) (List.forall_mem_cons.2 ⟨⟨_, .head _⟩, (fun _ h => by cases h)⟩) rfl rfl ?_
  refine AL.v good (d := 2) (v := .int .u64 q1.2) rfl rfl rfl rfl ?_
  refine AW.ret ?_
  obtain rfl := Option.some.inj hr
  exact RetH.w good (.inr rfl) rfl rfl (Wv.refl _) (List.forall_mem_cons.2 ⟨rfl, (fun _ h => by cases h)⟩)

def s_f116 (n : Nat) (a0 : GReader) (a1 : Int) : Option GReader :=
  (bif (a0.f2 == 0) then some (GReader.mk a0.f0 a0.f1 a1) else some a0)

theorem w_f116_1 (n : Nat) (a0 : GReader) (a1 : Int) (r : GReader) (hr : s_f116 n a0 a1 = some r) : ACallH Try.prog 116 [.ptr 1 0, .int .i64 a1] [(1, .box 160 [.sl .ro 1 (r_int_u8 a0.f0), .int .i64 a0.f1, .int .i64 a0.f2])] [(1, .box 160 [.sl .ro 1 (r_int_u8 r.f0), .int .i64 r.f1, .int .i64 r.f2])] (.tup []) := by
  refine ACallH.go [(0, .ptr 1 0), (1, .int .i64 a1)] [(1, .box 160 [.sl .ro 1 (r_int_u8 a0.f0), .int .i64 a0.f1, .int .i64 a0.f2])] Try.func116 rfl Try.ntmps116 rfl rfl rfl (by simp [pureA, pureL, pureR, inA, inL, inR, inO, idsIn, encs_pure, enxs_pure, enys_pure, valC_pure, exC_pure, tyC_pure, r_int_u8_pure]) (List.forall_mem_cons.2 ⟨(by simp [pureA, pureL, pureR, inA, inL, inR, inO, idsIn, encs_pure, enxs_pure, enys_pure, valC_pure, exC_pure, tyC_pure, r_int_u8_pure]), (fun _ h => by cases h)⟩) (List.forall_mem_cons.2 ⟨⟨rfl, (by simp [pureA, pureL, pureR, inA, inL, inR, inO, idsIn, encs_pure, enxs_pure, enys_pure, valC_pure, exC_pure, tyC_pure, r_int_u8_pure])⟩, (fun _ h => by cases h)⟩) (by simp [pureA, pureL, pureR, inA, inL, inR, inO, idsIn, encs_pure, enxs_pure, enys_pure, valC_pure, exC_pure, tyC_pure, r_int_u8_pure]) ?_
  rw [s_f116] at hr
  refine AW.seq ?_
  refine AW.region (M := fun _ => true) ?_
  refine AL.v good (d := 4) (v := .ptr 1 0) rfl rfl rfl rfl ?_
  refine AL.v good (d := 5) (v := .ptr 1 0) rfl rfl rfl rfl ?_
  refine AL.v good (d := 6) (v := .ptr 1 2) rfl rfl rfl rfl ?_
  refine AL.v good (d := 7) (v := .int .i64 a0.f2) rfl rfl rfl rfl ?_
  refine AL.v good (d := 8) (v := .bool (a0.f2 == 0)) rfl rfl rfl rfl ?_
  refine AW.if rfl (fun h1 => ?_) (fun h1 => ?_)
  · replace hr := cnd_t h1 hr
    refine AW.region (M := fun _ => true) ?_
    refine AL.v good (d := 9) (v := .ptr 1 0) rfl rfl rfl rfl ?_
    refine AL.v good (d := 10) (v := .int .i64 a1) rfl rfl rfl rfl ?_
    refine AL.v good (d := 11) (v := .ptr 1 0) rfl rfl rfl rfl ?_
    refine AL.v good (d := 12) (v := .ptr 1 2) rfl rfl rfl rfl ?_
    refine AL.st2 good (c2 := [.sl .ro 1 (r_int_u8 a0.f0), .int .i64 a0.f1, .int .i64 a1]) rfl rfl rfl rfl rfl rfl rfl rfl rfl rfl rfl rfl ?_
    obtain rfl := Option.some.inj hr
    exact RetH.w good (.inl rfl) rfl rfl (Wv.refl _) (List.forall_mem_cons.2 ⟨rfl, (fun _ h => by cases h)⟩)
  · replace hr := cnd_f h1 hr
    refine AW.skip ?_
    obtain rfl := Option.some.inj hr
    exact RetH.w good (.inl rfl) rfl rfl (Wv.refl _) (List.forall_mem_cons.2 ⟨rfl, (fun _ h => by cases h)⟩)

def s_f117 (n : Nat) (a0 : GReader) (a1 : Int) : Option (GReader × ByteArray) :=
  (bif (a0.f2 != 0) then some (a0, ⟨#[]⟩) else (if 0 ≤ a0.f1 ∧ a0.f1.toNat ≤ a0.f0.length then ((s_f143 n (a0.f0.drop a0.f1.toNat) a1).bind fun q3 => (bif (q3.2.2 != 0) then some ((GReader.mk a0.f0 a0.f1 q3.2.2), ⟨#[]⟩) else some ((GReader.mk a0.f0 (IntKind.i64.wrap (a0.f1 + q3.2.1)) a0.f2), q3.1))) else none))

theorem w_f117_1 (n : Nat) (a0 : GReader) (a1 : Int) (r : GReader × ByteArray) (hr : s_f117 n a0 a1 = some r) : ACallH Try.prog 117 [.ptr 1 0, .func 143 [] [.ep [.int .u64 a1]]] [(1, .box 160 [.sl .ro 1 (r_int_u8 a0.f0), .int .i64 a0.f1, .int .i64 a0.f2])] [(1, .box 160 [.sl .ro 1 (r_int_u8 r.1.f0), .int .i64 r.1.f1, .int .i64 r.1.f2])] (.str r.2) := by
  refine ACallH.go [(0, .ptr 1 0), (1, .func 143 [] [.ep [.int .u64 a1]])] [(1, .box 160 [.sl .ro 1 (r_int_u8 a0.f0), .int .i64 a0.f1, .int .i64 a0.f2])] Try.func117 rfl Try.ntmps117 rfl rfl rfl (by simp [pureA, pureL, pureR, inA, inL, inR, inO, idsIn, encs_pure, enxs_pure, enys_pure, valC_pure, exC_pure, tyC_pure, r_int_u8_pure]) (List.forall_mem_cons.2 ⟨(by simp [pureA, pureL, pureR, inA, inL, inR, inO, idsIn, encs_pure, enxs_pure, enys_pure, valC_pure, exC_pure, tyC_pure, r_int_u8_pure]), (fun _ h => by cases h)⟩) (List.forall_mem_cons.2 ⟨⟨rfl, (by simp [pureA, pureL, pureR, inA, inL, inR, inO, idsIn, encs_pure, enxs_pure, enys_pure, valC_pure, exC_pure, tyC_pure, r_int_u8_pure])⟩, (fun _ h => by cases h)⟩) (by simp [pureA, pureL, pureR, inA, inL, inR, inO, idsIn, encs_pure, enxs_pure, enys_pure, valC_pure, exC_pure, tyC_pure, r_int_u8_pure]) ?_
  rw [s_f117] at hr
  refine AW.seq ?_
  refine AW.region (M := fun _ => true) ?_
  refine AL.v good (d := 4) (v := .str ⟨#[]⟩) rfl rfl rfl rfl ?_
  refine AW.seq ?_
  refine AW.region (M := fun _ => true) ?_
  refine AL.v good (d := 5) (v := .str ⟨#[]⟩) rfl rfl rfl rfl ?_
  refine AW.seq ?_
  refine AW.seq ?_
  refine AW.region (M := fun _ => true) ?_
  refine AL.v good (d := 9) (v := .ptr 1 0) rfl rfl rfl rfl ?_
  refine AL.v good (d := 10) (v := .ptr 1 0) rfl rfl rfl rfl ?_
  refine AL.v good (d := 11) (v := .ptr 1 2) rfl rfl rfl rfl ?_
  refine AL.v good (d := 12) (v := .int .i64 a0.f2) rfl rfl rfl rfl ?_
  refine AL.v good (d := 13) (v := .bool (a0.f2 != 0)) rfl rfl rfl rfl ?_
  refine AW.if rfl (fun h1 => ?_) (fun h1 => ?_)
  · replace hr := cnd_t h1 hr
    refine AW.seq ?_
    refine AW.region (M := fun _ => true) ?_
    refine AL.v good (d := 14) (v := .str ⟨#[]⟩) rfl rfl rfl rfl ?_
    refine AL.v good (d := 4) (v := .str ⟨#[]⟩) rfl rfl rfl rfl ?_
    refine AW.ret ?_
    obtain rfl := Option.some.inj hr
    exact RetH.w good (.inr rfl) rfl rfl (Wv.refl _) (List.forall_mem_cons.2 ⟨rfl, (fun _ h => by cases h)⟩)
  · replace hr := cnd_f h1 hr
    refine AW.skip ?_
    refine AW.seq ?_
    refine AW.drawc (M := fun i => ⟨false, bif Nat.beq i 4 then some [1] else bif Nat.beq i 8 then some [1] else none⟩) good.wide (by kernel_rfl) ?_
    refine AL.v (nc := ⟨rfl⟩) good (d := 16) (v := .func 143 [] [.ep [.int .u64 a1]]) rfl rfl rfl rfl ?_
    refine AL.v (nc := ⟨rfl⟩) good (d := 17) (v := .ptr 1 0) rfl rfl rfl rfl ?_
    refine AL.v (nc := ⟨rfl⟩) good (d := 18) (v := .ptr 1 0) rfl rfl rfl rfl ?_
    refine AL.v (nc := ⟨rfl⟩) good (d := 19) (v := .ptr 1 0) rfl rfl rfl rfl ?_
    refine AL.vc good (d := 20) (v := .sl .ro 1 (r_int_u8 a0.f0)) rfl rfl rfl rfl rfl (List.forall_mem_cons.2 ⟨.head _, (fun _ h => by cases h)⟩) ?_
    refine AL.v (nc := ⟨rfl⟩) good (d := 21) (v := .ptr 1 0) rfl rfl rfl rfl ?_
    refine AL.v (nc := ⟨rfl⟩) good (d := 22) (v := .ptr 1 0) rfl rfl rfl rfl ?_
    refine AL.v (nc := ⟨rfl⟩) good (d := 23) (v := .ptr 1 1) rfl rfl rfl rfl ?_
    refine AL.vc good (d := 24) (v := .int .i64 a0.f1) rfl rfl rfl rfl rfl (List.forall_mem_cons.2 ⟨.head _, (fun _ h => by cases h)⟩) ?_
    obtain ⟨h2, hr⟩ := grd hr
    refine AL.sc (nc := ⟨rfl⟩) good (d := 25) (rows := r_int_u8 a0.f0) (rows2 := r_int_u8 (a0.f0.drop a0.f1.toNat)) (m := a0.f0.length) (l := a0.f1.toNat) (h := a0.f0.length) rfl rfl rfl rfl rfl rfl rfl (r_int_u8_length _) rfl (bndS rfl h2.1 h2.2) (by exact rowF_drop _ _ _) ?_
    obtain ⟨q3, h4, hr⟩ := bnd1 hr
    refine AL.cw (nc := ⟨rfl⟩) good (d := 26) (xs := [.sl .ro 1 (r_int_u8 (a0.f0.drop a0.f1.toNat)), .ep [.int .u64 a1]]) (res := .tup [.str q3.1, .int .i64 q3.2.1, .int .i64 q3.2.2]) rfl rfl rfl rfl rfl rfl rfl (w_f143 _ _ _ _ h4) ⟨(Wv.refl _), (Wv.refl _), trivial⟩ (by simp [pureA, pureL, pureR, inA, inL, inR, inO, idsIn, encs_pure, enxs_pure, enys_pure, valC_pure, exC_pure, tyC_pure, r_int_u8_pure]) ?_
    refine AL.v (nc := ⟨rfl⟩) good (d := 15) (v := .tup [.str q3.1, .int .i64 q3.2.1, .int .i64 q3.2.2]) rfl rfl rfl rfl ?_
    refine AL.v (nc := ⟨rfl⟩) good (d := 27) (v := .str q3.1) rfl rfl rfl rfl ?_
    refine AL.v (nc := ⟨rfl⟩) good (d := 28) (v := .int .i64 q3.2.1) rfl rfl rfl rfl ?_
    refine AL.v (nc := ⟨rfl⟩) good (d := 29) (v := .int .i64 q3.2.2) rfl rfl rfl rfl ?_
    refine AL.v (nc := ⟨rfl⟩) good (d := 6) (v := .str q3.1) rfl rfl rfl rfl ?_
    refine AL.v (nc := ⟨rfl⟩) good (d := 7) (v := .int .i64 q3.2.1) rfl rfl rfl rfl ?_
    refine AL.v (nc := ⟨rfl⟩) good (d := 8) (v := .int .i64 q3.2.2) rfl rfl rfl rfl ?_
    refine AW.seq ?_
    refine AW.seq ?_
    refine AW.region (M := fun _ => true) ?_
    refine AL.v good (d := 30) (v := .int .i64 q3.2.2) rfl rfl rfl rfl ?_
    refine AL.v good (d := 31) (v := .bool (q3.2.2 != 0)) rfl rfl rfl rfl ?_
    refine AW.if rfl (fun h5 => ?_) (fun h5 => ?_)
    · replace hr := cnd_t h5 hr
      refine AW.seq ?_
      refine AW.region (M := fun _ => true) ?_
      refine AL.v good (d := 32) (v := .ptr 1 0) rfl rfl rfl rfl ?_
      refine AL.v good (d := 33) (v := .int .i64 q3.2.2) rfl rfl rfl rfl ?_
      refine AL.v good (d := 34) (v := .ptr 1 0) rfl rfl rfl rfl ?_
      refine AL.v good (d := 35) (v := .ptr 1 2) rfl rfl rfl rfl ?_
      refine AL.st2 good (c2 := [.sl .ro 1 (r_int_u8 a0.f0), .int .i64 a0.f1, .int .i64 q3.2.2]) rfl rfl rfl rfl rfl rfl rfl rfl rfl rfl rfl rfl ?_
      refine AW.seq ?_
      refine AW.region (M := fun _ => true) ?_
      refine AL.v good (d := 36) (v := .str ⟨#[]⟩) rfl rfl rfl rfl ?_
      refine AL.v good (d := 4) (v := .str ⟨#[]⟩) rfl rfl rfl rfl ?_
      refine AW.ret ?_
      obtain rfl := Option.some.inj hr
      exact RetH.w good (.inr rfl) rfl rfl (Wv.refl _) (List.forall_mem_cons.2 ⟨rfl, (fun _ h => by cases h)⟩)
    · replace hr := cnd_f h5 hr
      refine AW.skip ?_
      refine AW.seq ?_
      refine AW.region (M := fun _ => true) ?_
      refine AL.v good (d := 37) (v := .ptr 1 0) rfl rfl rfl rfl ?_
      refine AL.v good (d := 38) (v := .ptr 1 0) rfl rfl rfl rfl ?_
      refine AL.v good (d := 39) (v := .ptr 1 1) rfl rfl rfl rfl ?_
      refine AL.v good (d := 40) (v := .int .i64 a0.f1) rfl rfl rfl rfl ?_
      refine AL.v good (d := 41) (v := .int .i64 q3.2.1) rfl rfl rfl rfl ?_
      refine AL.v good (d := 42) (v := .int .i64 (IntKind.i64.wrap (a0.f1 + q3.2.1))) rfl rfl rfl rfl ?_
      refine AL.v good (d := 43) (v := .ptr 1 0) rfl rfl rfl rfl ?_
      refine AL.v good (d := 44) (v := .ptr 1 1) rfl rfl rfl rfl ?_
      refine AL.st2 good (c2 := [.sl .ro 1 (r_int_u8 a0.f0), .int .i64 (IntKind.i64.wrap (a0.f1 + q3.2.1)), .int .i64 a0.f2]) rfl rfl rfl rfl rfl rfl rfl rfl rfl rfl rfl rfl ?_
      refine AW.seq ?_
      refine AW.region (M := fun _ => true) ?_
      refine AL.v good (d := 45) (v := .str q3.1) rfl rfl rfl rfl ?_
      refine AL.v good (d := 4) (v := .str q3.1) rfl rfl rfl rfl ?_
      refine AW.ret ?_
      obtain rfl := Option.some.inj hr
      exact RetH.w good (.inr rfl) rfl rfl (Wv.refl _) (List.forall_mem_cons.2 ⟨rfl, (fun _ h => by cases h)⟩)

end Go.Proofs.Ytbcjcekoonebiaa.Tl
