/- Definitions and walks: a stack of a machine. Conditions: none. -/
import Derived.Test.YtbcjcekoonebiaaTlMa
set_option linter.unusedVariables false
set_option linter.unusedSimpArgs false
namespace Go.Proofs.Ytbcjcekoonebiaa.Tl
open Go Go.RowKit




theorem w_clone110_2 (ver lo : Nat) (l : List Val) (h : lo ≤ l.length ∧ l.length ≤ 1000000) : ACallH Try.prog 110 [.mv 2 ver (.view lo (l.length - lo) false)] [(2, .arr 24 5 ver (encs l))] [] (.sl .ro 5 (encs (l.drop lo))) := by
  have k2 : ACallH Try.prog 110 [.mv 2 ver (.view lo (l.length - lo) true)] [(2, .arr 24 5 ver (encs l))] [] (.sl .ro 5 (encs (l.drop lo))) := by
    refine ACallH.go [(0, .mv 2 ver (.view lo (l.length - lo) true))] [(2, .arr 24 5 ver (encs l))] Try.func110 rfl Try.ntmps110 rfl rfl rfl (by simp [pureA, pureL, pureR, inA, inL, inR, inO, idsIn, encs_pure, enxs_pure, enys_pure, valC_pure, exC_pure, tyC_pure, r_int_u8_pure]) (List.forall_mem_cons.2 ⟨(by simp [pureA, pureL, pureR, inA, inL, inR, inO, idsIn, encs_pure, enxs_pure, enys_pure, valC_pure, exC_pure, tyC_pure, r_int_u8_pure]), (fun _ h => by cases h)⟩) (fun _ h => by cases h) (by simp [pureA, pureL, pureR, inA, inL, inR, inO, idsIn, encs_pure, enxs_pure, enys_pure, valC_pure, exC_pure, tyC_pure, r_int_u8_pure]) ?_
    refine AW.seq ?_
    refine AW.region (M := fun _ => true) ?_
    refine AL.v good (d := 2) (v := .sl .nil 0 []) rfl rfl rfl rfl ?_
    refine AW.seq ?_
    refine AW.seq ?_
    refine AW.region (M := fun _ => true) ?_
    refine AL.v good (d := 3) (v := .mv 2 ver (.view lo (l.length - lo) true)) rfl rfl rfl rfl ?_
    refine AL.v good (d := 4) (v := .bool false) rfl rfl rfl rfl ?_
    refine AW.if rfl (fun h => by cases h) (fun _ => ?_)
    refine AW.skip ?_
    refine AW.seq ?_
    refine AW.region (M := fun _ => true) ?_
    refine AL.lit good (d := 5) (rows := []) rfl rfl rfl rfl rfl rfl rfl rfl rfl 3 rfl ?_
    refine AL.v good (d := 6) (v := .mv 2 ver (.view lo (l.length - lo) true)) rfl rfl rfl rfl ?_
    refine AL.avw good (d := 7) rfl rfl rfl rfl rfl rfl rfl rfl rfl rfl rfl rfl (by rw [encs_length]; omega) (by omega) rfl rfl (fun _ _ => ⟨ColN.no, ColN.no⟩) ?_
    refine AL.v good (d := 2) (v := .sl (.own 3) 5 (((encs l).drop lo).take (l.length - lo))) rfl rfl rfl rfl ?_
    refine AW.ret ?_
    have e : ((encs l).drop lo).take (l.length - lo) = encs (l.drop lo) := by
      rw [List.take_of_length_le (by rw [List.length_drop, encs_length]; omega)]; exact encs_drop _ _
    exact RetH.w good (.inr rfl) rfl rfl ⟨.inr rfl, by rw [e]; exact WvR.refl _, .inl rfl⟩ (List.forall_mem_cons.2 ⟨rfl, (fun _ h => by cases h)⟩)
  by_cases h0 : l.length - lo = 0
  · have e0 : l.drop lo = [] := List.drop_eq_nil_iff.2 (by omega)
    have k1 : ACallH Try.prog 110 [.sl .nil 5 []] [(2, .arr 24 5 ver (encs l))] [] (.sl .ro 5 (encs (l.drop lo))) := by
      refine ACallH.go [(0, .sl .nil 5 [])] [(2, .arr 24 5 ver (encs l))] Try.func110 rfl Try.ntmps110 rfl rfl rfl (by simp [pureA, pureL, pureR, inA, inL, inR, inO, idsIn, encs_pure, enxs_pure, enys_pure, valC_pure, exC_pure, tyC_pure, r_int_u8_pure]) (List.forall_mem_cons.2 ⟨(by simp [pureA, pureL, pureR, inA, inL, inR, inO, idsIn, encs_pure, enxs_pure, enys_pure, valC_pure, exC_pure, tyC_pure, r_int_u8_pure]), (fun _ h => by cases h)⟩) (fun _ h => by cases h) (by simp [pureA, pureL, pureR, inA, inL, inR, inO, idsIn, encs_pure, enxs_pure, enys_pure, valC_pure, exC_pure, tyC_pure, r_int_u8_pure]) ?_
      refine AW.seq ?_
      refine AW.region (M := fun _ => true) ?_
      refine AL.v good (d := 2) (v := .sl .nil 0 []) rfl rfl rfl rfl ?_
      refine AW.seq ?_
      refine AW.seq ?_
      refine AW.region (M := fun _ => true) ?_
      refine AL.v good (d := 3) (v := .sl .nil 5 []) rfl rfl rfl rfl ?_
      refine AL.v good (d := 4) (v := .bool true) rfl rfl rfl rfl ?_
      refine AW.if rfl (fun _ => ?_) (fun h => by cases h)
      refine AW.seq ?_
      refine AW.region (M := fun _ => true) ?_
      refine AL.v good (d := 2) (v := .sl .nil 0 []) rfl rfl rfl rfl ?_
      refine AW.ret ?_
      exact RetH.w good (.inr rfl) rfl rfl ⟨.inr rfl, by rw [e0]; exact WvR.refl _, .inr rfl⟩ (List.forall_mem_cons.2 ⟨rfl, (fun _ h => by cases h)⟩)
    refine ACallH.alt k1 k2 (fun C vs hI hC ha => ?_)
    cases vs with
    | nil => simp [RdL] at ha
    | cons v vs =>
      simp only [RdL] at ha ⊢
      rcases view_alt (sz := 5) hI (hC _ List.mem_cons_self).1 ha.1 with ⟨_, q⟩ | q
      · exact .inl ⟨q, ha.2⟩
      · exact .inr ⟨q, ha.2⟩
  · intro C vs hI hC ha
    refine k2 C vs hI hC ?_
    cases hv : vs.toList with
    | nil => rw [hv] at ha; simp [RdL] at ha
    | cons v l2 =>
      rw [hv] at ha
      simp only [RdL] at ha ⊢
      rcases view_alt (sz := 5) hI (hC _ List.mem_cons_self).1 ha.1 with ⟨q, _⟩ | q
      · exact absurd q h0
      · exact ⟨q, ha.2⟩

def s_f72 (n : Nat) (a0 : Mach) (a1 : Int) : Option (Mach × List Val) :=
  (if 0 ≤ (IntKind.i64.wrap ((a0.f1.l.length : Int) - a1)) ∧ (IntKind.i64.wrap ((a0.f1.l.length : Int) - a1)).toNat ≤ a0.f1.l.length then (if (IntKind.i64.wrap ((a0.f1.l.length : Int) - a1)).toNat ≤ a0.f1.l.length ∧ a0.f1.l.length ≤ 1000000 then (if 0 ≤ (IntKind.i64.wrap ((a0.f1.l.length : Int) - a1)) ∧ (IntKind.i64.wrap ((a0.f1.l.length : Int) - a1)).toNat ≤ a0.f1.l.length then some ((Mach.mk a0.f0 (Ar.mk (a0.f1.v + 1) (a0.f1.l.take (IntKind.i64.wrap ((a0.f1.l.length : Int) - a1)).toNat)) a0.f2), (a0.f1.l.drop ((IntKind.i64.wrap ((a0.f1.l.length : Int) - a1)).toNat))) else none) else none) else none)

theorem w_f72_1_2_3 (n : Nat) (a0 : Mach) (a1 : Int) (r : Mach × List Val) (hr : s_f72 n a0 a1 = some r) : ACallH Try.prog 72 [.ptr 1 5, .int .i64 a1] [(1, .box 144 [.int .i64 a0.f0.kind, .int .i64 a0.f0.i, .bool a0.f0.b, .str a0.f0.s, .sl .ro 5 (encs a0.f0.t), .mv 2 a0.f1.v .hdr, .sl (.own 3) 5 (encs a0.f2)]), (2, .arr 24 5 a0.f1.v (encs a0.f1.l)), (3, .row 24 5 (encs a0.f2).length)] [(1, .box 144 [.int .i64 r.1.f0.kind, .int .i64 r.1.f0.i, .bool r.1.f0.b, .str r.1.f0.s, .sl .ro 5 (encs r.1.f0.t), .mv 2 r.1.f1.v .hdr, .sl (.own 3) 5 (encs r.1.f2)]), (2, .arr 24 5 r.1.f1.v (encs r.1.f1.l)), (3, .row 24 5 (encs r.1.f2).length)] (.sl .ro 5 (encs r.2)) := by
  refine ACallH.go [(0, .ptr 1 5), (1, .int .i64 a1)] [(3, .row 24 5 (encs a0.f2).length), (2, .arr 24 5 a0.f1.v (encs a0.f1.l)), (1, .box 144 [.int .i64 a0.f0.kind, .int .i64 a0.f0.i, .bool a0.f0.b, .str a0.f0.s, .sl .ro 5 (encs a0.f0.t), .mv 2 a0.f1.v .hdr, .sl (.own 3) 5 (encs a0.f2)])] Try.func72 rfl Try.ntmps72 rfl rfl rfl (by simp [pureA, pureL, pureR, inA, inL, inR, inO, idsIn, encs_pure, enxs_pure, enys_pure, valC_pure, exC_pure, tyC_pure, r_int_u8_pure]) (List.forall_mem_cons.2 ⟨(by simp [pureA, pureL, pureR, inA, inL, inR, inO, idsIn, encs_pure, enxs_pure, enys_pure, valC_pure, exC_pure, tyC_pure, r_int_u8_pure]), (List.forall_mem_cons.2 ⟨(by simp [pureA, pureL, pureR, inA, inL, inR, inO, idsIn, encs_pure, enxs_pure, enys_pure, valC_pure, exC_pure, tyC_pure, r_int_u8_pure]), (List.forall_mem_cons.2 ⟨(by simp [pureA, pureL, pureR, inA, inL, inR, inO, idsIn, encs_pure, enxs_pure, enys_pure, valC_pure, exC_pure, tyC_pure, r_int_u8_pure]), (fun _ h => by cases h)⟩)⟩)⟩) (List.forall_mem_cons.2 ⟨⟨rfl, (by simp [pureA, pureL, pureR, inA, inL, inR, inO, idsIn, encs_pure, enxs_pure, enys_pure, valC_pure, exC_pure, tyC_pure, r_int_u8_pure])⟩, (List.forall_mem_cons.2 ⟨⟨rfl, (by simp [pureA, pureL, pureR, inA, inL, inR, inO, idsIn, encs_pure, enxs_pure, enys_pure, valC_pure, exC_pure, tyC_pure, r_int_u8_pure])⟩, (List.forall_mem_cons.2 ⟨⟨rfl, (by simp [pureA, pureL, pureR, inA, inL, inR, inO, idsIn, encs_pure, enxs_pure, enys_pure, valC_pure, exC_pure, tyC_pure, r_int_u8_pure])⟩, (fun _ h => by cases h)⟩)⟩)⟩) (by simp [pureA, pureL, pureR, inA, inL, inR, inO, idsIn, encs_pure, enxs_pure, enys_pure, valC_pure, exC_pure, tyC_pure, r_int_u8_pure]) ?_
  rw [s_f72] at hr
  refine AW.seq ?_
  refine AW.region (M := fun _ => true) ?_
  refine AL.v good (d := 4) (v := .sl .nil 0 []) rfl rfl rfl rfl ?_
  refine AW.seq ?_
  refine AW.region (M := fun _ => true) ?_
  refine AL.v good (d := 7) (v := .ptr 1 5) rfl rfl rfl rfl ?_
  refine AL.v good (d := 8) (v := .ptr 1 5) rfl rfl rfl rfl ?_
  refine AL.v good (d := 9) (v := .mv 2 a0.f1.v .hdr) rfl rfl rfl rfl ?_
  refine AL.mln good (d := 10) (m := a0.f1.l.length) rfl rfl rfl rfl rfl rfl rfl (encs_length _) ColN.no ?_
  refine AL.v good (d := 11) (v := .int .i64 a1) rfl rfl rfl rfl ?_
  refine AL.v good (d := 12) (v := .int .i64 (IntKind.i64.wrap ((a0.f1.l.length : Int) - a1))) rfl rfl rfl rfl ?_
  refine AL.v good (d := 5) (v := .int .i64 (IntKind.i64.wrap ((a0.f1.l.length : Int) - a1))) rfl rfl rfl rfl ?_
  refine AW.seq ?_
  refine AW.region (M := fun _ => true) ?_
  refine AL.v good (d := 13) (v := .ptr 1 5) rfl rfl rfl rfl ?_
  refine AL.v good (d := 14) (v := .ptr 1 5) rfl rfl rfl rfl ?_
  refine AL.v good (d := 15) (v := .mv 2 a0.f1.v .hdr) rfl rfl rfl rfl ?_
  refine AL.v good (d := 16) (v := .int .i64 (IntKind.i64.wrap ((a0.f1.l.length : Int) - a1))) rfl rfl rfl rfl ?_
  obtain ⟨h1, hr⟩ := grd hr
  refine AL.mvw good (d := 17) (m := a0.f1.l.length) rfl rfl rfl rfl rfl rfl rfl rfl rfl (encs_length _) h1 rfl ColN.no ?_
  obtain ⟨h2, hr⟩ := grd hr
  refine AL.clW good (d := 18) (xs := [.mv 2 a0.f1.v (.view ((IntKind.i64.wrap ((a0.f1.l.length : Int) - a1)).toNat) (a0.f1.l.length - (IntKind.i64.wrap ((a0.f1.l.length : Int) - a1)).toNat) false)]) (rd := [(2, .arr 24 5 a0.f1.v (encs a0.f1.l))]) (up := []) (res := .sl .ro 5 (encs (a0.f1.l.drop ((IntKind.i64.wrap ((a0.f1.l.length : Int) - a1)).toNat)))) rfl rfl rfl rfl rfl rfl rfl (w_clone110_2 a0.f1.v ((IntKind.i64.wrap ((a0.f1.l.length : Int) - a1)).toNat) a0.f1.l h2) ⟨Wv.refl _, trivial⟩ (List.forall_mem_cons.2 ⟨rfl, (fun _ h => by cases h)⟩) (fun _ h => by cases h) rfl rfl ?_
  refine AL.v good (d := 6) (v := .sl .ro 5 (encs (a0.f1.l.drop ((IntKind.i64.wrap ((a0.f1.l.length : Int) - a1)).toNat)))) rfl rfl rfl rfl ?_
  refine AW.seq ?_
  refine AW.region (M := fun _ => true) ?_
  refine AL.v good (d := 19) (v := .ptr 1 5) rfl rfl rfl rfl ?_
  refine AL.v good (d := 20) (v := .ptr 1 5) rfl rfl rfl rfl ?_
  refine AL.v good (d := 21) (v := .ptr 1 5) rfl rfl rfl rfl ?_
  refine AL.v good (d := 22) (v := .mv 2 a0.f1.v .hdr) rfl rfl rfl rfl ?_
  refine AL.v good (d := 23) (v := .int .i64 (IntKind.i64.wrap ((a0.f1.l.length : Int) - a1))) rfl rfl rfl rfl ?_
  obtain ⟨h3, hr⟩ := grd hr
  refine AL.mct good (d := 24) (m := a0.f1.l.length) (rows2 := encs (a0.f1.l.take (IntKind.i64.wrap ((a0.f1.l.length : Int) - a1)).toNat)) rfl rfl rfl rfl rfl rfl rfl rfl rfl (encs_length _) h3 (encs_take _ _) rfl ColN.no ?_
  refine AL.v good (d := 25) (v := .ptr 1 5) rfl rfl rfl rfl ?_
  refine AL.st2 good (c2 := [.int .i64 a0.f0.kind, .int .i64 a0.f0.i, .bool a0.f0.b, .str a0.f0.s, .sl .ro 5 (encs a0.f0.t), .mv 2 (a0.f1.v + 1) .hdr, .sl (.own 3) 5 (encs a0.f2)]) rfl rfl rfl rfl rfl rfl rfl rfl rfl rfl rfl rfl ?_
  refine AW.seq ?_
  refine AW.region (M := fun _ => true) ?_
  refine AL.v good (d := 26) (v := .sl .ro 5 (encs (a0.f1.l.drop ((IntKind.i64.wrap ((a0.f1.l.length : Int) - a1)).toNat)))) rfl rfl rfl rfl ?_
  refine AL.v good (d := 4) (v := .sl .ro 5 (encs (a0.f1.l.drop ((IntKind.i64.wrap ((a0.f1.l.length : Int) - a1)).toNat)))) rfl rfl rfl rfl ?_
  refine AW.ret ?_
  obtain rfl := Option.some.inj hr
  exact RetH.w good (.inr rfl) rfl rfl (Wv.refl _) (List.forall_mem_cons.2 ⟨rfl, (List.forall_mem_cons.2 ⟨rfl, (List.forall_mem_cons.2 ⟨rfl, (fun _ h => by cases h)⟩)⟩)⟩)
theorem pop_eq (a : Mach) (n : Int) (h : 0 ≤ n ∧ n.toNat ≤ a.f1.l.length ∧ a.f1.l.length ≤ 1000000) : s_f72 0 a n = some (⟨a.f0, ⟨a.f1.v + 1, a.f1.l.take (a.f1.l.length - n.toNat)⟩, a.f2⟩, a.f1.l.drop (a.f1.l.length - n.toNat)) := by
  have e : IntKind.i64.wrap ((a.f1.l.length : Int) - n) = ((a.f1.l.length - n.toNat : Nat) : Int) := by rw [wrap64 (by omega) (by omega)]; omega
  unfold s_f72
  rw [e]
  simp only [Int.toNat_natCast]
  rw [if_pos ⟨by omega, by omega⟩, if_pos ⟨by omega, by omega⟩, if_pos ⟨by omega, by omega⟩]
theorem o_f72_1_2_3 (a : Mach) (n : Int) (h : 0 ≤ n ∧ n.toNat ≤ a.f1.l.length ∧ a.f1.l.length ≤ 1000000) : ACallH Try.prog 72 [.ptr 1 5, .int .i64 n] [(1, .box 144 [.int .i64 a.f0.kind, .int .i64 a.f0.i, .bool a.f0.b, .str a.f0.s, .sl .ro 5 (encs a.f0.t), .mv 2 a.f1.v .hdr, .sl (.own 3) 5 (encs a.f2)]), (2, .arr 24 5 a.f1.v (encs a.f1.l)), (3, .row 24 5 (encs a.f2).length)] [(1, .box 144 [.int .i64 a.f0.kind, .int .i64 a.f0.i, .bool a.f0.b, .str a.f0.s, .sl .ro 5 (encs a.f0.t), .mv 2 (a.f1.v + 1) .hdr, .sl (.own 3) 5 (encs a.f2)]), (2, .arr 24 5 (a.f1.v + 1) (encs (a.f1.l.take (a.f1.l.length - n.toNat)))), (3, .row 24 5 (encs a.f2).length)] (.sl .ro 5 (encs (a.f1.l.drop (a.f1.l.length - n.toNat)))) :=
  w_f72_1_2_3 0 a n (⟨a.f0, ⟨a.f1.v + 1, a.f1.l.take (a.f1.l.length - n.toNat)⟩, a.f2⟩, a.f1.l.drop (a.f1.l.length - n.toNat)) (pop_eq a n h)


end Go.Proofs.Ytbcjcekoonebiaa.Tl
