/- Definitions and walks: what is wrong of programs. Definitions and walks: a program that is looked at. Definitions and walks: programs that are looked at, programs run by the document. Definitions and walks: any sound program. What a definition with fuel comes to, once there is enough of it. Conditions: none. -/
import Derived.Test.YtbcjcekoonebiaaTlZVmRun4
set_option linter.unusedVariables false
set_option linter.unusedSimpArgs false
namespace Go.Proofs.Ytbcjcekoonebiaa.Tl
open Go Go.RowKit
structure Look where
  f0 : Ar (List Ty)
  f1 : Ar Bool
  f2 : Ty
abbrev c_str (x : ByteArray) : List AV := [.str x]
def r_str (l : List ByteArray) : List (List AV) := rowF c_str l
theorem r_str_length (l : List ByteArray) : (r_str l).length = l.length := rowF_length _ l
theorem r_str_get {l : List ByteArray} {j : Nat} {x : ByteArray} (h : l[j]? = some x) : (r_str l)[j]? = some (c_str x) := rowF_get h
theorem r_str_pure (S : Nat → Bool) (l : List ByteArray) : inR S (r_str l) = true := rowF_pure S (fun x => by simp [pureA, pureL, pureR, inA, inL, inR, inO, idsIn, encs_pure, enxs_pure, enys_pure, valC_pure, exC_pure, tyC_pure, c_str, r_int_u8_pure, r_st_GInst_pure, r_sl_st_GInst_pure, r_st_GMiss_pure, r_int_i8_pure, r_int_i64_pure]) l

def s_f150 (n : Nat)  : Option (List ByteArray) :=
  some [⟨#[112, 117, 115, 104]⟩, ⟨#[120]⟩, ⟨#[97, 116]⟩, ⟨#[116, 117, 112]⟩, ⟨#[110, 101, 103]⟩, ⟨#[110, 111, 116]⟩, ⟨#[108, 101, 110]⟩, ⟨#[97, 100, 100]⟩, ⟨#[115, 117, 98]⟩, ⟨#[109, 117, 108]⟩, ⟨#[100, 105, 118]⟩, ⟨#[114, 101, 109]⟩, ⟨#[101, 113]⟩, ⟨#[108, 116]⟩, ⟨#[99, 97, 116]⟩, ⟨#[106, 109, 112]⟩, ⟨#[106, 102]⟩, ⟨#[101, 109, 105, 116]⟩, ⟨#[114, 101, 116]⟩]

theorem w_f150 (n : Nat)  (r : List ByteArray) (hr : s_f150 n  = some r) : ACall Try.prog 150 [] (.sl .ro 1 (r_str r)) := by
 refine ACall.go [] Try.func150 rfl Try.ntmps150 rfl rfl (by simp [pureA, pureL, pureR, inA, inL, inR, inO, idsIn, encs_pure, valC_pure, r_str_pure]) ?_
 rw [s_f150] at hr
 refine AW.seq ?_
 refine AW.rg ?_
 refine AL.v good (d := 0) (v := .sl .nil 0 []) rfl rfl rfl rfl ?_
 refine AW.seq ?_
 refine AW.rg ?_
 refine AL.lit good (d := 1) (rows := [[.str ⟨#[112, 117, 115, 104]⟩], [.str ⟨#[120]⟩], [.str ⟨#[97, 116]⟩], [.str ⟨#[116, 117, 112]⟩], [.str ⟨#[110, 101, 103]⟩], [.str ⟨#[110, 111, 116]⟩], [.str ⟨#[108, 101, 110]⟩], [.str ⟨#[97, 100, 100]⟩], [.str ⟨#[115, 117, 98]⟩], [.str ⟨#[109, 117, 108]⟩], [.str ⟨#[100, 105, 118]⟩], [.str ⟨#[114, 101, 109]⟩], [.str ⟨#[101, 113]⟩], [.str ⟨#[108, 116]⟩], [.str ⟨#[99, 97, 116]⟩], [.str ⟨#[106, 109, 112]⟩], [.str ⟨#[106, 102]⟩], [.str ⟨#[101, 109, 105, 116]⟩], [.str ⟨#[114, 101, 116]⟩]]) rfl rfl rfl rfl rfl rfl rfl rfl rfl 0 rfl ?_
 refine AL.v good (d := 0) (v := .sl (.own 0) 1 [[.str ⟨#[112, 117, 115, 104]⟩], [.str ⟨#[120]⟩], [.str ⟨#[97, 116]⟩], [.str ⟨#[116, 117, 112]⟩], [.str ⟨#[110, 101, 103]⟩], [.str ⟨#[110, 111, 116]⟩], [.str ⟨#[108, 101, 110]⟩], [.str ⟨#[97, 100, 100]⟩], [.str ⟨#[115, 117, 98]⟩], [.str ⟨#[109, 117, 108]⟩], [.str ⟨#[100, 105, 118]⟩], [.str ⟨#[114, 101, 109]⟩], [.str ⟨#[101, 113]⟩], [.str ⟨#[108, 116]⟩], [.str ⟨#[99, 97, 116]⟩], [.str ⟨#[106, 109, 112]⟩], [.str ⟨#[106, 102]⟩], [.str ⟨#[101, 109, 105, 116]⟩], [.str ⟨#[114, 101, 116]⟩]]) rfl rfl rfl rfl ?_
 refine AW.ret ?_
 obtain rfl := Option.some.inj hr
 exact RetQ.w good (.inr rfl) rfl rfl ⟨.inr rfl, ⟨⟨Wv.refl _, trivial⟩, ⟨Wv.refl _, trivial⟩, ⟨Wv.refl _, trivial⟩, ⟨Wv.refl _, trivial⟩, ⟨Wv.refl _, trivial⟩, ⟨Wv.refl _, trivial⟩, ⟨Wv.refl _, trivial⟩, ⟨Wv.refl _, trivial⟩, ⟨Wv.refl _, trivial⟩, ⟨Wv.refl _, trivial⟩, ⟨Wv.refl _, trivial⟩, ⟨Wv.refl _, trivial⟩, ⟨Wv.refl _, trivial⟩, ⟨Wv.refl _, trivial⟩, ⟨Wv.refl _, trivial⟩, ⟨Wv.refl _, trivial⟩, ⟨Wv.refl _, trivial⟩, ⟨Wv.refl _, trivial⟩, ⟨Wv.refl _, trivial⟩, trivial⟩, .inl rfl⟩ (by simp [pureA, pureL, pureR, inA, inL, inR, inO, idsIn, encs_pure, valC_pure, r_str_pure])

mutual
def s_f139_l1 : Nat → ByteArray → (List ByteArray) → Nat → Option Int
  | 0, _, _, _ => none
  | n + 1, a0, q1, v1_1 => (bif (decide ((v1_1 : Int) < (q1.length : Int))) then ((q1[v1_1]?).bind fun x10 => (bif (x10.data.toList == a0.data.toList) then some (IntKind.i64.wrap ((v1_1 : Int) + 1)) else (s_f139_l1 n a0 q1 (v1_1 + 1)))) else some 0)
end
def s_f139 (n : Nat) (a0 : ByteArray) : Option Int :=
  ((s_f150 n).bind fun q1 => (s_f139_l1 n a0 q1 0))

theorem w_f139 (n : Nat) (a0 : ByteArray) (r : Int) (hr : s_f139 n a0 = some r) : ACall Try.prog 139 [.str a0] (.int .i64 r) := by
 refine ACall.go [(0, .str a0)] Try.func139 rfl Try.ntmps139 rfl rfl (by simp [pureA, pureL, pureR, inA, inL, inR, inO, idsIn, encs_pure, valC_pure, r_str_pure]) ?_
 rw [s_f139] at hr
 refine AW.seq ?_
 refine AW.rg ?_
 refine AL.v good (d := 2) (v := .int .i64 0) rfl rfl rfl rfl ?_
 refine AW.seq ?_
 refine AW.rg ?_
 obtain ⟨q1, h2, hr⟩ := bnd1 hr
 refine AL.cw good (d := 5) (xs := []) (res := .sl .ro 1 (r_str q1)) rfl rfl rfl rfl rfl rfl rfl (w_f150 _ _ h2) trivial (by simp [pureA, pureL, pureR, inA, inL, inR, inO, idsIn, encs_pure, valC_pure, r_str_pure]) ?_
 refine AL.v good (d := 3) (v := .sl .ro 1 (r_str q1)) rfl rfl rfl rfl ?_
 refine AW.seq ?_
 refine AW.seq ?_
 refine AW.rg ?_
 refine AL.v good (d := 4) (v := .int .i64 0) rfl rfl rfl rfl ?_
 refine AW.block ?_
 refine AW.lens 3 rfl (fun hl8 => ?_)
 replace hl8 : q1.length ≤ 9223372036854775807 := by rw [← r_str_length q1]; exact hl8
 refine AW.lpw (fun x : Nat × Nat => [(0, .str a0), (3, .sl .ro 1 (r_str q1)), (4, .int .i64 (x.2 : Int))]) (fun x => []) (fun x => s_f139_l1 x.1 a0 q1 x.2 = some r ∧ x.1 ≤ n) (fun x => x.1) (n, 0) ⟨(fun _ h => by cases h), fmc ⟨⟨⟨_, rfl, Wv.refl _⟩, (by simp [pureA, pureL, pureR, inA, inL, inR, inO, idsIn, encs_pure, valC_pure, r_str_pure])⟩, fmc ⟨⟨⟨_, rfl, Wv.refl _⟩, (by simp [pureA, pureL, pureR, inA, inL, inR, inO, idsIn, encs_pure, valC_pure, r_str_pure])⟩, fmc ⟨⟨⟨_, rfl, Wv.refl _⟩, (by simp [pureA, pureL, pureR, inA, inL, inR, inO, idsIn, encs_pure, valC_pure, r_str_pure])⟩, (fun _ h => by cases h)⟩⟩⟩, (fun _ h => by cases h)⟩ ⟨hr, Nat.le_refl _⟩ (fun ⟨m, v1_1⟩ hx => ?_)
 obtain ⟨hr, hm⟩ := hx
 try dsimp only at hr hm
 cases m with
 | zero => rw [s_f139_l1] at hr; cases hr
 | succ m =>
  rw [s_f139_l1] at hr
  show AW Try.prog _ _ _ (mkS 20 [(0, .str a0), (3, .sl .ro 1 (r_str q1)), (4, .int .i64 (v1_1 : Int))] [])
  refine AW.seq ?_
  refine AW.seq ?_
  refine AW.rg ?_
  refine AL.v good (d := 6) (v := .int .i64 (v1_1 : Int)) rfl rfl rfl rfl ?_
  refine AL.v good (d := 7) (v := .sl .ro 1 (r_str q1)) rfl rfl rfl rfl ?_
  refine AL.ln good (d := 8) (m := q1.length) rfl rfl rfl rfl rfl rfl (r_str_length _) ?_
  refine AL.v good (d := 9) (v := .bool (decide ((v1_1 : Int) < (q1.length : Int)))) rfl rfl rfl rfl ?_
  refine AW.if rfl (fun h9 => ?_) (fun h9 => ?_)
  ·replace hr := cnd_t h9 hr
   refine AW.skip ?_
   refine AW.seq ?_
   refine AW.block ?_
   refine AW.seq ?_
   refine AW.rg ?_
   refine AL.v good (d := 12) (v := .sl .ro 1 (r_str q1)) rfl rfl rfl rfl ?_
   refine AL.v good (d := 13) (v := .int .i64 (v1_1 : Int)) rfl rfl rfl rfl ?_
   obtain ⟨x10, h11, hr⟩ := bnd1 hr
   refine AL.ix good (d := 14) (r := [.str x10]) rfl rfl rfl rfl rfl rfl rfl (Int.natCast_nonneg _) (r_str_get h11) ?_
   refine AL.v good (d := 15) (v := .str x10) rfl rfl rfl rfl ?_
   refine AL.v good (d := 16) (v := .str a0) rfl rfl rfl rfl ?_
   refine AL.sb good (d := 17) (b := (x10.data.toList == a0.data.toList)) rfl rfl rfl rfl rfl rfl rfl ?_
   refine AW.if rfl (fun h12 => ?_) (fun h12 => ?_)
   ·replace hr := cnd_t h12 hr
    refine AW.seq ?_
    refine AW.rg ?_
    refine AL.v good (d := 18) (v := .int .i64 (v1_1 : Int)) rfl rfl rfl rfl ?_
    refine AL.v good (d := 19) (v := .int .i64 (IntKind.i64.wrap ((v1_1 : Int) + 1))) rfl rfl rfl rfl ?_
    refine AL.v good (d := 2) (v := .int .i64 (IntKind.i64.wrap ((v1_1 : Int) + 1))) rfl rfl rfl rfl ?_
    refine AW.ret ?_
    obtain rfl := Option.some.inj hr
    exact RetQ.w good (.inr rfl) rfl rfl (Wv.refl _) (by simp [pureA, pureL, pureR, inA, inL, inR, inO, idsIn, encs_pure, valC_pure, r_str_pure])
   ·replace hr := cnd_f h12 hr
    refine AW.skip ?_
    refine AW.rg ?_
    refine AL.v good (d := 10) (v := .int .i64 (v1_1 : Int)) rfl rfl rfl rfl ?_
    refine AL.v good (d := 11) (v := .int .i64 (IntKind.i64.wrap ((v1_1 : Int) + 1))) rfl rfl rfl rfl ?_
    refine AL.v good (d := 4) (v := .int .i64 (IntKind.i64.wrap ((v1_1 : Int) + 1))) rfl rfl rfl rfl ?_
    exact ⟨(m, (v1_1 + 1)), _, _, rfl, ⟨(fun _ h => by cases h), fmc ⟨⟨⟨_, rfl, Wv.refl _⟩, (by simp [pureA, pureL, pureR, inA, inL, inR, inO, idsIn, encs_pure, valC_pure, r_str_pure])⟩, fmc ⟨⟨⟨_, rfl, Wv.refl _⟩, (by simp [pureA, pureL, pureR, inA, inL, inR, inO, idsIn, encs_pure, valC_pure, r_str_pure])⟩, fmc ⟨⟨⟨_, rfl, (wnx h9 hl8)⟩, (by simp [pureA, pureL, pureR, inA, inL, inR, inO, idsIn, encs_pure, valC_pure, r_str_pure])⟩, (fun _ h => by cases h)⟩⟩⟩, (fun _ h => by cases h)⟩, ⟨hr, Nat.le_of_succ_le hm⟩, Nat.lt_succ_self _⟩
  ·replace hr := cnd_f h9 hr
   refine AW.exit ?_
   refine AW.seq ?_
   refine AW.rg ?_
   refine AL.v good (d := 2) (v := .int .i64 0) rfl rfl rfl rfl ?_
   refine AW.ret ?_
   obtain rfl := Option.some.inj hr
   exact RetQ.w good (.inr rfl) rfl rfl (Wv.refl _) (by simp [pureA, pureL, pureR, inA, inL, inR, inO, idsIn, encs_pure, valC_pure, r_str_pure])


theorem w_f140 (a0 : ByteArray) : ACall Try.prog 140 [.str a0] (.bool (((((a0.data.toList == [97, 116]) || (a0.data.toList == [116, 117, 112])) || (a0.data.toList == [106, 109, 112])) || (a0.data.toList == [106, 102])) || (a0.data.toList == [101, 109, 105, 116]))) := by
 refine ACall.go [(0, .str a0)] Try.func140 rfl Try.ntmps140 rfl rfl (by simp [pureA, pureL, pureR, inA, inL, inR, inO, idsIn, encs_pure, valC_pure]) ?_
 refine AW.seq ?_
 refine AW.rg ?_
 refine AL.v good (d := 2) (v := .bool false) rfl rfl rfl rfl ?_
 refine AW.seq ?_
 refine AW.rg ?_
 refine AL.v good (d := 3) (v := .str a0) rfl rfl rfl rfl ?_
 refine AL.sb good (d := 4) (b := (a0.data.toList == [97, 116])) rfl rfl rfl rfl rfl rfl rfl ?_
 refine AL.vb good (d := 5) (b := (a0.data.toList == [97, 116])) rfl rfl rfl rfl (fun g1 h2 => ?_)
 refine AL.gv good (d := 6) (c := (!g1)) (v := .str a0) (rd := []) rfl rfl (by cases g1 <;> rfl) (fun h => by cases g1 <;> first | rfl | exact absurd h (by decide)) ?_
 refine AL.gsb good (d := 7) (c := (!g1)) (b := (a0.data.toList == [116, 117, 112])) rfl rfl (by cases g1 <;> rfl) rfl (fun h => by cases g1 <;> first | rfl | exact absurd h (by decide)) (fun h => by cases g1 <;> first | rfl | exact absurd h (by decide)) rfl ?_
 refine AL.v good (d := 8) (v := .bool (g1 || (a0.data.toList == [116, 117, 112]))) (rd := []) rfl rfl rfl (by cases g1 <;> rfl) ?_
 refine AL.vb good (d := 9) (b := (g1 || (a0.data.toList == [116, 117, 112]))) rfl rfl rfl rfl (fun g3 h4 => ?_)
 refine AL.gv good (d := 10) (c := (!g3)) (v := .str a0) (rd := []) rfl rfl (by cases g3 <;> rfl) (fun h => by cases g3 <;> first | rfl | exact absurd h (by decide)) ?_
 refine AL.gsb good (d := 11) (c := (!g3)) (b := (a0.data.toList == [106, 109, 112])) rfl rfl (by cases g3 <;> rfl) rfl (fun h => by cases g3 <;> first | rfl | exact absurd h (by decide)) (fun h => by cases g3 <;> first | rfl | exact absurd h (by decide)) rfl ?_
 refine AL.v good (d := 12) (v := .bool (g3 || (a0.data.toList == [106, 109, 112]))) (rd := []) rfl rfl rfl (by cases g3 <;> rfl) ?_
 refine AL.vb good (d := 13) (b := (g3 || (a0.data.toList == [106, 109, 112]))) rfl rfl rfl rfl (fun g5 h6 => ?_)
 refine AL.gv good (d := 14) (c := (!g5)) (v := .str a0) (rd := []) rfl rfl (by cases g5 <;> rfl) (fun h => by cases g5 <;> first | rfl | exact absurd h (by decide)) ?_
 refine AL.gsb good (d := 15) (c := (!g5)) (b := (a0.data.toList == [106, 102])) rfl rfl (by cases g5 <;> rfl) rfl (fun h => by cases g5 <;> first | rfl | exact absurd h (by decide)) (fun h => by cases g5 <;> first | rfl | exact absurd h (by decide)) rfl ?_
 refine AL.v good (d := 16) (v := .bool (g5 || (a0.data.toList == [106, 102]))) (rd := []) rfl rfl rfl (by cases g5 <;> rfl) ?_
 refine AL.vb good (d := 17) (b := (g5 || (a0.data.toList == [106, 102]))) rfl rfl rfl rfl (fun g7 h8 => ?_)
 refine AL.gv good (d := 18) (c := (!g7)) (v := .str a0) (rd := []) rfl rfl (by cases g7 <;> rfl) (fun h => by cases g7 <;> first | rfl | exact absurd h (by decide)) ?_
 refine AL.gsb good (d := 19) (c := (!g7)) (b := (a0.data.toList == [101, 109, 105, 116])) rfl rfl (by cases g7 <;> rfl) rfl (fun h => by cases g7 <;> first | rfl | exact absurd h (by decide)) (fun h => by cases g7 <;> first | rfl | exact absurd h (by decide)) rfl ?_
 refine AL.v good (d := 20) (v := .bool (g7 || (a0.data.toList == [101, 109, 105, 116]))) (rd := []) rfl rfl rfl (by cases g7 <;> rfl) ?_
 refine AL.v good (d := 2) (v := .bool (g7 || (a0.data.toList == [101, 109, 105, 116]))) rfl rfl rfl rfl ?_
 subst h2 h4 h6 h8
 refine AW.ret ?_
 exact RetQ.w good (.inr rfl) rfl rfl (Wv.refl _) (by simp [pureA, pureL, pureR, inA, inL, inR, inO, idsIn, encs_pure, valC_pure])


theorem w_f141 (a0 : Val) : ACall Try.prog 141 [.agg (valC a0)] (.bool (((((a0.kind == 0) && (a0.i == 0)) && (!a0.b)) && (a0.s.data.toList == [])) && ((a0.t.length : Int) == 0))) := by
 refine ACall.go [(0, .agg (valC a0))] Try.func141 rfl Try.ntmps141 rfl rfl (by simp [pureA, pureL, pureR, inA, inL, inR, inO, idsIn, encs_pure, valC_pure]) ?_
 refine AW.seq ?_
 refine AW.rg ?_
 refine AL.bx good (d := 1) (l := [.int .i64 a0.kind, .int .i64 a0.i, .bool a0.b, .str a0.s, .sl .ro 5 (encs a0.t)]) rfl rfl rfl rfl rfl rfl 0 rfl ?_
 refine AL.v good (d := 2) (v := .bool false) rfl rfl rfl rfl ?_
 refine AW.seq ?_
 refine AW.rg ?_
 refine AL.v good (d := 3) (v := .ptr 0 0) rfl rfl rfl rfl ?_
 refine AL.v good (d := 4) (v := .int .i64 a0.kind) rfl rfl rfl rfl ?_
 refine AL.v good (d := 5) (v := .bool (a0.kind == 0)) rfl rfl rfl rfl ?_
 refine AL.vb good (d := 6) (b := (a0.kind == 0)) rfl rfl rfl rfl (fun g1 h2 => ?_)
 refine AL.gv good (d := 7) (c := g1) (v := .ptr 0 1) (rd := []) rfl rfl (by cases g1 <;> rfl) (fun h => by cases g1 <;> first | rfl | exact absurd h (by decide)) ?_
 refine AL.gv good (d := 8) (c := g1) (v := .int .i64 a0.i) (rd := [(0, .box 33 [.int .i64 a0.kind, .int .i64 a0.i, .bool a0.b, .str a0.s, .sl .ro 5 (encs a0.t)])]) rfl rfl (by cases g1 <;> rfl) (fun h => by cases g1 <;> first | rfl | exact absurd h (by decide)) ?_
 refine AL.gv good (d := 9) (c := g1) (v := .bool (a0.i == 0)) (rd := []) rfl rfl (by cases g1 <;> rfl) (fun h => by cases g1 <;> first | rfl | exact absurd h (by decide)) ?_
 refine AL.v good (d := 10) (v := .bool (g1 && (a0.i == 0))) (rd := []) rfl rfl rfl (by cases g1 <;> rfl) ?_
 refine AL.vb good (d := 11) (b := (g1 && (a0.i == 0))) rfl rfl rfl rfl (fun g3 h4 => ?_)
 refine AL.gv good (d := 12) (c := g3) (v := .ptr 0 2) (rd := []) rfl rfl (by cases g3 <;> rfl) (fun h => by cases g3 <;> first | rfl | exact absurd h (by decide)) ?_
 refine AL.gv good (d := 13) (c := g3) (v := .bool a0.b) (rd := [(0, .box 33 [.int .i64 a0.kind, .int .i64 a0.i, .bool a0.b, .str a0.s, .sl .ro 5 (encs a0.t)])]) rfl rfl (by cases g3 <;> rfl) (fun h => by cases g3 <;> first | rfl | exact absurd h (by decide)) ?_
 refine AL.gv good (d := 14) (c := g3) (v := .bool (!a0.b)) (rd := []) rfl rfl (by cases g3 <;> rfl) (fun h => by cases g3 <;> first | rfl | exact absurd h (by decide)) ?_
 refine AL.v good (d := 15) (v := .bool (g3 && (!a0.b))) (rd := []) rfl rfl rfl (by cases g3 <;> rfl) ?_
 refine AL.vb good (d := 16) (b := (g3 && (!a0.b))) rfl rfl rfl rfl (fun g5 h6 => ?_)
 refine AL.gv good (d := 17) (c := g5) (v := .ptr 0 3) (rd := []) rfl rfl (by cases g5 <;> rfl) (fun h => by cases g5 <;> first | rfl | exact absurd h (by decide)) ?_
 refine AL.gv good (d := 18) (c := g5) (v := .str a0.s) (rd := [(0, .box 33 [.int .i64 a0.kind, .int .i64 a0.i, .bool a0.b, .str a0.s, .sl .ro 5 (encs a0.t)])]) rfl rfl (by cases g5 <;> rfl) (fun h => by cases g5 <;> first | rfl | exact absurd h (by decide)) ?_
 refine AL.gsb good (d := 19) (c := g5) (b := (a0.s.data.toList == [])) rfl rfl (by cases g5 <;> rfl) rfl (fun h => by cases g5 <;> first | rfl | exact absurd h (by decide)) (fun h => by cases g5 <;> first | rfl | exact absurd h (by decide)) rfl ?_
 refine AL.v good (d := 20) (v := .bool (g5 && (a0.s.data.toList == []))) (rd := []) rfl rfl rfl (by cases g5 <;> rfl) ?_
 refine AL.vb good (d := 21) (b := (g5 && (a0.s.data.toList == []))) rfl rfl rfl rfl (fun g7 h8 => ?_)
 refine AL.gv good (d := 22) (c := g7) (v := .ptr 0 4) (rd := []) rfl rfl (by cases g7 <;> rfl) (fun h => by cases g7 <;> first | rfl | exact absurd h (by decide)) ?_
 refine AL.gv good (d := 23) (c := g7) (v := .sl .ro 5 (encs a0.t)) (rd := [(0, .box 33 [.int .i64 a0.kind, .int .i64 a0.i, .bool a0.b, .str a0.s, .sl .ro 5 (encs a0.t)])]) rfl rfl (by cases g7 <;> rfl) (fun h => by cases g7 <;> first | rfl | exact absurd h (by decide)) ?_
 refine AL.gln good (d := 24) (c := g7) (m := a0.t.length) rfl rfl (by cases g7 <;> rfl) rfl rfl (fun h => by cases g7 <;> first | rfl | exact absurd h (by decide)) (encs_length _) ?_
 refine AL.gv good (d := 25) (c := g7) (v := .bool ((a0.t.length : Int) == 0)) (rd := []) rfl rfl (by cases g7 <;> rfl) (fun h => by cases g7 <;> first | rfl | exact absurd h (by decide)) ?_
 refine AL.v good (d := 26) (v := .bool (g7 && ((a0.t.length : Int) == 0))) (rd := []) rfl rfl rfl (by cases g7 <;> rfl) ?_
 refine AL.v good (d := 2) (v := .bool (g7 && ((a0.t.length : Int) == 0))) rfl rfl rfl rfl ?_
 subst h2 h4 h6 h8
 refine AW.ret ?_
 exact RetQ.w good (.inr rfl) rfl rfl (Wv.refl _) (by simp [pureA, pureL, pureR, inA, inL, inR, inO, idsIn, encs_pure, valC_pure])

def s_f107 (n : Nat) (a0 : List GInst) (a1 : Int) : Option Int :=
  (if 0 ≤ a1 then ((a0[a1.toNat]?).bind fun x1 => ((s_f139 n x1.f0).bind fun q4 => (bif (q4 == 0) then some 6 else (bif (((!(((((x1.f0.data.toList == [97, 116]) || (x1.f0.data.toList == [116, 117, 112])) || (x1.f0.data.toList == [106, 109, 112])) || (x1.f0.data.toList == [106, 102])) || (x1.f0.data.toList == [101, 109, 105, 116]))) && (x1.f2 != 0)) || ((x1.f0.data.toList != [112, 117, 115, 104]) && (!(((((x1.f1.kind == 0) && (x1.f1.i == 0)) && (!x1.f1.b)) && (x1.f1.s.data.toList == [])) && ((x1.f1.t.length : Int) == 0))))) then some 1 else (bif (x1.f0.data.toList == [112, 117, 115, 104]) then ((s_f34 n x1.f1).bind fun q15 => some q15) else (bif (x1.f0.data.toList == [97, 116]) then (bif (decide (x1.f2 < 0)) then some 1 else some 0) else (bif (x1.f0.data.toList == [116, 117, 112]) then (bif ((decide (x1.f2 < 1)) || (decide (x1.f2 > 8))) then some 1 else some 0) else (bif (x1.f0.data.toList == [101, 109, 105, 116]) then (bif ((decide (x1.f2 < 0)) || (decide (x1.f2 > 4))) then some 1 else some 0) else (bif (x1.f0.data.toList == [106, 109, 112]) then (bif ((decide (x1.f2 ≤ a1)) || (decide (x1.f2 ≥ (a0.length : Int)))) then some 1 else some 0) else (bif (x1.f0.data.toList == [106, 102]) then (bif ((decide (x1.f2 ≤ a1)) || (decide (x1.f2 ≥ (a0.length : Int)))) then some 1 else some 0) else some 0)))))))))) else none)

theorem w_f107 (n : Nat) (a0 : List GInst) (a1 : Int) (r : Int) (hr : s_f107 n a0 a1 = some r) : ACall Try.prog 107 [.sl .ro 7 (r_st_GInst a0), .int .i64 a1] (.int .i64 r) := by
 refine ACall.go [(0, .sl .ro 7 (r_st_GInst a0)), (1, .int .i64 a1)] Try.func107 rfl Try.ntmps107 rfl rfl (by simp [pureA, pureL, pureR, inA, inL, inR, inO, idsIn, encs_pure, valC_pure, r_st_GInst_pure]) ?_
 rw [s_f107] at hr
 refine AW.seq ?_
 refine AW.rg ?_
 refine AL.v good (d := 4) (v := .int .i64 0) rfl rfl rfl rfl ?_
 refine AW.seq ?_
 refine AW.rg ?_
 refine AL.v good (d := 6) (v := .sl .ro 7 (r_st_GInst a0)) rfl rfl rfl rfl ?_
 refine AL.v good (d := 7) (v := .int .i64 a1) rfl rfl rfl rfl ?_
 obtain ⟨h3, hr⟩ := grd hr
 obtain ⟨x1, h2, hr⟩ := bnd1 hr
 refine AL.ix good (d := 8) (r := [.str x1.f0, .int .i64 x1.f1.kind, .int .i64 x1.f1.i, .bool x1.f1.b, .str x1.f1.s, .sl .ro 5 (encs x1.f1.t), .int .i64 x1.f2]) rfl rfl rfl rfl rfl rfl rfl h3 (r_st_GInst_get h2) ?_
 refine AL.v good (d := 9) (v := .agg [.str x1.f0, .int .i64 x1.f1.kind, .int .i64 x1.f1.i, .bool x1.f1.b, .str x1.f1.s, .sl .ro 5 (encs x1.f1.t), .int .i64 x1.f2]) rfl rfl rfl rfl ?_
 refine AL.alc good (d := 5) rfl rfl rfl rfl rfl 0 rfl ?_
 refine AL.st2 good (c2 := [.str x1.f0, .int .i64 x1.f1.kind, .int .i64 x1.f1.i, .bool x1.f1.b, .str x1.f1.s, .sl .ro 5 (encs x1.f1.t), .int .i64 x1.f2]) rfl rfl rfl rfl rfl rfl rfl rfl rfl rfl rfl rfl ?_
 refine AW.seq ?_
 refine AW.block ?_
 refine AW.seq ?_
 refine AW.rg ?_
 refine AL.v good (d := 11) (v := .ptr 0 0) rfl rfl rfl rfl ?_
 refine AL.v good (d := 12) (v := .str x1.f0) rfl rfl rfl rfl ?_
 obtain ⟨q4, h5, hr⟩ := bnd1 hr
 refine AL.cw good (d := 13) (xs := [.str x1.f0]) (res := .int .i64 q4) rfl rfl rfl rfl rfl rfl rfl (w_f139 _ _ _ h5) ⟨(Wv.refl _), trivial⟩ (by simp [pureA, pureL, pureR, inA, inL, inR, inO, idsIn, encs_pure, valC_pure, r_st_GInst_pure]) ?_
 refine AL.v good (d := 14) (v := .bool (q4 == 0)) rfl rfl rfl rfl ?_
 refine AL.v good (d := 10) (v := .bool (q4 == 0)) rfl rfl rfl rfl ?_
 refine AW.if rfl (fun h6 => ?_) (fun h6 => ?_)
 ·replace hr := cnd_t h6 hr
  refine AW.seq ?_
  refine AW.rg ?_
  refine AL.v good (d := 4) (v := .int .i64 6) rfl rfl rfl rfl ?_
  refine AW.ret ?_
  obtain rfl := Option.some.inj hr
  exact RetQ.w good (.inr rfl) rfl rfl (Wv.refl _) (by simp [pureA, pureL, pureR, inA, inL, inR, inO, idsIn, encs_pure, valC_pure, r_st_GInst_pure])
 ·replace hr := cnd_f h6 hr
  refine AW.seq ?_
  refine AW.rg ?_
  refine AL.v good (d := 16) (v := .ptr 0 0) rfl rfl rfl rfl ?_
  refine AL.v good (d := 17) (v := .str x1.f0) rfl rfl rfl rfl ?_
  refine AL.cw good (d := 18) (xs := [.str x1.f0]) (res := .bool (((((x1.f0.data.toList == [97, 116]) || (x1.f0.data.toList == [116, 117, 112])) || (x1.f0.data.toList == [106, 109, 112])) || (x1.f0.data.toList == [106, 102])) || (x1.f0.data.toList == [101, 109, 105, 116]))) rfl rfl rfl rfl rfl rfl rfl (w_f140 x1.f0) ⟨(Wv.refl _), trivial⟩ (by simp [pureA, pureL, pureR, inA, inL, inR, inO, idsIn, encs_pure, valC_pure, r_st_GInst_pure]) ?_
  refine AL.v good (d := 19) (v := .bool (!(((((x1.f0.data.toList == [97, 116]) || (x1.f0.data.toList == [116, 117, 112])) || (x1.f0.data.toList == [106, 109, 112])) || (x1.f0.data.toList == [106, 102])) || (x1.f0.data.toList == [101, 109, 105, 116])))) rfl rfl rfl rfl ?_
  refine AL.vb good (d := 20) (b := (!(((((x1.f0.data.toList == [97, 116]) || (x1.f0.data.toList == [116, 117, 112])) || (x1.f0.data.toList == [106, 109, 112])) || (x1.f0.data.toList == [106, 102])) || (x1.f0.data.toList == [101, 109, 105, 116])))) rfl rfl rfl rfl (fun g7 h8 => ?_)
  refine AL.gv good (d := 21) (c := g7) (v := .ptr 0 6) (rd := []) rfl rfl (by cases g7 <;> rfl) (fun h => by cases g7 <;> first | rfl | exact absurd h (by decide)) ?_
  refine AL.gv good (d := 22) (c := g7) (v := .int .i64 x1.f2) (rd := [(0, .box 132 [.str x1.f0, .int .i64 x1.f1.kind, .int .i64 x1.f1.i, .bool x1.f1.b, .str x1.f1.s, .sl .ro 5 (encs x1.f1.t), .int .i64 x1.f2])]) rfl rfl (by cases g7 <;> rfl) (fun h => by cases g7 <;> first | rfl | exact absurd h (by decide)) ?_
  refine AL.gv good (d := 23) (c := g7) (v := .bool (x1.f2 != 0)) (rd := []) rfl rfl (by cases g7 <;> rfl) (fun h => by cases g7 <;> first | rfl | exact absurd h (by decide)) ?_
  refine AL.v good (d := 24) (v := .bool (g7 && (x1.f2 != 0))) (rd := []) rfl rfl rfl (by cases g7 <;> rfl) ?_
  refine AL.vb good (d := 25) (b := (g7 && (x1.f2 != 0))) rfl rfl rfl rfl (fun g9 h10 => ?_)
  refine AL.gv good (d := 26) (c := (!g9)) (v := .ptr 0 0) (rd := []) rfl rfl (by cases g9 <;> rfl) (fun h => by cases g9 <;> first | rfl | exact absurd h (by decide)) ?_
  refine AL.gv good (d := 27) (c := (!g9)) (v := .str x1.f0) (rd := [(0, .box 132 [.str x1.f0, .int .i64 x1.f1.kind, .int .i64 x1.f1.i, .bool x1.f1.b, .str x1.f1.s, .sl .ro 5 (encs x1.f1.t), .int .i64 x1.f2])]) rfl rfl (by cases g9 <;> rfl) (fun h => by cases g9 <;> first | rfl | exact absurd h (by decide)) ?_
  refine AL.gsb good (d := 28) (c := (!g9)) (b := (x1.f0.data.toList != [112, 117, 115, 104])) rfl rfl (by cases g9 <;> rfl) rfl (fun h => by cases g9 <;> first | rfl | exact absurd h (by decide)) (fun h => by cases g9 <;> first | rfl | exact absurd h (by decide)) rfl ?_
  refine AL.gvb good (d := 29) (c := (!g9)) (r := (x1.f0.data.toList != [112, 117, 115, 104])) (rd := []) rfl rfl (by cases g9 <;> rfl) (fun h => by cases g9 <;> first | rfl | exact absurd h (by decide)) (fun g11 h12 => ?_)
  refine AL.gv good (d := 30) (c := ((!g9) && g11)) (v := .ptr 0 1) (rd := []) rfl rfl (by cases g9 <;> cases g11 <;> rfl) (fun h => by cases g9 <;> cases g11 <;> first | rfl | exact absurd h (by decide)) ?_
  refine AL.gv good (d := 31) (c := ((!g9) && g11)) (v := .agg [.int .i64 x1.f1.kind, .int .i64 x1.f1.i, .bool x1.f1.b, .str x1.f1.s, .sl .ro 5 (encs x1.f1.t)]) (rd := [(0, .box 132 [.str x1.f0, .int .i64 x1.f1.kind, .int .i64 x1.f1.i, .bool x1.f1.b, .str x1.f1.s, .sl .ro 5 (encs x1.f1.t), .int .i64 x1.f2])]) rfl rfl (by cases g9 <;> cases g11 <;> rfl) (fun h => by cases g9 <;> cases g11 <;> first | rfl | exact absurd h (by decide)) ?_
  refine AL.gcw good (d := 32) (c := ((!g9) && g11)) (aw := [.agg [.int .i64 x1.f1.kind, .int .i64 x1.f1.i, .bool x1.f1.b, .str x1.f1.s, .sl .ro 5 (encs x1.f1.t)]]) (xs := [.agg (valC x1.f1)]) (res := .bool (((((x1.f1.kind == 0) && (x1.f1.i == 0)) && (!x1.f1.b)) && (x1.f1.s.data.toList == [])) && ((x1.f1.t.length : Int) == 0))) rfl rfl (by cases g9 <;> cases g11 <;> rfl) rfl rfl rfl (fun h => by cases g9 <;> cases g11 <;> first | rfl | exact absurd h (by decide)) (w_f141 x1.f1) ⟨(Wv.refl _), trivial⟩ (by simp [pureA, pureL, pureR, inA, inL, inR, inO, idsIn, encs_pure, valC_pure, r_st_GInst_pure]) ?_
  refine AL.gv good (d := 33) (c := ((!g9) && g11)) (v := .bool (!(((((x1.f1.kind == 0) && (x1.f1.i == 0)) && (!x1.f1.b)) && (x1.f1.s.data.toList == [])) && ((x1.f1.t.length : Int) == 0)))) (rd := []) rfl rfl (by cases g9 <;> cases g11 <;> rfl) (fun h => by cases g9 <;> cases g11 <;> first | rfl | exact absurd h (by decide)) ?_
  refine AL.gv good (d := 34) (c := (!g9)) (v := .bool (g11 && (!(((((x1.f1.kind == 0) && (x1.f1.i == 0)) && (!x1.f1.b)) && (x1.f1.s.data.toList == [])) && ((x1.f1.t.length : Int) == 0))))) (rd := []) rfl rfl (by cases g9 <;> cases g11 <;> rfl) (fun h => by cases g9 <;> cases g11 <;> first | rfl | exact absurd h (by decide)) ?_
  refine AL.v good (d := 35) (v := .bool (g9 || (g11 && (!(((((x1.f1.kind == 0) && (x1.f1.i == 0)) && (!x1.f1.b)) && (x1.f1.s.data.toList == [])) && ((x1.f1.t.length : Int) == 0)))))) (rd := []) rfl rfl rfl (by cases g9 <;> rfl) ?_
  refine AL.v good (d := 15) (v := .bool (g9 || (g11 && (!(((((x1.f1.kind == 0) && (x1.f1.i == 0)) && (!x1.f1.b)) && (x1.f1.s.data.toList == [])) && ((x1.f1.t.length : Int) == 0)))))) rfl rfl rfl rfl ?_
  subst h8 h10 h12
  refine AW.if rfl (fun h13 => ?_) (fun h13 => ?_)
  ·replace hr := cnd_t h13 hr
   refine AW.seq ?_
   refine AW.rg ?_
   refine AL.v good (d := 4) (v := .int .i64 1) rfl rfl rfl rfl ?_
   refine AW.ret ?_
   obtain rfl := Option.some.inj hr
   exact RetQ.w good (.inr rfl) rfl rfl (Wv.refl _) (by simp [pureA, pureL, pureR, inA, inL, inR, inO, idsIn, encs_pure, valC_pure, r_st_GInst_pure])
  ·replace hr := cnd_f h13 hr
   refine AW.skip ?_
   refine AW.seq ?_
   refine AW.seq ?_
   refine AW.rg ?_
   refine AL.v good (d := 36) (v := .ptr 0 0) rfl rfl rfl rfl ?_
   refine AL.v good (d := 37) (v := .str x1.f0) rfl rfl rfl rfl ?_
   refine AW.block ?_
   refine AW.seq ?_
   refine AW.rg ?_
   refine AL.sb good (d := 39) (b := (x1.f0.data.toList == [112, 117, 115, 104])) rfl rfl rfl rfl rfl rfl rfl ?_
   refine AL.v good (d := 38) (v := .bool (x1.f0.data.toList == [112, 117, 115, 104])) rfl rfl rfl rfl ?_
   refine AW.if rfl (fun h14 => ?_) (fun h14 => ?_)
   ·replace hr := cnd_t h14 hr
    refine AW.seq ?_
    refine AW.rg ?_
    refine AL.v good (d := 40) (v := .ptr 0 1) rfl rfl rfl rfl ?_
    refine AL.v good (d := 41) (v := .agg [.int .i64 x1.f1.kind, .int .i64 x1.f1.i, .bool x1.f1.b, .str x1.f1.s, .sl .ro 5 (encs x1.f1.t)]) rfl rfl rfl rfl ?_
    obtain ⟨q15, h16, hr⟩ := bnd1 hr
    refine AL.cw good (d := 42) (xs := [.agg (valC x1.f1)]) (res := .int .i64 q15) rfl rfl rfl rfl rfl rfl rfl (w_f34 _ _ _ h16) ⟨(Wv.refl _), trivial⟩ (by simp [pureA, pureL, pureR, inA, inL, inR, inO, idsIn, encs_pure, valC_pure, r_st_GInst_pure]) ?_
    refine AL.v good (d := 4) (v := .int .i64 q15) rfl rfl rfl rfl ?_
    refine AW.ret ?_
    obtain rfl := Option.some.inj hr
    exact RetQ.w good (.inr rfl) rfl rfl (Wv.refl _) (by simp [pureA, pureL, pureR, inA, inL, inR, inO, idsIn, encs_pure, valC_pure, r_st_GInst_pure])
   ·replace hr := cnd_f h14 hr
    refine AW.seq ?_
    refine AW.rg ?_
    refine AL.sb good (d := 44) (b := (x1.f0.data.toList == [97, 116])) rfl rfl rfl rfl rfl rfl rfl ?_
    refine AL.v good (d := 43) (v := .bool (x1.f0.data.toList == [97, 116])) rfl rfl rfl rfl ?_
    refine AW.if rfl (fun h17 => ?_) (fun h17 => ?_)
    ·replace hr := cnd_t h17 hr
     refine AW.seq ?_
     refine AW.rg ?_
     refine AL.v good (d := 45) (v := .ptr 0 6) rfl rfl rfl rfl ?_
     refine AL.v good (d := 46) (v := .int .i64 x1.f2) rfl rfl rfl rfl ?_
     refine AL.v good (d := 47) (v := .bool (decide (x1.f2 < 0))) rfl rfl rfl rfl ?_
     refine AW.if rfl (fun h18 => ?_) (fun h18 => ?_)
     ·replace hr := cnd_t h18 hr
      refine AW.seq ?_
      refine AW.rg ?_
      refine AL.v good (d := 4) (v := .int .i64 1) rfl rfl rfl rfl ?_
      refine AW.ret ?_
      obtain rfl := Option.some.inj hr
      exact RetQ.w good (.inr rfl) rfl rfl (Wv.refl _) (by simp [pureA, pureL, pureR, inA, inL, inR, inO, idsIn, encs_pure, valC_pure, r_st_GInst_pure])
     ·replace hr := cnd_f h18 hr
      refine AW.skip ?_
      refine AW.seq ?_
      refine AW.rg ?_
      refine AL.v good (d := 4) (v := .int .i64 0) rfl rfl rfl rfl ?_
      refine AW.ret ?_
      obtain rfl := Option.some.inj hr
      exact RetQ.w good (.inr rfl) rfl rfl (Wv.refl _) (by simp [pureA, pureL, pureR, inA, inL, inR, inO, idsIn, encs_pure, valC_pure, r_st_GInst_pure])
    ·replace hr := cnd_f h17 hr
     refine AW.seq ?_
     refine AW.rg ?_
     refine AL.sb good (d := 49) (b := (x1.f0.data.toList == [116, 117, 112])) rfl rfl rfl rfl rfl rfl rfl ?_
     refine AL.v good (d := 48) (v := .bool (x1.f0.data.toList == [116, 117, 112])) rfl rfl rfl rfl ?_
     refine AW.if rfl (fun h19 => ?_) (fun h19 => ?_)
     ·replace hr := cnd_t h19 hr
      refine AW.seq ?_
      refine AW.rg ?_
      refine AL.v good (d := 50) (v := .ptr 0 6) rfl rfl rfl rfl ?_
      refine AL.v good (d := 51) (v := .int .i64 x1.f2) rfl rfl rfl rfl ?_
      refine AL.v good (d := 52) (v := .bool (decide (x1.f2 < 1))) rfl rfl rfl rfl ?_
      refine AL.vb good (d := 53) (b := (decide (x1.f2 < 1))) rfl rfl rfl rfl (fun g20 h21 => ?_)
      refine AL.gv good (d := 54) (c := (!g20)) (v := .ptr 0 6) (rd := []) rfl rfl (by cases g20 <;> rfl) (fun h => by cases g20 <;> first | rfl | exact absurd h (by decide)) ?_
      refine AL.gv good (d := 55) (c := (!g20)) (v := .int .i64 x1.f2) (rd := [(0, .box 132 [.str x1.f0, .int .i64 x1.f1.kind, .int .i64 x1.f1.i, .bool x1.f1.b, .str x1.f1.s, .sl .ro 5 (encs x1.f1.t), .int .i64 x1.f2])]) rfl rfl (by cases g20 <;> rfl) (fun h => by cases g20 <;> first | rfl | exact absurd h (by decide)) ?_
      refine AL.gv good (d := 56) (c := (!g20)) (v := .bool (decide (x1.f2 > 8))) (rd := []) rfl rfl (by cases g20 <;> rfl) (fun h => by cases g20 <;> first | rfl | exact absurd h (by decide)) ?_
      refine AL.v good (d := 57) (v := .bool (g20 || (decide (x1.f2 > 8)))) (rd := []) rfl rfl rfl (by cases g20 <;> rfl) ?_
      subst h21
      refine AW.if rfl (fun h22 => ?_) (fun h22 => ?_)
      ·replace hr := cnd_t h22 hr
       refine AW.seq ?_
       refine AW.rg ?_
       refine AL.v good (d := 4) (v := .int .i64 1) rfl rfl rfl rfl ?_
       refine AW.ret ?_
       obtain rfl := Option.some.inj hr
       exact RetQ.w good (.inr rfl) rfl rfl (Wv.refl _) (by simp [pureA, pureL, pureR, inA, inL, inR, inO, idsIn, encs_pure, valC_pure, r_st_GInst_pure])
      ·replace hr := cnd_f h22 hr
       refine AW.skip ?_
       refine AW.seq ?_
       refine AW.rg ?_
       refine AL.v good (d := 4) (v := .int .i64 0) rfl rfl rfl rfl ?_
       refine AW.ret ?_
       obtain rfl := Option.some.inj hr
       exact RetQ.w good (.inr rfl) rfl rfl (Wv.refl _) (by simp [pureA, pureL, pureR, inA, inL, inR, inO, idsIn, encs_pure, valC_pure, r_st_GInst_pure])
     ·replace hr := cnd_f h19 hr
      refine AW.seq ?_
      refine AW.rg ?_
      refine AL.sb good (d := 59) (b := (x1.f0.data.toList == [101, 109, 105, 116])) rfl rfl rfl rfl rfl rfl rfl ?_
      refine AL.v good (d := 58) (v := .bool (x1.f0.data.toList == [101, 109, 105, 116])) rfl rfl rfl rfl ?_
      refine AW.if rfl (fun h23 => ?_) (fun h23 => ?_)
      ·replace hr := cnd_t h23 hr
       refine AW.seq ?_
       refine AW.rg ?_
       refine AL.v good (d := 60) (v := .ptr 0 6) rfl rfl rfl rfl ?_
       refine AL.v good (d := 61) (v := .int .i64 x1.f2) rfl rfl rfl rfl ?_
       refine AL.v good (d := 62) (v := .bool (decide (x1.f2 < 0))) rfl rfl rfl rfl ?_
       refine AL.vb good (d := 63) (b := (decide (x1.f2 < 0))) rfl rfl rfl rfl (fun g24 h25 => ?_)
       refine AL.gv good (d := 64) (c := (!g24)) (v := .ptr 0 6) (rd := []) rfl rfl (by cases g24 <;> rfl) (fun h => by cases g24 <;> first | rfl | exact absurd h (by decide)) ?_
       refine AL.gv good (d := 65) (c := (!g24)) (v := .int .i64 x1.f2) (rd := [(0, .box 132 [.str x1.f0, .int .i64 x1.f1.kind, .int .i64 x1.f1.i, .bool x1.f1.b, .str x1.f1.s, .sl .ro 5 (encs x1.f1.t), .int .i64 x1.f2])]) rfl rfl (by cases g24 <;> rfl) (fun h => by cases g24 <;> first | rfl | exact absurd h (by decide)) ?_
       refine AL.gv good (d := 66) (c := (!g24)) (v := .bool (decide (x1.f2 > 4))) (rd := []) rfl rfl (by cases g24 <;> rfl) (fun h => by cases g24 <;> first | rfl | exact absurd h (by decide)) ?_
       refine AL.v good (d := 67) (v := .bool (g24 || (decide (x1.f2 > 4)))) (rd := []) rfl rfl rfl (by cases g24 <;> rfl) ?_
       subst h25
       refine AW.if rfl (fun h26 => ?_) (fun h26 => ?_)
       ·replace hr := cnd_t h26 hr
        refine AW.seq ?_
        refine AW.rg ?_
        refine AL.v good (d := 4) (v := .int .i64 1) rfl rfl rfl rfl ?_
        refine AW.ret ?_
        obtain rfl := Option.some.inj hr
        exact RetQ.w good (.inr rfl) rfl rfl (Wv.refl _) (by simp [pureA, pureL, pureR, inA, inL, inR, inO, idsIn, encs_pure, valC_pure, r_st_GInst_pure])
       ·replace hr := cnd_f h26 hr
        refine AW.skip ?_
        refine AW.seq ?_
        refine AW.rg ?_
        refine AL.v good (d := 4) (v := .int .i64 0) rfl rfl rfl rfl ?_
        refine AW.ret ?_
        obtain rfl := Option.some.inj hr
        exact RetQ.w good (.inr rfl) rfl rfl (Wv.refl _) (by simp [pureA, pureL, pureR, inA, inL, inR, inO, idsIn, encs_pure, valC_pure, r_st_GInst_pure])
      ·replace hr := cnd_f h23 hr
       refine AW.seq ?_
       refine AW.seq ?_
       refine AW.rg ?_
       refine AL.sb good (d := 69) (b := (x1.f0.data.toList == [106, 109, 112])) rfl rfl rfl rfl rfl rfl rfl ?_
       refine AL.v good (d := 68) (v := .bool (x1.f0.data.toList == [106, 109, 112])) rfl rfl rfl rfl ?_
       refine AW.if rfl (fun h27 => ?_) (fun h27 => ?_)
       ·replace hr := cnd_t h27 hr
        refine AW.skip ?_
        refine AW.if rfl (fun h => ?_) (fun h => by cases h27.symm.trans h)
        refine AW.seq ?_
        refine AW.rg ?_
        refine AL.v good (d := 71) (v := .ptr 0 6) rfl rfl rfl rfl ?_
        refine AL.v good (d := 72) (v := .int .i64 x1.f2) rfl rfl rfl rfl ?_
        refine AL.v good (d := 73) (v := .int .i64 a1) rfl rfl rfl rfl ?_
        refine AL.v good (d := 74) (v := .bool (decide (x1.f2 ≤ a1))) rfl rfl rfl rfl ?_
        refine AL.vb good (d := 75) (b := (decide (x1.f2 ≤ a1))) rfl rfl rfl rfl (fun g28 h29 => ?_)
        refine AL.gv good (d := 76) (c := (!g28)) (v := .ptr 0 6) (rd := []) rfl rfl (by cases g28 <;> rfl) (fun h => by cases g28 <;> first | rfl | exact absurd h (by decide)) ?_
        refine AL.gv good (d := 77) (c := (!g28)) (v := .int .i64 x1.f2) (rd := [(0, .box 132 [.str x1.f0, .int .i64 x1.f1.kind, .int .i64 x1.f1.i, .bool x1.f1.b, .str x1.f1.s, .sl .ro 5 (encs x1.f1.t), .int .i64 x1.f2])]) rfl rfl (by cases g28 <;> rfl) (fun h => by cases g28 <;> first | rfl | exact absurd h (by decide)) ?_
        refine AL.gv good (d := 78) (c := (!g28)) (v := .sl .ro 7 (r_st_GInst a0)) (rd := []) rfl rfl (by cases g28 <;> rfl) (fun h => by cases g28 <;> first | rfl | exact absurd h (by decide)) ?_
        refine AL.gln good (d := 79) (c := (!g28)) (m := a0.length) rfl rfl (by cases g28 <;> rfl) rfl rfl (fun h => by cases g28 <;> first | rfl | exact absurd h (by decide)) (r_st_GInst_length _) ?_
        refine AL.gv good (d := 80) (c := (!g28)) (v := .bool (decide (x1.f2 ≥ (a0.length : Int)))) (rd := []) rfl rfl (by cases g28 <;> rfl) (fun h => by cases g28 <;> first | rfl | exact absurd h (by decide)) ?_
        refine AL.v good (d := 81) (v := .bool (g28 || (decide (x1.f2 ≥ (a0.length : Int))))) (rd := []) rfl rfl rfl (by cases g28 <;> rfl) ?_
        subst h29
        refine AW.if rfl (fun h30 => ?_) (fun h30 => ?_)
        ·replace hr := cnd_t h30 hr
         refine AW.seq ?_
         refine AW.rg ?_
         refine AL.v good (d := 4) (v := .int .i64 1) rfl rfl rfl rfl ?_
         refine AW.ret ?_
         obtain rfl := Option.some.inj hr
         exact RetQ.w good (.inr rfl) rfl rfl (Wv.refl _) (by simp [pureA, pureL, pureR, inA, inL, inR, inO, idsIn, encs_pure, valC_pure, r_st_GInst_pure])
        ·replace hr := cnd_f h30 hr
         refine AW.skip ?_
         refine AW.seq ?_
         refine AW.rg ?_
         refine AL.v good (d := 4) (v := .int .i64 0) rfl rfl rfl rfl ?_
         refine AW.ret ?_
         obtain rfl := Option.some.inj hr
         exact RetQ.w good (.inr rfl) rfl rfl (Wv.refl _) (by simp [pureA, pureL, pureR, inA, inL, inR, inO, idsIn, encs_pure, valC_pure, r_st_GInst_pure])
       ·replace hr := cnd_f h27 hr
        refine AW.rg ?_
        refine AL.sb good (d := 70) (b := (x1.f0.data.toList == [106, 102])) rfl rfl rfl rfl rfl rfl rfl ?_
        refine AL.v good (d := 68) (v := .bool (x1.f0.data.toList == [106, 102])) rfl rfl rfl rfl ?_
        refine AW.if rfl (fun h31 => ?_) (fun h31 => ?_)
        ·replace hr := cnd_t h31 hr
         refine AW.seq ?_
         refine AW.rg ?_
         refine AL.v good (d := 71) (v := .ptr 0 6) rfl rfl rfl rfl ?_
         refine AL.v good (d := 72) (v := .int .i64 x1.f2) rfl rfl rfl rfl ?_
         refine AL.v good (d := 73) (v := .int .i64 a1) rfl rfl rfl rfl ?_
         refine AL.v good (d := 74) (v := .bool (decide (x1.f2 ≤ a1))) rfl rfl rfl rfl ?_
         refine AL.vb good (d := 75) (b := (decide (x1.f2 ≤ a1))) rfl rfl rfl rfl (fun g32 h33 => ?_)
         refine AL.gv good (d := 76) (c := (!g32)) (v := .ptr 0 6) (rd := []) rfl rfl (by cases g32 <;> rfl) (fun h => by cases g32 <;> first | rfl | exact absurd h (by decide)) ?_
         refine AL.gv good (d := 77) (c := (!g32)) (v := .int .i64 x1.f2) (rd := [(0, .box 132 [.str x1.f0, .int .i64 x1.f1.kind, .int .i64 x1.f1.i, .bool x1.f1.b, .str x1.f1.s, .sl .ro 5 (encs x1.f1.t), .int .i64 x1.f2])]) rfl rfl (by cases g32 <;> rfl) (fun h => by cases g32 <;> first | rfl | exact absurd h (by decide)) ?_
         refine AL.gv good (d := 78) (c := (!g32)) (v := .sl .ro 7 (r_st_GInst a0)) (rd := []) rfl rfl (by cases g32 <;> rfl) (fun h => by cases g32 <;> first | rfl | exact absurd h (by decide)) ?_
         refine AL.gln good (d := 79) (c := (!g32)) (m := a0.length) rfl rfl (by cases g32 <;> rfl) rfl rfl (fun h => by cases g32 <;> first | rfl | exact absurd h (by decide)) (r_st_GInst_length _) ?_
         refine AL.gv good (d := 80) (c := (!g32)) (v := .bool (decide (x1.f2 ≥ (a0.length : Int)))) (rd := []) rfl rfl (by cases g32 <;> rfl) (fun h => by cases g32 <;> first | rfl | exact absurd h (by decide)) ?_
         refine AL.v good (d := 81) (v := .bool (g32 || (decide (x1.f2 ≥ (a0.length : Int))))) (rd := []) rfl rfl rfl (by cases g32 <;> rfl) ?_
         subst h33
         refine AW.if rfl (fun h34 => ?_) (fun h34 => ?_)
         ·replace hr := cnd_t h34 hr
          refine AW.seq ?_
          refine AW.rg ?_
          refine AL.v good (d := 4) (v := .int .i64 1) rfl rfl rfl rfl ?_
          refine AW.ret ?_
          obtain rfl := Option.some.inj hr
          exact RetQ.w good (.inr rfl) rfl rfl (Wv.refl _) (by simp [pureA, pureL, pureR, inA, inL, inR, inO, idsIn, encs_pure, valC_pure, r_st_GInst_pure])
         ·replace hr := cnd_f h34 hr
          refine AW.skip ?_
          refine AW.seq ?_
          refine AW.rg ?_
          refine AL.v good (d := 4) (v := .int .i64 0) rfl rfl rfl rfl ?_
          refine AW.ret ?_
          obtain rfl := Option.some.inj hr
          exact RetQ.w good (.inr rfl) rfl rfl (Wv.refl _) (by simp [pureA, pureL, pureR, inA, inL, inR, inO, idsIn, encs_pure, valC_pure, r_st_GInst_pure])
        ·replace hr := cnd_f h31 hr
         refine AW.skip ?_
         refine AW.seq ?_
         refine AW.rg ?_
         refine AL.v good (d := 4) (v := .int .i64 0) rfl rfl rfl rfl ?_
         refine AW.ret ?_
         obtain rfl := Option.some.inj hr
         exact RetQ.w good (.inr rfl) rfl rfl (Wv.refl _) (by simp [pureA, pureL, pureR, inA, inL, inR, inO, idsIn, encs_pure, valC_pure, r_st_GInst_pure])

mutual
def s_f70_l1 : Nat → (List GInst) → Nat → Option (Int × Int)
  | 0, _, _ => none
  | n + 1, a0, v1_1 => (bif (decide ((v1_1 : Int) < (a0.length : Int))) then ((s_f107 n a0 (v1_1 : Int)).bind fun q9 => (bif (q9 != 0) then some ((v1_1 : Int), q9) else (s_f70_l1 n a0 (v1_1 + 1)))) else some (0, 0))
end
def s_f70 (n : Nat) (a0 : List GInst) : Option (Int × Int) :=
  (bif ((a0.length : Int) == 0) then some (0, 3) else (bif (decide ((a0.length : Int) > 4096)) then some (0, 10) else (s_f70_l1 n a0 0)))

theorem w_f70 (n : Nat) (a0 : List GInst) (r : Int × Int) (hr : s_f70 n a0 = some r) : ACall Try.prog 70 [.sl .ro 7 (r_st_GInst a0)] (.tup [.int .i64 r.1, .int .i64 r.2]) := by
 refine ACall.go [(0, .sl .ro 7 (r_st_GInst a0))] Try.func70 rfl Try.ntmps70 rfl rfl (by simp [pureA, pureL, pureR, inA, inL, inR, inO, idsIn, encs_pure, valC_pure, r_st_GInst_pure]) ?_
 rw [s_f70] at hr
 refine AW.seq ?_
 refine AW.rg ?_
 refine AL.v good (d := 2) (v := .int .i64 0) rfl rfl rfl rfl ?_
 refine AL.v good (d := 3) (v := .int .i64 0) rfl rfl rfl rfl ?_
 refine AW.seq ?_
 refine AW.seq ?_
 refine AW.rg ?_
 refine AL.v good (d := 6) (v := .sl .ro 7 (r_st_GInst a0)) rfl rfl rfl rfl ?_
 refine AL.ln good (d := 7) (m := a0.length) rfl rfl rfl rfl rfl rfl (r_st_GInst_length _) ?_
 refine AL.v good (d := 8) (v := .bool ((a0.length : Int) == 0)) rfl rfl rfl rfl ?_
 refine AW.if rfl (fun h1 => ?_) (fun h1 => ?_)
 ·replace hr := cnd_t h1 hr
  refine AW.seq ?_
  refine AW.rg ?_
  refine AL.v good (d := 2) (v := .int .i64 0) rfl rfl rfl rfl ?_
  refine AL.v good (d := 3) (v := .int .i64 3) rfl rfl rfl rfl ?_
  refine AW.ret ?_
  obtain rfl := Option.some.inj hr
  exact RetQ.w good (.inr rfl) rfl rfl (Wv.refl _) (by simp [pureA, pureL, pureR, inA, inL, inR, inO, idsIn, encs_pure, valC_pure, r_st_GInst_pure])
 ·replace hr := cnd_f h1 hr
  refine AW.skip ?_
  refine AW.seq ?_
  refine AW.seq ?_
  refine AW.rg ?_
  refine AL.v good (d := 9) (v := .sl .ro 7 (r_st_GInst a0)) rfl rfl rfl rfl ?_
  refine AL.ln good (d := 10) (m := a0.length) rfl rfl rfl rfl rfl rfl (r_st_GInst_length _) ?_
  refine AL.v good (d := 11) (v := .bool (decide ((a0.length : Int) > 4096))) rfl rfl rfl rfl ?_
  refine AW.if rfl (fun h2 => ?_) (fun h2 => ?_)
  ·replace hr := cnd_t h2 hr
   refine AW.seq ?_
   refine AW.rg ?_
   refine AL.v good (d := 2) (v := .int .i64 0) rfl rfl rfl rfl ?_
   refine AL.v good (d := 3) (v := .int .i64 10) rfl rfl rfl rfl ?_
   refine AW.ret ?_
   obtain rfl := Option.some.inj hr
   exact RetQ.w good (.inr rfl) rfl rfl (Wv.refl _) (by simp [pureA, pureL, pureR, inA, inL, inR, inO, idsIn, encs_pure, valC_pure, r_st_GInst_pure])
  ·replace hr := cnd_f h2 hr
   refine AW.skip ?_
   refine AW.seq ?_
   refine AW.seq ?_
   refine AW.rg ?_
   refine AL.v good (d := 4) (v := .int .i64 0) rfl rfl rfl rfl ?_
   refine AW.block ?_
   refine AW.lens 0 rfl (fun hl7 => ?_)
   replace hl7 : a0.length ≤ 9223372036854775807 := by rw [← r_st_GInst_length a0]; exact hl7
   refine AW.lpw (fun x : Nat × Nat => [(0, .sl .ro 7 (r_st_GInst a0)), (4, .int .i64 (x.2 : Int))]) (fun x => []) (fun x => s_f70_l1 x.1 a0 x.2 = some r ∧ x.1 ≤ n) (fun x => x.1) (n, 0) ⟨(fun _ h => by cases h), fmc ⟨⟨⟨_, rfl, Wv.refl _⟩, (by simp [pureA, pureL, pureR, inA, inL, inR, inO, idsIn, encs_pure, valC_pure, r_st_GInst_pure])⟩, fmc ⟨⟨⟨_, rfl, Wv.refl _⟩, (by simp [pureA, pureL, pureR, inA, inL, inR, inO, idsIn, encs_pure, valC_pure, r_st_GInst_pure])⟩, (fun _ h => by cases h)⟩⟩, (fun _ h => by cases h)⟩ ⟨hr, Nat.le_refl _⟩ (fun ⟨m, v1_1⟩ hx => ?_)
   obtain ⟨hr, hm⟩ := hx
   try dsimp only at hr hm
   cases m with
   | zero => rw [s_f70_l1] at hr; cases hr
   | succ m =>
    rw [s_f70_l1] at hr
    show AW Try.prog _ _ _ (mkS 25 [(0, .sl .ro 7 (r_st_GInst a0)), (4, .int .i64 (v1_1 : Int))] [])
    refine AW.seq ?_
    refine AW.seq ?_
    refine AW.rg ?_
    refine AL.v good (d := 12) (v := .int .i64 (v1_1 : Int)) rfl rfl rfl rfl ?_
    refine AL.v good (d := 13) (v := .sl .ro 7 (r_st_GInst a0)) rfl rfl rfl rfl ?_
    refine AL.ln good (d := 14) (m := a0.length) rfl rfl rfl rfl rfl rfl (r_st_GInst_length _) ?_
    refine AL.v good (d := 15) (v := .bool (decide ((v1_1 : Int) < (a0.length : Int)))) rfl rfl rfl rfl ?_
    refine AW.if rfl (fun h8 => ?_) (fun h8 => ?_)
    ·replace hr := cnd_t h8 hr
     refine AW.skip ?_
     refine AW.seq ?_
     refine AW.block ?_
     refine AW.seq ?_
     refine AW.rg ?_
     refine AL.v good (d := 18) (v := .sl .ro 7 (r_st_GInst a0)) rfl rfl rfl rfl ?_
     refine AL.v good (d := 19) (v := .int .i64 (v1_1 : Int)) rfl rfl rfl rfl ?_
     obtain ⟨q9, h10, hr⟩ := bnd1 hr
     refine AL.cw good (d := 20) (xs := [.sl .ro 7 (r_st_GInst a0), .int .i64 (v1_1 : Int)]) (res := .int .i64 q9) rfl rfl rfl rfl rfl rfl rfl (w_f107 _ _ _ _ h10) ⟨(Wv.refl _), (Wv.refl _), trivial⟩ (by simp [pureA, pureL, pureR, inA, inL, inR, inO, idsIn, encs_pure, valC_pure, r_st_GInst_pure]) ?_
     refine AL.v good (d := 5) (v := .int .i64 q9) rfl rfl rfl rfl ?_
     refine AW.seq ?_
     refine AW.rg ?_
     refine AL.v good (d := 21) (v := .int .i64 q9) rfl rfl rfl rfl ?_
     refine AL.v good (d := 22) (v := .bool (q9 != 0)) rfl rfl rfl rfl ?_
     refine AW.if rfl (fun h11 => ?_) (fun h11 => ?_)
     ·replace hr := cnd_t h11 hr
      refine AW.seq ?_
      refine AW.rg ?_
      refine AL.v good (d := 23) (v := .int .i64 (v1_1 : Int)) rfl rfl rfl rfl ?_
      refine AL.v good (d := 24) (v := .int .i64 q9) rfl rfl rfl rfl ?_
      refine AL.v good (d := 2) (v := .int .i64 (v1_1 : Int)) rfl rfl rfl rfl ?_
      refine AL.v good (d := 3) (v := .int .i64 q9) rfl rfl rfl rfl ?_
      refine AW.ret ?_
      obtain rfl := Option.some.inj hr
      exact RetQ.w good (.inr rfl) rfl rfl (Wv.refl _) (by simp [pureA, pureL, pureR, inA, inL, inR, inO, idsIn, encs_pure, valC_pure, r_st_GInst_pure])
     ·replace hr := cnd_f h11 hr
      refine AW.skip ?_
      refine AW.rg ?_
      refine AL.v good (d := 16) (v := .int .i64 (v1_1 : Int)) rfl rfl rfl rfl ?_
      refine AL.v good (d := 17) (v := .int .i64 (IntKind.i64.wrap ((v1_1 : Int) + 1))) rfl rfl rfl rfl ?_
      refine AL.v good (d := 4) (v := .int .i64 (IntKind.i64.wrap ((v1_1 : Int) + 1))) rfl rfl rfl rfl ?_
      exact ⟨(m, (v1_1 + 1)), _, _, rfl, ⟨(fun _ h => by cases h), fmc ⟨⟨⟨_, rfl, Wv.refl _⟩, (by simp [pureA, pureL, pureR, inA, inL, inR, inO, idsIn, encs_pure, valC_pure, r_st_GInst_pure])⟩, fmc ⟨⟨⟨_, rfl, (wnx h8 hl7)⟩, (by simp [pureA, pureL, pureR, inA, inL, inR, inO, idsIn, encs_pure, valC_pure, r_st_GInst_pure])⟩, (fun _ h => by cases h)⟩⟩, (fun _ h => by cases h)⟩, ⟨hr, Nat.le_of_succ_le hm⟩, Nat.lt_succ_self _⟩
    ·replace hr := cnd_f h8 hr
     refine AW.exit ?_
     refine AW.seq ?_
     refine AW.rg ?_
     refine AL.v good (d := 2) (v := .int .i64 0) rfl rfl rfl rfl ?_
     refine AL.v good (d := 3) (v := .int .i64 0) rfl rfl rfl rfl ?_
     refine AW.ret ?_
     obtain rfl := Option.some.inj hr
     exact RetQ.w good (.inr rfl) rfl rfl (Wv.refl _) (by simp [pureA, pureL, pureR, inA, inL, inR, inO, idsIn, encs_pure, valC_pure, r_st_GInst_pure])

mutual
def s_f142_l1 : Nat → (List Ty) → (List Ty) → Nat → Option Bool
  | 0, _, _, _ => none
  | n + 1, a0, a1, v1_1 => (bif (decide ((v1_1 : Int) < (a0.length : Int))) then ((a0[v1_1]?).bind fun x14 => ((a1[v1_1]?).bind fun x16 => ((s_f65 n x14 x16).bind fun q18 => (bif (!q18) then some false else (s_f142_l1 n a0 a1 (v1_1 + 1)))))) else some true)
end
def s_f142 (n : Nat) (a0 : List Ty) (a1 : List Ty) : Option Bool :=
  (bif ((a0.length : Int) != (a1.length : Int)) then some false else (s_f142_l1 n a0 a1 0))

theorem w_f142 (n : Nat) (a0 : List Ty) (a1 : List Ty) (r : Bool) (hr : s_f142 n a0 a1 = some r) : ACall Try.prog 142 [.sl .ro 2 (enys a0), .sl .ro 2 (enys a1)] (.bool r) := by
 refine ACall.go [(0, .sl .ro 2 (enys a0)), (1, .sl .ro 2 (enys a1))] Try.func142 rfl Try.ntmps142 rfl rfl (by simp [pureA, pureL, pureR, inA, inL, inR, inO, idsIn, encs_pure, enys_pure, valC_pure, tyC_pure]) ?_
 rw [s_f142] at hr
 refine AW.seq ?_
 refine AW.rg ?_
 refine AL.v good (d := 4) (v := .bool false) rfl rfl rfl rfl ?_
 refine AW.seq ?_
 refine AW.seq ?_
 refine AW.rg ?_
 refine AL.v good (d := 6) (v := .sl .ro 2 (enys a0)) rfl rfl rfl rfl ?_
 refine AL.ln good (d := 7) (m := a0.length) rfl rfl rfl rfl rfl rfl (enys_length _) ?_
 refine AL.v good (d := 8) (v := .sl .ro 2 (enys a1)) rfl rfl rfl rfl ?_
 refine AL.ln good (d := 9) (m := a1.length) rfl rfl rfl rfl rfl rfl (enys_length _) ?_
 refine AL.v good (d := 10) (v := .bool ((a0.length : Int) != (a1.length : Int))) rfl rfl rfl rfl ?_
 refine AW.if rfl (fun h1 => ?_) (fun h1 => ?_)
 ·replace hr := cnd_t h1 hr
  refine AW.seq ?_
  refine AW.rg ?_
  refine AL.v good (d := 4) (v := .bool false) rfl rfl rfl rfl ?_
  refine AW.ret ?_
  obtain rfl := Option.some.inj hr
  exact RetQ.w good (.inr rfl) rfl rfl (Wv.refl _) (by simp [pureA, pureL, pureR, inA, inL, inR, inO, idsIn, encs_pure, enys_pure, valC_pure, tyC_pure])
 ·replace hr := cnd_f h1 hr
  refine AW.skip ?_
  refine AW.seq ?_
  refine AW.seq ?_
  refine AW.rg ?_
  refine AL.v good (d := 5) (v := .int .i64 0) rfl rfl rfl rfl ?_
  refine AW.block ?_
  refine AW.lens 0 rfl (fun hl12 => ?_)
  replace hl12 : a0.length ≤ 9223372036854775807 := by rw [← enys_length a0]; exact hl12
  refine AW.lpw (fun x : Nat × Nat => [(0, .sl .ro 2 (enys a0)), (1, .sl .ro 2 (enys a1)), (5, .int .i64 (x.2 : Int))]) (fun x => []) (fun x => s_f142_l1 x.1 a0 a1 x.2 = some r ∧ x.1 ≤ n) (fun x => x.1) (n, 0) ⟨(fun _ h => by cases h), fmc ⟨⟨⟨_, rfl, Wv.refl _⟩, (by simp [pureA, pureL, pureR, inA, inL, inR, inO, idsIn, encs_pure, enys_pure, valC_pure, tyC_pure])⟩, fmc ⟨⟨⟨_, rfl, Wv.refl _⟩, (by simp [pureA, pureL, pureR, inA, inL, inR, inO, idsIn, encs_pure, enys_pure, valC_pure, tyC_pure])⟩, fmc ⟨⟨⟨_, rfl, Wv.refl _⟩, (by simp [pureA, pureL, pureR, inA, inL, inR, inO, idsIn, encs_pure, enys_pure, valC_pure, tyC_pure])⟩, (fun _ h => by cases h)⟩⟩⟩, (fun _ h => by cases h)⟩ ⟨hr, Nat.le_refl _⟩ (fun ⟨m, v1_1⟩ hx => ?_)
  obtain ⟨hr, hm⟩ := hx
  try dsimp only at hr hm
  cases m with
  | zero => rw [s_f142_l1] at hr; cases hr
  | succ m =>
   rw [s_f142_l1] at hr
   show AW Try.prog _ _ _ (mkS 27 [(0, .sl .ro 2 (enys a0)), (1, .sl .ro 2 (enys a1)), (5, .int .i64 (v1_1 : Int))] [])
   refine AW.seq ?_
   refine AW.seq ?_
   refine AW.rg ?_
   refine AL.v good (d := 11) (v := .int .i64 (v1_1 : Int)) rfl rfl rfl rfl ?_
   refine AL.v good (d := 12) (v := .sl .ro 2 (enys a0)) rfl rfl rfl rfl ?_
   refine AL.ln good (d := 13) (m := a0.length) rfl rfl rfl rfl rfl rfl (enys_length _) ?_
   refine AL.v good (d := 14) (v := .bool (decide ((v1_1 : Int) < (a0.length : Int)))) rfl rfl rfl rfl ?_
   refine AW.if rfl (fun h13 => ?_) (fun h13 => ?_)
   ·replace hr := cnd_t h13 hr
    refine AW.skip ?_
    refine AW.seq ?_
    refine AW.block ?_
    refine AW.seq ?_
    refine AW.draw (M := fun i => false) good.wide (by kernel_rfl) ?_
    refine AL.v good (d := 17) (v := .sl .ro 2 (enys a0)) rfl rfl rfl rfl ?_
    refine AL.v good (d := 18) (v := .int .i64 (v1_1 : Int)) rfl rfl rfl rfl ?_
    obtain ⟨x14, h15, hr⟩ := bnd1 hr
    refine AL.ix good (d := 19) (r := [.int .i64 x14.kind, .sl .ro 2 (enys x14.of)]) rfl rfl rfl rfl rfl rfl rfl (Int.natCast_nonneg _) (enys_get h15) ?_
    refine AL.v good (d := 20) (v := .agg [.int .i64 x14.kind, .sl .ro 2 (enys x14.of)]) rfl rfl rfl rfl ?_
    refine AL.v good (d := 21) (v := .sl .ro 2 (enys a1)) rfl rfl rfl rfl ?_
    refine AL.v good (d := 22) (v := .int .i64 (v1_1 : Int)) rfl rfl rfl rfl ?_
    obtain ⟨x16, h17, hr⟩ := bnd1 hr
    refine AL.ix good (d := 23) (r := [.int .i64 x16.kind, .sl .ro 2 (enys x16.of)]) rfl rfl rfl rfl rfl rfl rfl (Int.natCast_nonneg _) (enys_get h17) ?_
    refine AL.v good (d := 24) (v := .agg [.int .i64 x16.kind, .sl .ro 2 (enys x16.of)]) rfl rfl rfl rfl ?_
    obtain ⟨q18, h19, hr⟩ := bnd1 hr
    refine AL.cw good (d := 25) (xs := [.agg (tyC x14), .agg (tyC x16)]) (res := .bool q18) rfl rfl rfl rfl rfl rfl rfl (w_f65 _ _ _ _ h19) ⟨(Wv.refl _), (Wv.refl _), trivial⟩ (by simp [pureA, pureL, pureR, inA, inL, inR, inO, idsIn, encs_pure, enys_pure, valC_pure, tyC_pure]) ?_
    refine AL.v good (d := 26) (v := .bool (!q18)) rfl rfl rfl rfl ?_
    refine AW.if rfl (fun h20 => ?_) (fun h20 => ?_)
    ·replace hr := cnd_t h20 hr
     refine AW.seq ?_
     refine AW.rg ?_
     refine AL.v good (d := 4) (v := .bool false) rfl rfl rfl rfl ?_
     refine AW.ret ?_
     obtain rfl := Option.some.inj hr
     exact RetQ.w good (.inr rfl) rfl rfl (Wv.refl _) (by simp [pureA, pureL, pureR, inA, inL, inR, inO, idsIn, encs_pure, enys_pure, valC_pure, tyC_pure])
    ·replace hr := cnd_f h20 hr
     refine AW.skip ?_
     refine AW.rg ?_
     refine AL.v good (d := 15) (v := .int .i64 (v1_1 : Int)) rfl rfl rfl rfl ?_
     refine AL.v good (d := 16) (v := .int .i64 (IntKind.i64.wrap ((v1_1 : Int) + 1))) rfl rfl rfl rfl ?_
     refine AL.v good (d := 5) (v := .int .i64 (IntKind.i64.wrap ((v1_1 : Int) + 1))) rfl rfl rfl rfl ?_
     exact ⟨(m, (v1_1 + 1)), _, _, rfl, ⟨(fun _ h => by cases h), fmc ⟨⟨⟨_, rfl, Wv.refl _⟩, (by simp [pureA, pureL, pureR, inA, inL, inR, inO, idsIn, encs_pure, enys_pure, valC_pure, tyC_pure])⟩, fmc ⟨⟨⟨_, rfl, Wv.refl _⟩, (by simp [pureA, pureL, pureR, inA, inL, inR, inO, idsIn, encs_pure, enys_pure, valC_pure, tyC_pure])⟩, fmc ⟨⟨⟨_, rfl, (wnx h13 hl12)⟩, (by simp [pureA, pureL, pureR, inA, inL, inR, inO, idsIn, encs_pure, enys_pure, valC_pure, tyC_pure])⟩, (fun _ h => by cases h)⟩⟩⟩, (fun _ h => by cases h)⟩, ⟨hr, Nat.le_of_succ_le hm⟩, Nat.lt_succ_self _⟩
   ·replace hr := cnd_f h13 hr
    refine AW.exit ?_
    refine AW.seq ?_
    refine AW.rg ?_
    refine AL.v good (d := 4) (v := .bool true) rfl rfl rfl rfl ?_
    refine AW.ret ?_
    obtain rfl := Option.some.inj hr
    exact RetQ.w good (.inr rfl) rfl rfl (Wv.refl _) (by simp [pureA, pureL, pureR, inA, inL, inR, inO, idsIn, encs_pure, enys_pure, valC_pure, tyC_pure])

def s_f74 (n : Nat) (a0 : GInst) : Option Int :=
  (bif (a0.f0.data.toList == [112, 117, 115, 104]) then some 0 else (bif (a0.f0.data.toList == [120]) then some 0 else (bif (a0.f0.data.toList == [106, 109, 112]) then some 0 else (bif (a0.f0.data.toList == [114, 101, 116]) then some 0 else (bif (a0.f0.data.toList == [116, 117, 112]) then some a0.f2 else (bif (a0.f0.data.toList == [101, 109, 105, 116]) then some a0.f2 else (bif (a0.f0.data.toList == [97, 116]) then some 1 else (bif (a0.f0.data.toList == [110, 101, 103]) then some 1 else (bif (a0.f0.data.toList == [110, 111, 116]) then some 1 else (bif (a0.f0.data.toList == [108, 101, 110]) then some 1 else (bif (a0.f0.data.toList == [106, 102]) then some 1 else some 2)))))))))))

theorem w_f74 (n : Nat) (a0 : GInst) (r : Int) (hr : s_f74 n a0 = some r) : ACall Try.prog 74 [.agg [.str a0.f0, .int .i64 a0.f1.kind, .int .i64 a0.f1.i, .bool a0.f1.b, .str a0.f1.s, .sl .ro 5 (encs a0.f1.t), .int .i64 a0.f2]] (.int .i64 r) := by
 refine ACall.go [(0, .agg [.str a0.f0, .int .i64 a0.f1.kind, .int .i64 a0.f1.i, .bool a0.f1.b, .str a0.f1.s, .sl .ro 5 (encs a0.f1.t), .int .i64 a0.f2])] Try.func74 rfl Try.ntmps74 rfl rfl (by simp [pureA, pureL, pureR, inA, inL, inR, inO, idsIn, encs_pure, valC_pure]) ?_
 rw [s_f74] at hr
 refine AW.seq ?_
 refine AW.rg ?_
 refine AL.bx good (d := 1) (l := [.str a0.f0, .int .i64 a0.f1.kind, .int .i64 a0.f1.i, .bool a0.f1.b, .str a0.f1.s, .sl .ro 5 (encs a0.f1.t), .int .i64 a0.f2]) rfl rfl rfl rfl rfl rfl 0 rfl ?_
 refine AL.v good (d := 2) (v := .int .i64 0) rfl rfl rfl rfl ?_
 refine AW.seq ?_
 refine AW.seq ?_
 refine AW.rg ?_
 refine AL.v good (d := 3) (v := .ptr 0 0) rfl rfl rfl rfl ?_
 refine AL.v good (d := 4) (v := .str a0.f0) rfl rfl rfl rfl ?_
 refine AW.block ?_
 refine AW.seq ?_
 refine AW.seq ?_
 refine AW.rg ?_
 refine AL.sb good (d := 6) (b := (a0.f0.data.toList == [112, 117, 115, 104])) rfl rfl rfl rfl rfl rfl rfl ?_
 refine AL.v good (d := 5) (v := .bool (a0.f0.data.toList == [112, 117, 115, 104])) rfl rfl rfl rfl ?_
 refine AW.if rfl (fun h1 => ?_) (fun h1 => ?_)
 ·replace hr := cnd_t h1 hr
  refine AW.skip ?_
  refine AW.if rfl (fun h => ?_) (fun h => by cases h1.symm.trans h)
  refine AW.seq ?_
  refine AW.rg ?_
  refine AL.v good (d := 2) (v := .int .i64 0) rfl rfl rfl rfl ?_
  refine AW.ret ?_
  obtain rfl := Option.some.inj hr
  exact RetQ.w good (.inr rfl) rfl rfl (Wv.refl _) (by simp [pureA, pureL, pureR, inA, inL, inR, inO, idsIn, encs_pure, valC_pure])
 ·replace hr := cnd_f h1 hr
  refine AW.seq ?_
  refine AW.rg ?_
  refine AL.sb good (d := 7) (b := (a0.f0.data.toList == [120])) rfl rfl rfl rfl rfl rfl rfl ?_
  refine AL.v good (d := 5) (v := .bool (a0.f0.data.toList == [120])) rfl rfl rfl rfl ?_
  refine AW.if rfl (fun h2 => ?_) (fun h2 => ?_)
  ·replace hr := cnd_t h2 hr
   refine AW.skip ?_
   refine AW.if rfl (fun h => ?_) (fun h => by cases h2.symm.trans h)
   refine AW.seq ?_
   refine AW.rg ?_
   refine AL.v good (d := 2) (v := .int .i64 0) rfl rfl rfl rfl ?_
   refine AW.ret ?_
   obtain rfl := Option.some.inj hr
   exact RetQ.w good (.inr rfl) rfl rfl (Wv.refl _) (by simp [pureA, pureL, pureR, inA, inL, inR, inO, idsIn, encs_pure, valC_pure])
  ·replace hr := cnd_f h2 hr
   refine AW.seq ?_
   refine AW.rg ?_
   refine AL.sb good (d := 8) (b := (a0.f0.data.toList == [106, 109, 112])) rfl rfl rfl rfl rfl rfl rfl ?_
   refine AL.v good (d := 5) (v := .bool (a0.f0.data.toList == [106, 109, 112])) rfl rfl rfl rfl ?_
   refine AW.if rfl (fun h3 => ?_) (fun h3 => ?_)
   ·replace hr := cnd_t h3 hr
    refine AW.skip ?_
    refine AW.if rfl (fun h => ?_) (fun h => by cases h3.symm.trans h)
    refine AW.seq ?_
    refine AW.rg ?_
    refine AL.v good (d := 2) (v := .int .i64 0) rfl rfl rfl rfl ?_
    refine AW.ret ?_
    obtain rfl := Option.some.inj hr
    exact RetQ.w good (.inr rfl) rfl rfl (Wv.refl _) (by simp [pureA, pureL, pureR, inA, inL, inR, inO, idsIn, encs_pure, valC_pure])
   ·replace hr := cnd_f h3 hr
    refine AW.rg ?_
    refine AL.sb good (d := 9) (b := (a0.f0.data.toList == [114, 101, 116])) rfl rfl rfl rfl rfl rfl rfl ?_
    refine AL.v good (d := 5) (v := .bool (a0.f0.data.toList == [114, 101, 116])) rfl rfl rfl rfl ?_
    refine AW.if rfl (fun h4 => ?_) (fun h4 => ?_)
    ·replace hr := cnd_t h4 hr
     refine AW.seq ?_
     refine AW.rg ?_
     refine AL.v good (d := 2) (v := .int .i64 0) rfl rfl rfl rfl ?_
     refine AW.ret ?_
     obtain rfl := Option.some.inj hr
     exact RetQ.w good (.inr rfl) rfl rfl (Wv.refl _) (by simp [pureA, pureL, pureR, inA, inL, inR, inO, idsIn, encs_pure, valC_pure])
    ·replace hr := cnd_f h4 hr
     refine AW.seq ?_
     refine AW.seq ?_
     refine AW.rg ?_
     refine AL.sb good (d := 11) (b := (a0.f0.data.toList == [116, 117, 112])) rfl rfl rfl rfl rfl rfl rfl ?_
     refine AL.v good (d := 10) (v := .bool (a0.f0.data.toList == [116, 117, 112])) rfl rfl rfl rfl ?_
     refine AW.if rfl (fun h5 => ?_) (fun h5 => ?_)
     ·replace hr := cnd_t h5 hr
      refine AW.skip ?_
      refine AW.if rfl (fun h => ?_) (fun h => by cases h5.symm.trans h)
      refine AW.seq ?_
      refine AW.rg ?_
      refine AL.v good (d := 13) (v := .ptr 0 6) rfl rfl rfl rfl ?_
      refine AL.v good (d := 14) (v := .int .i64 a0.f2) rfl rfl rfl rfl ?_
      refine AL.v good (d := 2) (v := .int .i64 a0.f2) rfl rfl rfl rfl ?_
      refine AW.ret ?_
      obtain rfl := Option.some.inj hr
      exact RetQ.w good (.inr rfl) rfl rfl (Wv.refl _) (by simp [pureA, pureL, pureR, inA, inL, inR, inO, idsIn, encs_pure, valC_pure])
     ·replace hr := cnd_f h5 hr
      refine AW.rg ?_
      refine AL.sb good (d := 12) (b := (a0.f0.data.toList == [101, 109, 105, 116])) rfl rfl rfl rfl rfl rfl rfl ?_
      refine AL.v good (d := 10) (v := .bool (a0.f0.data.toList == [101, 109, 105, 116])) rfl rfl rfl rfl ?_
      refine AW.if rfl (fun h6 => ?_) (fun h6 => ?_)
      ·replace hr := cnd_t h6 hr
       refine AW.seq ?_
       refine AW.rg ?_
       refine AL.v good (d := 13) (v := .ptr 0 6) rfl rfl rfl rfl ?_
       refine AL.v good (d := 14) (v := .int .i64 a0.f2) rfl rfl rfl rfl ?_
       refine AL.v good (d := 2) (v := .int .i64 a0.f2) rfl rfl rfl rfl ?_
       refine AW.ret ?_
       obtain rfl := Option.some.inj hr
       exact RetQ.w good (.inr rfl) rfl rfl (Wv.refl _) (by simp [pureA, pureL, pureR, inA, inL, inR, inO, idsIn, encs_pure, valC_pure])
      ·replace hr := cnd_f h6 hr
       refine AW.seq ?_
       refine AW.seq ?_
       refine AW.rg ?_
       refine AL.sb good (d := 16) (b := (a0.f0.data.toList == [97, 116])) rfl rfl rfl rfl rfl rfl rfl ?_
       refine AL.v good (d := 15) (v := .bool (a0.f0.data.toList == [97, 116])) rfl rfl rfl rfl ?_
       refine AW.if rfl (fun h7 => ?_) (fun h7 => ?_)
       ·replace hr := cnd_t h7 hr
        refine AW.skip ?_
        refine AW.if rfl (fun h => ?_) (fun h => by cases h7.symm.trans h)
        refine AW.seq ?_
        refine AW.rg ?_
        refine AL.v good (d := 2) (v := .int .i64 1) rfl rfl rfl rfl ?_
        refine AW.ret ?_
        obtain rfl := Option.some.inj hr
        exact RetQ.w good (.inr rfl) rfl rfl (Wv.refl _) (by simp [pureA, pureL, pureR, inA, inL, inR, inO, idsIn, encs_pure, valC_pure])
       ·replace hr := cnd_f h7 hr
        refine AW.seq ?_
        refine AW.rg ?_
        refine AL.sb good (d := 17) (b := (a0.f0.data.toList == [110, 101, 103])) rfl rfl rfl rfl rfl rfl rfl ?_
        refine AL.v good (d := 15) (v := .bool (a0.f0.data.toList == [110, 101, 103])) rfl rfl rfl rfl ?_
        refine AW.if rfl (fun h8 => ?_) (fun h8 => ?_)
        ·replace hr := cnd_t h8 hr
         refine AW.skip ?_
         refine AW.if rfl (fun h => ?_) (fun h => by cases h8.symm.trans h)
         refine AW.seq ?_
         refine AW.rg ?_
         refine AL.v good (d := 2) (v := .int .i64 1) rfl rfl rfl rfl ?_
         refine AW.ret ?_
         obtain rfl := Option.some.inj hr
         exact RetQ.w good (.inr rfl) rfl rfl (Wv.refl _) (by simp [pureA, pureL, pureR, inA, inL, inR, inO, idsIn, encs_pure, valC_pure])
        ·replace hr := cnd_f h8 hr
         refine AW.seq ?_
         refine AW.rg ?_
         refine AL.sb good (d := 18) (b := (a0.f0.data.toList == [110, 111, 116])) rfl rfl rfl rfl rfl rfl rfl ?_
         refine AL.v good (d := 15) (v := .bool (a0.f0.data.toList == [110, 111, 116])) rfl rfl rfl rfl ?_
         refine AW.if rfl (fun h9 => ?_) (fun h9 => ?_)
         ·replace hr := cnd_t h9 hr
          refine AW.skip ?_
          refine AW.if rfl (fun h => ?_) (fun h => by cases h9.symm.trans h)
          refine AW.seq ?_
          refine AW.rg ?_
          refine AL.v good (d := 2) (v := .int .i64 1) rfl rfl rfl rfl ?_
          refine AW.ret ?_
          obtain rfl := Option.some.inj hr
          exact RetQ.w good (.inr rfl) rfl rfl (Wv.refl _) (by simp [pureA, pureL, pureR, inA, inL, inR, inO, idsIn, encs_pure, valC_pure])
         ·replace hr := cnd_f h9 hr
          refine AW.seq ?_
          refine AW.rg ?_
          refine AL.sb good (d := 19) (b := (a0.f0.data.toList == [108, 101, 110])) rfl rfl rfl rfl rfl rfl rfl ?_
          refine AL.v good (d := 15) (v := .bool (a0.f0.data.toList == [108, 101, 110])) rfl rfl rfl rfl ?_
          refine AW.if rfl (fun h10 => ?_) (fun h10 => ?_)
          ·replace hr := cnd_t h10 hr
           refine AW.skip ?_
           refine AW.if rfl (fun h => ?_) (fun h => by cases h10.symm.trans h)
           refine AW.seq ?_
           refine AW.rg ?_
           refine AL.v good (d := 2) (v := .int .i64 1) rfl rfl rfl rfl ?_
           refine AW.ret ?_
           obtain rfl := Option.some.inj hr
           exact RetQ.w good (.inr rfl) rfl rfl (Wv.refl _) (by simp [pureA, pureL, pureR, inA, inL, inR, inO, idsIn, encs_pure, valC_pure])
          ·replace hr := cnd_f h10 hr
           refine AW.rg ?_
           refine AL.sb good (d := 20) (b := (a0.f0.data.toList == [106, 102])) rfl rfl rfl rfl rfl rfl rfl ?_
           refine AL.v good (d := 15) (v := .bool (a0.f0.data.toList == [106, 102])) rfl rfl rfl rfl ?_
           refine AW.if rfl (fun h11 => ?_) (fun h11 => ?_)
           ·replace hr := cnd_t h11 hr
            refine AW.seq ?_
            refine AW.rg ?_
            refine AL.v good (d := 2) (v := .int .i64 1) rfl rfl rfl rfl ?_
            refine AW.ret ?_
            obtain rfl := Option.some.inj hr
            exact RetQ.w good (.inr rfl) rfl rfl (Wv.refl _) (by simp [pureA, pureL, pureR, inA, inL, inR, inO, idsIn, encs_pure, valC_pure])
           ·replace hr := cnd_f h11 hr
            refine AW.skip ?_
            refine AW.seq ?_
            refine AW.rg ?_
            refine AL.v good (d := 2) (v := .int .i64 2) rfl rfl rfl rfl ?_
            refine AW.ret ?_
            obtain rfl := Option.some.inj hr
            exact RetQ.w good (.inr rfl) rfl rfl (Wv.refl _) (by simp [pureA, pureL, pureR, inA, inL, inR, inO, idsIn, encs_pure, valC_pure])

mutual
def s_f37_l1 : Nat → (List GInst) → Nat → Option Bool
  | 0, _, _ => none
  | n + 1, a0, v1_1 => (bif (decide ((v1_1 : Int) < (a0.length : Int))) then ((a0[v1_1]?).bind fun x15 => (bif (decide ((x15.f0.size : Int) > 20)) then some false else ((a0[v1_1]?).bind fun x18 => ((s_f55 n x18.f1).bind fun q20 => (bif (!q20) then some false else (s_f37_l1 n a0 (v1_1 + 1))))))) else some true)
end
def s_f37 (n : Nat) (a0 : List GInst) : Option Bool :=
  (bif (decide ((a0.length : Int) > 300)) then some false else (s_f37_l1 n a0 0))

theorem w_f37 (n : Nat) (a0 : List GInst) (r : Bool) (hr : s_f37 n a0 = some r) : ACall Try.prog 37 [.sl .ro 7 (r_st_GInst a0)] (.bool r) := by
 refine ACall.go [(0, .sl .ro 7 (r_st_GInst a0))] Try.func37 rfl Try.ntmps37 rfl rfl (by simp [pureA, pureL, pureR, inA, inL, inR, inO, idsIn, encs_pure, valC_pure, r_st_GInst_pure]) ?_
 rw [s_f37] at hr
 refine AW.seq ?_
 refine AW.rg ?_
 refine AL.v good (d := 2) (v := .bool false) rfl rfl rfl rfl ?_
 refine AW.seq ?_
 refine AW.seq ?_
 refine AW.rg ?_
 refine AL.v good (d := 4) (v := .sl .ro 7 (r_st_GInst a0)) rfl rfl rfl rfl ?_
 refine AL.ln good (d := 5) (m := a0.length) rfl rfl rfl rfl rfl rfl (r_st_GInst_length _) ?_
 refine AL.v good (d := 6) (v := .bool (decide ((a0.length : Int) > 300))) rfl rfl rfl rfl ?_
 refine AW.if rfl (fun h1 => ?_) (fun h1 => ?_)
 ·replace hr := cnd_t h1 hr
  refine AW.seq ?_
  refine AW.rg ?_
  refine AL.v good (d := 2) (v := .bool false) rfl rfl rfl rfl ?_
  refine AW.ret ?_
  obtain rfl := Option.some.inj hr
  exact RetQ.w good (.inr rfl) rfl rfl (Wv.refl _) (by simp [pureA, pureL, pureR, inA, inL, inR, inO, idsIn, encs_pure, valC_pure, r_st_GInst_pure])
 ·replace hr := cnd_f h1 hr
  refine AW.skip ?_
  refine AW.seq ?_
  refine AW.seq ?_
  refine AW.rg ?_
  refine AL.v good (d := 3) (v := .int .i64 0) rfl rfl rfl rfl ?_
  refine AW.block ?_
  refine AW.lens 0 rfl (fun hl13 => ?_)
  replace hl13 : a0.length ≤ 9223372036854775807 := by rw [← r_st_GInst_length a0]; exact hl13
  refine AW.lpw (fun x : Nat × Nat => [(0, .sl .ro 7 (r_st_GInst a0)), (3, .int .i64 (x.2 : Int))]) (fun x => []) (fun x => s_f37_l1 x.1 a0 x.2 = some r ∧ x.1 ≤ n) (fun x => x.1) (n, 0) ⟨(fun _ h => by cases h), fmc ⟨⟨⟨_, rfl, Wv.refl _⟩, (by simp [pureA, pureL, pureR, inA, inL, inR, inO, idsIn, encs_pure, valC_pure, r_st_GInst_pure])⟩, fmc ⟨⟨⟨_, rfl, Wv.refl _⟩, (by simp [pureA, pureL, pureR, inA, inL, inR, inO, idsIn, encs_pure, valC_pure, r_st_GInst_pure])⟩, (fun _ h => by cases h)⟩⟩, (fun _ h => by cases h)⟩ ⟨hr, Nat.le_refl _⟩ (fun ⟨m, v1_1⟩ hx => ?_)
  obtain ⟨hr, hm⟩ := hx
  try dsimp only at hr hm
  cases m with
  | zero => rw [s_f37_l1] at hr; cases hr
  | succ m =>
   rw [s_f37_l1] at hr
   show AW Try.prog _ _ _ (mkS 29 [(0, .sl .ro 7 (r_st_GInst a0)), (3, .int .i64 (v1_1 : Int))] [])
   refine AW.seq ?_
   refine AW.seq ?_
   refine AW.rg ?_
   refine AL.v good (d := 7) (v := .int .i64 (v1_1 : Int)) rfl rfl rfl rfl ?_
   refine AL.v good (d := 8) (v := .sl .ro 7 (r_st_GInst a0)) rfl rfl rfl rfl ?_
   refine AL.ln good (d := 9) (m := a0.length) rfl rfl rfl rfl rfl rfl (r_st_GInst_length _) ?_
   refine AL.v good (d := 10) (v := .bool (decide ((v1_1 : Int) < (a0.length : Int)))) rfl rfl rfl rfl ?_
   refine AW.if rfl (fun h14 => ?_) (fun h14 => ?_)
   ·replace hr := cnd_t h14 hr
    refine AW.skip ?_
    refine AW.seq ?_
    refine AW.block ?_
    refine AW.seq ?_
    refine AW.rg ?_
    refine AL.v good (d := 13) (v := .sl .ro 7 (r_st_GInst a0)) rfl rfl rfl rfl ?_
    refine AL.v good (d := 14) (v := .int .i64 (v1_1 : Int)) rfl rfl rfl rfl ?_
    obtain ⟨x15, h16, hr⟩ := bnd1 hr
    refine AL.ix good (d := 15) (r := [.str x15.f0, .int .i64 x15.f1.kind, .int .i64 x15.f1.i, .bool x15.f1.b, .str x15.f1.s, .sl .ro 5 (encs x15.f1.t), .int .i64 x15.f2]) rfl rfl rfl rfl rfl rfl rfl (Int.natCast_nonneg _) (r_st_GInst_get h16) ?_
    refine AL.v good (d := 16) (v := .ep [.str x15.f0, .int .i64 x15.f1.kind, .int .i64 x15.f1.i, .bool x15.f1.b, .str x15.f1.s, .sl .ro 5 (encs x15.f1.t), .int .i64 x15.f2]) rfl rfl rfl rfl ?_
    refine AL.v good (d := 17) (v := .str x15.f0) rfl rfl rfl rfl ?_
    refine AL.v good (d := 18) (v := .int .i64 (x15.f0.size : Int)) rfl rfl rfl rfl ?_
    refine AL.v good (d := 19) (v := .bool (decide ((x15.f0.size : Int) > 20))) rfl rfl rfl rfl ?_
    refine AL.v good (d := 20) (v := .bool (decide ((x15.f0.size : Int) > 20))) rfl rfl rfl rfl ?_
    refine AL.cs 20 rfl (fun h17 => ?_) (fun h17 => ?_)
    ·replace hr := cnd_t h17 hr
     refine AL.sk good (d := 21) rfl rfl rfl ?_
     refine AL.sk good (d := 22) rfl rfl rfl ?_
     refine AL.sk good (d := 23) rfl rfl rfl ?_
     refine AL.sk good (d := 24) rfl rfl rfl ?_
     refine AL.sk good (d := 25) rfl rfl rfl ?_
     refine AL.sk good (d := 26) rfl rfl rfl ?_
     refine AL.sk good (d := 27) rfl rfl rfl ?_
     refine AL.v good (d := 28) (v := .bool true) rfl rfl rfl rfl ?_
     refine AW.if rfl (fun h => ?_) (fun h => by cases h)
     refine AW.seq ?_
     refine AW.rg ?_
     refine AL.v good (d := 2) (v := .bool false) rfl rfl rfl rfl ?_
     refine AW.ret ?_
     obtain rfl := Option.some.inj hr
     exact RetQ.w good (.inr rfl) rfl rfl (Wv.refl _) (by simp [pureA, pureL, pureR, inA, inL, inR, inO, idsIn, encs_pure, valC_pure, r_st_GInst_pure])
    ·replace hr := cnd_f h17 hr
     refine AL.v good (d := 21) (v := .sl .ro 7 (r_st_GInst a0)) rfl rfl rfl rfl ?_
     refine AL.v good (d := 22) (v := .int .i64 (v1_1 : Int)) rfl rfl rfl rfl ?_
     obtain ⟨x18, h19, hr⟩ := bnd1 hr
     refine AL.ix good (d := 23) (r := [.str x18.f0, .int .i64 x18.f1.kind, .int .i64 x18.f1.i, .bool x18.f1.b, .str x18.f1.s, .sl .ro 5 (encs x18.f1.t), .int .i64 x18.f2]) rfl rfl rfl rfl rfl rfl rfl (Int.natCast_nonneg _) (r_st_GInst_get h19) ?_
     refine AL.v good (d := 24) (v := .ep [.int .i64 x18.f1.kind, .int .i64 x18.f1.i, .bool x18.f1.b, .str x18.f1.s, .sl .ro 5 (encs x18.f1.t), .int .i64 x18.f2]) rfl rfl rfl rfl ?_
     refine AL.v good (d := 25) (v := .agg [.int .i64 x18.f1.kind, .int .i64 x18.f1.i, .bool x18.f1.b, .str x18.f1.s, .sl .ro 5 (encs x18.f1.t)]) rfl rfl rfl rfl ?_
     obtain ⟨q20, h21, hr⟩ := bnd1 hr
     refine AL.cw good (d := 26) (xs := [.agg (valC x18.f1)]) (res := .bool q20) rfl rfl rfl rfl rfl rfl rfl (w_f55 _ _ _ h21) ⟨(Wv.refl _), trivial⟩ (by simp [pureA, pureL, pureR, inA, inL, inR, inO, idsIn, encs_pure, valC_pure, r_st_GInst_pure]) ?_
     refine AL.v good (d := 27) (v := .bool (!q20)) rfl rfl rfl rfl ?_
     refine AL.v good (d := 28) (v := .bool (!q20)) rfl rfl rfl rfl ?_
     refine AW.if rfl (fun h22 => ?_) (fun h22 => ?_)
     ·replace hr := cnd_t h22 hr
      refine AW.seq ?_
      refine AW.rg ?_
      refine AL.v good (d := 2) (v := .bool false) rfl rfl rfl rfl ?_
      refine AW.ret ?_
      obtain rfl := Option.some.inj hr
      exact RetQ.w good (.inr rfl) rfl rfl (Wv.refl _) (by simp [pureA, pureL, pureR, inA, inL, inR, inO, idsIn, encs_pure, valC_pure, r_st_GInst_pure])
     ·replace hr := cnd_f h22 hr
      refine AW.skip ?_
      refine AW.rg ?_
      refine AL.v good (d := 11) (v := .int .i64 (v1_1 : Int)) rfl rfl rfl rfl ?_
      refine AL.v good (d := 12) (v := .int .i64 (IntKind.i64.wrap ((v1_1 : Int) + 1))) rfl rfl rfl rfl ?_
      refine AL.v good (d := 3) (v := .int .i64 (IntKind.i64.wrap ((v1_1 : Int) + 1))) rfl rfl rfl rfl ?_
      exact ⟨(m, (v1_1 + 1)), _, _, rfl, ⟨(fun _ h => by cases h), fmc ⟨⟨⟨_, rfl, Wv.refl _⟩, (by simp [pureA, pureL, pureR, inA, inL, inR, inO, idsIn, encs_pure, valC_pure, r_st_GInst_pure])⟩, fmc ⟨⟨⟨_, rfl, (wnx h14 hl13)⟩, (by simp [pureA, pureL, pureR, inA, inL, inR, inO, idsIn, encs_pure, valC_pure, r_st_GInst_pure])⟩, (fun _ h => by cases h)⟩⟩, (fun _ h => by cases h)⟩, ⟨hr, Nat.le_of_succ_le hm⟩, Nat.lt_succ_self _⟩
   ·replace hr := cnd_f h14 hr
    refine AW.exit ?_
    refine AW.seq ?_
    refine AW.rg ?_
    refine AL.v good (d := 2) (v := .bool true) rfl rfl rfl rfl ?_
    refine AW.ret ?_
    obtain rfl := Option.some.inj hr
    exact RetQ.w good (.inr rfl) rfl rfl (Wv.refl _) (by simp [pureA, pureL, pureR, inA, inL, inR, inO, idsIn, encs_pure, valC_pure, r_st_GInst_pure])

mutual
def s_f38_l1 : Nat → (List GInst) → (List GInst) → Nat → Option (List GInst)
  | 0, _, _, _ => none
  | n + 1, a0, v1_1, v1_2 => (bif (decide ((v1_2 : Int) < (a0.length : Int))) then ((a0[v1_2]?).bind fun x16 => ((a0[v1_2]?).bind fun x18 => ((s_f22 n x18.f1).bind fun q20 => ((a0[v1_2]?).bind fun x22 => (if v1_1.length + 1 ≤ 1000000 then (s_f38_l1 n a0 (v1_1 ++ [(GInst.mk x16.f0 q20 x22.f2)]) (v1_2 + 1)) else none))))) else some v1_1)
end
def s_f38 (n : Nat) (a0 : List GInst) : Option (List GInst) :=
  (s_f38_l1 n a0 [] 0)

theorem w_f38 (n : Nat) (a0 : List GInst) (r : List GInst) (hr : s_f38 n a0 = some r) : ACall Try.prog 38 [.sl .ro 7 (r_st_GInst a0)] (.sl .ro 7 (r_st_GInst r)) := by
 refine ACall.go [(0, .sl .ro 7 (r_st_GInst a0))] Try.func38 rfl Try.ntmps38 rfl rfl (by simp [pureA, pureL, pureR, inA, inL, inR, inO, idsIn, encs_pure, valC_pure, r_st_GInst_pure]) ?_
 rw [s_f38] at hr
 refine AW.seq ?_
 refine AW.rg ?_
 refine AL.v good (d := 2) (v := .sl .nil 0 []) rfl rfl rfl rfl ?_
 refine AW.seq ?_
 refine AW.rg ?_
 refine AL.v good (d := 3) (v := .sl .nil 0 []) rfl rfl rfl rfl ?_
 refine AW.seq ?_
 refine AW.seq ?_
 refine AW.rg ?_
 refine AL.v good (d := 4) (v := .int .i64 0) rfl rfl rfl rfl ?_
 refine AW.block ?_
 refine AW.adopt 3 rfl 0 7 132 rfl rfl ?_
 refine AW.lens 0 rfl (fun hl14 => ?_)
 replace hl14 : a0.length ≤ 9223372036854775807 := by rw [← r_st_GInst_length a0]; exact hl14
 refine AW.lpw (fun x : Nat × (List GInst) × Nat => [(0, .sl .ro 7 (r_st_GInst a0)), (3, .sl (.own 0) 7 (r_st_GInst x.2.1)), (4, .int .i64 (x.2.2 : Int))]) (fun x => [(0, .row 132 7 (r_st_GInst x.2.1).length)]) (fun x => s_f38_l1 x.1 a0 x.2.1 x.2.2 = some r ∧ x.1 ≤ n) (fun x => x.1) (n, [], 0) ⟨(fun _ h => by cases h), fmc ⟨⟨⟨_, rfl, Wv.refl _⟩, (by simp [pureA, pureL, pureR, inA, inL, inR, inO, idsIn, encs_pure, valC_pure, r_st_GInst_pure])⟩, fmc ⟨⟨⟨_, rfl, Wv.refl _⟩, (by simp [pureA, pureL, pureR, inA, inL, inR, inO, idsIn, encs_pure, valC_pure, r_st_GInst_pure])⟩, fmc ⟨⟨⟨_, rfl, Wv.refl _⟩, (by simp [pureA, pureL, pureR, inA, inL, inR, inO, idsIn, encs_pure, valC_pure, r_st_GInst_pure])⟩, (fun _ h => by cases h)⟩⟩⟩, fmc ⟨⟨⟨_, rfl, ⟨rfl, rfl, rfl⟩⟩, (by simp [pureA, pureL, pureR, inA, inL, inR, inO, idsIn, encs_pure, valC_pure, r_st_GInst_pure])⟩, (fun _ h => by cases h)⟩⟩ ⟨hr, Nat.le_refl _⟩ (fun ⟨m, v1_1, v1_2⟩ hx => ?_)
 obtain ⟨hr, hm⟩ := hx
 try dsimp only at hr hm
 cases m with
 | zero => rw [s_f38_l1] at hr; cases hr
 | succ m =>
  rw [s_f38_l1] at hr
  show AW Try.prog _ _ _ (mkS 32 [(0, .sl .ro 7 (r_st_GInst a0)), (3, .sl (.own 0) 7 (r_st_GInst v1_1)), (4, .int .i64 (v1_2 : Int))] [(0, .row 132 7 (r_st_GInst v1_1).length)])
  refine AW.seq ?_
  refine AW.seq ?_
  refine AW.rg ?_
  refine AL.v good (d := 5) (v := .int .i64 (v1_2 : Int)) rfl rfl rfl rfl ?_
  refine AL.v good (d := 6) (v := .sl .ro 7 (r_st_GInst a0)) rfl rfl rfl rfl ?_
  refine AL.ln good (d := 7) (m := a0.length) rfl rfl rfl rfl rfl rfl (r_st_GInst_length _) ?_
  refine AL.v good (d := 8) (v := .bool (decide ((v1_2 : Int) < (a0.length : Int)))) rfl rfl rfl rfl ?_
  refine AW.if rfl (fun h15 => ?_) (fun h15 => ?_)
  ·replace hr := cnd_t h15 hr
   refine AW.skip ?_
   refine AW.seq ?_
   refine AW.block ?_
   refine AW.drawc (M := fun i => ⟨Nat.beq i 19, bif Nat.beq i 5 then some { ids := [] } else bif Nat.beq i 10 then some { ids := [] } else bif Nat.beq i 16 then some { ids := [] } else bif Nat.beq i 18 then some { ids := [1] } else bif Nat.beq i 19 then some { ids := [0] } else none⟩) good.wide (by kernel_rfl) ?_
   refine AL.v (nc := ⟨rfl⟩) good (d := 11) (v := .sl (.own 0) 7 (r_st_GInst v1_1)) rfl rfl rfl rfl ?_
   refine AL.v (nc := ⟨rfl⟩) good (d := 12) (v := .sl .ro 7 (r_st_GInst a0)) rfl rfl rfl rfl ?_
   refine AL.v (nc := ⟨rfl⟩) good (d := 13) (v := .int .i64 (v1_2 : Int)) rfl rfl rfl rfl ?_
   obtain ⟨x16, h17, hr⟩ := bnd1 hr
   refine AL.ix (nc := ⟨rfl⟩) good (d := 14) (r := [.str x16.f0, .int .i64 x16.f1.kind, .int .i64 x16.f1.i, .bool x16.f1.b, .str x16.f1.s, .sl .ro 5 (encs x16.f1.t), .int .i64 x16.f2]) rfl rfl rfl rfl rfl rfl rfl (Int.natCast_nonneg _) (r_st_GInst_get h17) ?_
   refine AL.v (nc := ⟨rfl⟩) good (d := 15) (v := .ep [.str x16.f0, .int .i64 x16.f1.kind, .int .i64 x16.f1.i, .bool x16.f1.b, .str x16.f1.s, .sl .ro 5 (encs x16.f1.t), .int .i64 x16.f2]) rfl rfl rfl rfl ?_
   refine AL.vc good (d := 16) (v := .str x16.f0) rfl rfl rfl rfl rfl rfl (fun _ h => by cases h) ?_
   refine AL.v (nc := ⟨rfl⟩) good (d := 17) (v := .sl .ro 7 (r_st_GInst a0)) rfl rfl rfl rfl ?_
   refine AL.v (nc := ⟨rfl⟩) good (d := 18) (v := .int .i64 (v1_2 : Int)) rfl rfl rfl rfl ?_
   obtain ⟨x18, h19, hr⟩ := bnd1 hr
   refine AL.ix (nc := ⟨rfl⟩) good (d := 19) (r := [.str x18.f0, .int .i64 x18.f1.kind, .int .i64 x18.f1.i, .bool x18.f1.b, .str x18.f1.s, .sl .ro 5 (encs x18.f1.t), .int .i64 x18.f2]) rfl rfl rfl rfl rfl rfl rfl (Int.natCast_nonneg _) (r_st_GInst_get h19) ?_
   refine AL.v (nc := ⟨rfl⟩) good (d := 20) (v := .ep [.int .i64 x18.f1.kind, .int .i64 x18.f1.i, .bool x18.f1.b, .str x18.f1.s, .sl .ro 5 (encs x18.f1.t), .int .i64 x18.f2]) rfl rfl rfl rfl ?_
   refine AL.vc good (d := 21) (v := .agg [.int .i64 x18.f1.kind, .int .i64 x18.f1.i, .bool x18.f1.b, .str x18.f1.s, .sl .ro 5 (encs x18.f1.t)]) rfl rfl rfl rfl rfl rfl (fun _ h => by cases h) ?_
   obtain ⟨q20, h21, hr⟩ := bnd1 hr
   refine AL.cw (nc := ⟨rfl⟩) good (d := 22) (xs := [.agg (valC x18.f1)]) (res := .agg [.int .i64 q20.kind, .int .i64 q20.i, .bool q20.b, .str q20.s, .sl .ro 5 (encs q20.t)]) rfl rfl rfl rfl rfl rfl rfl (w_f22 _ _ _ h21) ⟨(Wv.refl _), trivial⟩ (by simp [pureA, pureL, pureR, inA, inL, inR, inO, idsIn, encs_pure, valC_pure, r_st_GInst_pure]) ?_
   refine AL.v (nc := ⟨rfl⟩) good (d := 23) (v := .sl .ro 7 (r_st_GInst a0)) rfl rfl rfl rfl ?_
   refine AL.v (nc := ⟨rfl⟩) good (d := 24) (v := .int .i64 (v1_2 : Int)) rfl rfl rfl rfl ?_
   obtain ⟨x22, h23, hr⟩ := bnd1 hr
   refine AL.ix (nc := ⟨rfl⟩) good (d := 25) (r := [.str x22.f0, .int .i64 x22.f1.kind, .int .i64 x22.f1.i, .bool x22.f1.b, .str x22.f1.s, .sl .ro 5 (encs x22.f1.t), .int .i64 x22.f2]) rfl rfl rfl rfl rfl rfl rfl (Int.natCast_nonneg _) (r_st_GInst_get h23) ?_
   refine AL.v (nc := ⟨rfl⟩) good (d := 26) (v := .ep [.int .i64 x22.f2]) rfl rfl rfl rfl ?_
   refine AL.vc good (d := 27) (v := .int .i64 x22.f2) rfl rfl rfl rfl rfl rfl (fun _ h => by cases h) ?_
   refine AL.bld (nc := ⟨rfl⟩) good (d := 28) (l := [.str x16.f0, .int .i64 q20.kind, .int .i64 q20.i, .bool q20.b, .str q20.s, .sl .ro 5 (encs q20.t), .int .i64 x22.f2]) rfl rfl rfl rfl rfl rfl rfl ?_
   refine AL.litC good (d := 29) (rows := [[.str x16.f0, .int .i64 q20.kind, .int .i64 q20.i, .bool q20.b, .str q20.s, .sl .ro 5 (encs q20.t), .int .i64 x22.f2]]) rfl rfl rfl rfl rfl rfl rfl rfl rfl 1 rfl (ColN.mk rfl rfl (fun _ h => by cases h) (fmc ⟨.head _, (fun _ h => by cases h)⟩) (fun _ h => by cases h)) ?_
   obtain ⟨h24, hr⟩ := grd hr
   refine AL.aw2c good (d := 30) (rows := r_st_GInst v1_1) (news := [[.str (((GInst.mk x16.f0 q20 x22.f2)).f0), .int .i64 ((((GInst.mk x16.f0 q20 x22.f2)).f1).kind), .int .i64 ((((GInst.mk x16.f0 q20 x22.f2)).f1).i), .bool ((((GInst.mk x16.f0 q20 x22.f2)).f1).b), .str ((((GInst.mk x16.f0 q20 x22.f2)).f1).s), .sl .ro 5 (encs ((((GInst.mk x16.f0 q20 x22.f2)).f1).t)), .int .i64 (((GInst.mk x16.f0 q20 x22.f2)).f2)]]) (rows2 := r_st_GInst (v1_1 ++ [(GInst.mk x16.f0 q20 x22.f2)])) rfl rfl rfl rfl rfl rfl rfl rfl rfl (by simp) rfl rfl rfl rfl ⟨⟨Wv.refl _, Wv.refl _, Wv.refl _, Wv.refl _, Wv.refl _, Wv.refl _, Wv.refl _, trivial⟩, trivial⟩ (by simp [r_st_GInst, rowF]) (by rw [r_st_GInst_length, List.length_append]; exact h24) rfl ?_
   refine AL.v (nc := ⟨rfl⟩) good (d := 3) (v := .sl (.own 0) 7 (r_st_GInst (v1_1 ++ [(GInst.mk x16.f0 q20 x22.f2)]))) rfl rfl rfl rfl ?_
   refine AW.rg ?_
   refine AL.v good (d := 9) (v := .int .i64 (v1_2 : Int)) rfl rfl rfl rfl ?_
   refine AL.v good (d := 10) (v := .int .i64 (IntKind.i64.wrap ((v1_2 : Int) + 1))) rfl rfl rfl rfl ?_
   refine AL.v good (d := 4) (v := .int .i64 (IntKind.i64.wrap ((v1_2 : Int) + 1))) rfl rfl rfl rfl ?_
   exact ⟨(m, (v1_1 ++ [(GInst.mk x16.f0 q20 x22.f2)]), (v1_2 + 1)), _, _, rfl, ⟨(fun _ h => by cases h), fmc ⟨⟨⟨_, rfl, Wv.refl _⟩, (by simp [pureA, pureL, pureR, inA, inL, inR, inO, idsIn, encs_pure, valC_pure, r_st_GInst_pure])⟩, fmc ⟨⟨⟨_, rfl, Wv.refl _⟩, (by simp [pureA, pureL, pureR, inA, inL, inR, inO, idsIn, encs_pure, valC_pure, r_st_GInst_pure])⟩, fmc ⟨⟨⟨_, rfl, (wnx h15 hl14)⟩, (by simp [pureA, pureL, pureR, inA, inL, inR, inO, idsIn, encs_pure, valC_pure, r_st_GInst_pure])⟩, (fun _ h => by cases h)⟩⟩⟩, fmc ⟨⟨⟨_, rfl, ⟨rfl, rfl, rfl⟩⟩, (by simp [pureA, pureL, pureR, inA, inL, inR, inO, idsIn, encs_pure, valC_pure, r_st_GInst_pure])⟩, (fun _ h => by cases h)⟩⟩, ⟨hr, Nat.le_of_succ_le hm⟩, Nat.lt_succ_self _⟩
  ·replace hr := cnd_f h15 hr
   refine AW.exit ?_
   refine AW.seq ?_
   refine AW.rg ?_
   refine AL.v good (d := 31) (v := .sl (.own 0) 7 (r_st_GInst v1_1)) rfl rfl rfl rfl ?_
   refine AL.v good (d := 2) (v := .sl (.own 0) 7 (r_st_GInst v1_1)) rfl rfl rfl rfl ?_
   refine AW.ret ?_
   obtain rfl := Option.some.inj hr
   exact RetQ.w good (.inr rfl) rfl rfl ⟨.inr rfl, WvR.refl _, .inl rfl⟩ (by simp [pureA, pureL, pureR, inA, inL, inR, inO, idsIn, encs_pure, valC_pure, r_st_GInst_pure])

mutual
def s_f42_l1 : Nat → (List Val) → (List Val) → Nat → Option Bool
  | 0, _, _, _ => none
  | n + 1, a0, a1, v1_1 => (bif (decide ((v1_1 : Int) < (a0.length : Int))) then ((a0[v1_1]?).bind fun x16 => ((s_f22 n x16).bind fun q18 => ((a1[v1_1]?).bind fun x20 => ((s_f25 n q18 x20).bind fun q22 => (bif (!q22) then some false else (s_f42_l1 n a0 a1 (v1_1 + 1))))))) else some true)
end
def s_f42 (n : Nat) (a0 : List Val) (a1 : List Val) : Option Bool :=
  (bif ((a0.length : Int) != (a1.length : Int)) then some false else (s_f42_l1 n a0 a1 0))

theorem w_f42 (n : Nat) (a0 : List Val) (a1 : List Val) (r : Bool) (hr : s_f42 n a0 a1 = some r) : ACall Try.prog 42 [.sl .ro 5 (encs a0), .sl .ro 5 (encs a1)] (.bool r) := by
 refine ACall.go [(0, .sl .ro 5 (encs a0)), (1, .sl .ro 5 (encs a1))] Try.func42 rfl Try.ntmps42 rfl rfl (by simp [pureA, pureL, pureR, inA, inL, inR, inO, idsIn, encs_pure, valC_pure]) ?_
 rw [s_f42] at hr
 refine AW.seq ?_
 refine AW.rg ?_
 refine AL.v good (d := 4) (v := .bool false) rfl rfl rfl rfl ?_
 refine AW.seq ?_
 refine AW.seq ?_
 refine AW.rg ?_
 refine AL.v good (d := 6) (v := .sl .ro 5 (encs a0)) rfl rfl rfl rfl ?_
 refine AL.ln good (d := 7) (m := a0.length) rfl rfl rfl rfl rfl rfl (encs_length _) ?_
 refine AL.v good (d := 8) (v := .sl .ro 5 (encs a1)) rfl rfl rfl rfl ?_
 refine AL.ln good (d := 9) (m := a1.length) rfl rfl rfl rfl rfl rfl (encs_length _) ?_
 refine AL.v good (d := 10) (v := .bool ((a0.length : Int) != (a1.length : Int))) rfl rfl rfl rfl ?_
 refine AW.if rfl (fun h1 => ?_) (fun h1 => ?_)
 ·replace hr := cnd_t h1 hr
  refine AW.seq ?_
  refine AW.rg ?_
  refine AL.v good (d := 4) (v := .bool false) rfl rfl rfl rfl ?_
  refine AW.ret ?_
  obtain rfl := Option.some.inj hr
  exact RetQ.w good (.inr rfl) rfl rfl (Wv.refl _) (by simp [pureA, pureL, pureR, inA, inL, inR, inO, idsIn, encs_pure, valC_pure])
 ·replace hr := cnd_f h1 hr
  refine AW.skip ?_
  refine AW.seq ?_
  refine AW.seq ?_
  refine AW.rg ?_
  refine AL.v good (d := 5) (v := .int .i64 0) rfl rfl rfl rfl ?_
  refine AW.block ?_
  refine AW.lens 0 rfl (fun hl14 => ?_)
  replace hl14 : a0.length ≤ 9223372036854775807 := by rw [← encs_length a0]; exact hl14
  refine AW.lpw (fun x : Nat × Nat => [(0, .sl .ro 5 (encs a0)), (1, .sl .ro 5 (encs a1)), (5, .int .i64 (x.2 : Int))]) (fun x => []) (fun x => s_f42_l1 x.1 a0 a1 x.2 = some r ∧ x.1 ≤ n) (fun x => x.1) (n, 0) ⟨(fun _ h => by cases h), fmc ⟨⟨⟨_, rfl, Wv.refl _⟩, (by simp [pureA, pureL, pureR, inA, inL, inR, inO, idsIn, encs_pure, valC_pure])⟩, fmc ⟨⟨⟨_, rfl, Wv.refl _⟩, (by simp [pureA, pureL, pureR, inA, inL, inR, inO, idsIn, encs_pure, valC_pure])⟩, fmc ⟨⟨⟨_, rfl, Wv.refl _⟩, (by simp [pureA, pureL, pureR, inA, inL, inR, inO, idsIn, encs_pure, valC_pure])⟩, (fun _ h => by cases h)⟩⟩⟩, (fun _ h => by cases h)⟩ ⟨hr, Nat.le_refl _⟩ (fun ⟨m, v1_1⟩ hx => ?_)
  obtain ⟨hr, hm⟩ := hx
  try dsimp only at hr hm
  cases m with
  | zero => rw [s_f42_l1] at hr; cases hr
  | succ m =>
   rw [s_f42_l1] at hr
   show AW Try.prog _ _ _ (mkS 28 [(0, .sl .ro 5 (encs a0)), (1, .sl .ro 5 (encs a1)), (5, .int .i64 (v1_1 : Int))] [])
   refine AW.seq ?_
   refine AW.seq ?_
   refine AW.rg ?_
   refine AL.v good (d := 11) (v := .int .i64 (v1_1 : Int)) rfl rfl rfl rfl ?_
   refine AL.v good (d := 12) (v := .sl .ro 5 (encs a0)) rfl rfl rfl rfl ?_
   refine AL.ln good (d := 13) (m := a0.length) rfl rfl rfl rfl rfl rfl (encs_length _) ?_
   refine AL.v good (d := 14) (v := .bool (decide ((v1_1 : Int) < (a0.length : Int)))) rfl rfl rfl rfl ?_
   refine AW.if rfl (fun h15 => ?_) (fun h15 => ?_)
   ·replace hr := cnd_t h15 hr
    refine AW.skip ?_
    refine AW.seq ?_
    refine AW.block ?_
    refine AW.seq ?_
    refine AW.draw (M := fun i => false) good.wide (by kernel_rfl) ?_
    refine AL.v good (d := 17) (v := .sl .ro 5 (encs a0)) rfl rfl rfl rfl ?_
    refine AL.v good (d := 18) (v := .int .i64 (v1_1 : Int)) rfl rfl rfl rfl ?_
    obtain ⟨x16, h17, hr⟩ := bnd1 hr
    refine AL.ix good (d := 19) (r := [.int .i64 x16.kind, .int .i64 x16.i, .bool x16.b, .str x16.s, .sl .ro 5 (encs x16.t)]) rfl rfl rfl rfl rfl rfl rfl (Int.natCast_nonneg _) (encs_get h17) ?_
    refine AL.v good (d := 20) (v := .agg [.int .i64 x16.kind, .int .i64 x16.i, .bool x16.b, .str x16.s, .sl .ro 5 (encs x16.t)]) rfl rfl rfl rfl ?_
    obtain ⟨q18, h19, hr⟩ := bnd1 hr
    refine AL.cw good (d := 21) (xs := [.agg (valC x16)]) (res := .agg [.int .i64 q18.kind, .int .i64 q18.i, .bool q18.b, .str q18.s, .sl .ro 5 (encs q18.t)]) rfl rfl rfl rfl rfl rfl rfl (w_f22 _ _ _ h19) ⟨(Wv.refl _), trivial⟩ (by simp [pureA, pureL, pureR, inA, inL, inR, inO, idsIn, encs_pure, valC_pure]) ?_
    refine AL.v good (d := 22) (v := .sl .ro 5 (encs a1)) rfl rfl rfl rfl ?_
    refine AL.v good (d := 23) (v := .int .i64 (v1_1 : Int)) rfl rfl rfl rfl ?_
    obtain ⟨x20, h21, hr⟩ := bnd1 hr
    refine AL.ix good (d := 24) (r := [.int .i64 x20.kind, .int .i64 x20.i, .bool x20.b, .str x20.s, .sl .ro 5 (encs x20.t)]) rfl rfl rfl rfl rfl rfl rfl (Int.natCast_nonneg _) (encs_get h21) ?_
    refine AL.v good (d := 25) (v := .agg [.int .i64 x20.kind, .int .i64 x20.i, .bool x20.b, .str x20.s, .sl .ro 5 (encs x20.t)]) rfl rfl rfl rfl ?_
    obtain ⟨q22, h23, hr⟩ := bnd1 hr
    refine AL.cw good (d := 26) (xs := [.agg (valC q18), .agg (valC x20)]) (res := .bool q22) rfl rfl rfl rfl rfl rfl rfl (w_f25 _ _ _ _ h23) ⟨(Wv.refl _), (Wv.refl _), trivial⟩ (by simp [pureA, pureL, pureR, inA, inL, inR, inO, idsIn, encs_pure, valC_pure]) ?_
    refine AL.v good (d := 27) (v := .bool (!q22)) rfl rfl rfl rfl ?_
    refine AW.if rfl (fun h24 => ?_) (fun h24 => ?_)
    ·replace hr := cnd_t h24 hr
     refine AW.seq ?_
     refine AW.rg ?_
     refine AL.v good (d := 4) (v := .bool false) rfl rfl rfl rfl ?_
     refine AW.ret ?_
     obtain rfl := Option.some.inj hr
     exact RetQ.w good (.inr rfl) rfl rfl (Wv.refl _) (by simp [pureA, pureL, pureR, inA, inL, inR, inO, idsIn, encs_pure, valC_pure])
    ·replace hr := cnd_f h24 hr
     refine AW.skip ?_
     refine AW.rg ?_
     refine AL.v good (d := 15) (v := .int .i64 (v1_1 : Int)) rfl rfl rfl rfl ?_
     refine AL.v good (d := 16) (v := .int .i64 (IntKind.i64.wrap ((v1_1 : Int) + 1))) rfl rfl rfl rfl ?_
     refine AL.v good (d := 5) (v := .int .i64 (IntKind.i64.wrap ((v1_1 : Int) + 1))) rfl rfl rfl rfl ?_
     exact ⟨(m, (v1_1 + 1)), _, _, rfl, ⟨(fun _ h => by cases h), fmc ⟨⟨⟨_, rfl, Wv.refl _⟩, (by simp [pureA, pureL, pureR, inA, inL, inR, inO, idsIn, encs_pure, valC_pure])⟩, fmc ⟨⟨⟨_, rfl, Wv.refl _⟩, (by simp [pureA, pureL, pureR, inA, inL, inR, inO, idsIn, encs_pure, valC_pure])⟩, fmc ⟨⟨⟨_, rfl, (wnx h15 hl14)⟩, (by simp [pureA, pureL, pureR, inA, inL, inR, inO, idsIn, encs_pure, valC_pure])⟩, (fun _ h => by cases h)⟩⟩⟩, (fun _ h => by cases h)⟩, ⟨hr, Nat.le_of_succ_le hm⟩, Nat.lt_succ_self _⟩
   ·replace hr := cnd_f h15 hr
    refine AW.exit ?_
    refine AW.seq ?_
    refine AW.rg ?_
    refine AL.v good (d := 4) (v := .bool true) rfl rfl rfl rfl ?_
    refine AW.ret ?_
    obtain rfl := Option.some.inj hr
    exact RetQ.w good (.inr rfl) rfl rfl (Wv.refl _) (by simp [pureA, pureL, pureR, inA, inL, inR, inO, idsIn, encs_pure, valC_pure])

end Go.Proofs.Ytbcjcekoonebiaa.Tl

set_option linter.unusedVariables false
set_option linter.unusedSimpArgs false
namespace Go.Proofs.Ytbcjcekoonebiaa.Tl
open Go Go.RowKit
abbrev c_sl_st_Ty (x : (List Ty)) : List AV := [.sl .ro 2 (enys x)]
def r_sl_st_Ty (l : List (List Ty)) : List (List AV) := rowF c_sl_st_Ty l
theorem r_sl_st_Ty_get {l : List (List Ty)} {j : Nat} {x : (List Ty)} (h : l[j]? = some x) : (r_sl_st_Ty l)[j]? = some (c_sl_st_Ty x) := rowF_get h
theorem r_sl_st_Ty_pure (S : Nat → Bool) (l : List (List Ty)) : inR S (r_sl_st_Ty l) = true := rowF_pure S (fun x => by simp [pureA, pureL, pureR, inA, inL, inR, inO, idsIn, encs_pure, enxs_pure, enys_pure, valC_pure, exC_pure, tyC_pure, c_sl_st_Ty, r_int_u8_pure, r_st_GInst_pure, r_sl_st_GInst_pure, r_st_GMiss_pure, r_int_i8_pure, r_int_i64_pure, r_str_pure]) l
abbrev c_bool (x : Bool) : List AV := [.bool x]
def r_bool (l : List Bool) : List (List AV) := rowF c_bool l
theorem r_bool_get {l : List Bool} {j : Nat} {x : Bool} (h : l[j]? = some x) : (r_bool l)[j]? = some (c_bool x) := rowF_get h
theorem r_bool_pure (S : Nat → Bool) (l : List Bool) : inR S (r_bool l) = true := rowF_pure S (fun x => by simp [pureA, pureL, pureR, inA, inL, inR, inO, idsIn, encs_pure, enxs_pure, enys_pure, valC_pure, exC_pure, tyC_pure, c_bool, r_int_u8_pure, r_st_GInst_pure, r_sl_st_GInst_pure, r_st_GMiss_pure, r_int_i8_pure, r_int_i64_pure, r_str_pure, r_sl_st_Ty_pure]) l

def s_f109 (n : Nat) (a0 : Look) (a1 : Int) (a2 : List Ty) : Option (Look × Int) :=
  (if 0 ≤ a1 then ((a0.f1.l[a1.toNat]?).bind fun x1 => (bif (!x1) then (if 0 ≤ a1 then ((a0.f1.l[a1.toNat]?).bind fun x5 => (if a2.length ≤ 1000000 then (if 0 ≤ a1 then ((a0.f0.l[a1.toNat]?).bind fun x9 => some ((Look.mk (Ar.mk a0.f0.v (a0.f0.l.set a1.toNat a2)) (Ar.mk a0.f1.v (a0.f1.l.set a1.toNat true)) a0.f2), 0)) else none) else none)) else none) else (if 0 ≤ a1 then ((a0.f0.l[a1.toNat]?).bind fun x12 => ((s_f142 n x12 a2).bind fun q15 => (bif (!q15) then some (a0, 14) else some (a0, 0)))) else none))) else none)

mutual
def s_f108_l1 : Nat → Look → (List Ty) → Nat → Int → (List Ty) → Option (Look × Ty × Bool × Int)
  | 0, _, _, _, _, _ => none
  | n + 1, a0, a3, v1_1, v1_2, v1_3 => (bif (decide ((v1_1 : Int) < (a3.length : Int))) then (bif (v1_2 != 0) then ((a3[v1_1]?).bind fun x27 => ((s_f65 n (Ty.mk v1_2 v1_3) x27).bind fun q29 => (bif (!q29) then some ((Look.mk a0.f0 a0.f1 (Ty.mk v1_2 v1_3)), (Ty.mk 0 []), false, 5) else ((a3[v1_1]?).bind fun x32 => (s_f108_l1 n a0 a3 (v1_1 + 1) x32.kind x32.of))))) else ((a3[v1_1]?).bind fun x34 => (s_f108_l1 n a0 a3 (v1_1 + 1) x34.kind x34.of))) else some ((Look.mk a0.f0 a0.f1 (Ty.mk v1_2 v1_3)), (Ty.mk 0 []), false, 0))
end
def s_f108 (n : Nat) (a0 : Look) (a1 : GInst) (a2 : Ty) (a3 : List Ty) : Option (Look × Ty × Bool × Int) :=
  (bif (a1.f0.data.toList == [112, 117, 115, 104]) then ((s_f21 n a1.f1).bind fun q2 => some (a0, q2, true, 0)) else (bif (a1.f0.data.toList == [120]) then some (a0, a2, true, 0) else (bif (a1.f0.data.toList == [106, 102]) then ((a3[0]?).bind fun x6 => (bif (x6.kind != 2) then some (a0, (Ty.mk 0 []), false, 5) else some (a0, (Ty.mk 0 []), false, 0))) else (bif (a1.f0.data.toList == [101, 109, 105, 116]) then (s_f108_l1 n a0 a3 0 a0.f2.kind a0.f2.of) else (bif (a1.f0.data.toList == [106, 109, 112]) then some (a0, (Ty.mk 0 []), false, 0) else (bif (a1.f0.data.toList == [114, 101, 116]) then some (a0, (Ty.mk 0 []), false, 0) else ((s_f94 n a1.f0 a1.f2 a3).bind fun q38 => some (a0, q38.1, true, q38.2))))))))

def s_f71 (n : Nat) (a0 : Look) (a1 : List GInst) (a2 : Int) (a3 : Ty) : Option (Look × Int) :=
  (if 0 ≤ a2 then ((a1[a2.toNat]?).bind fun x1 => (if 0 ≤ a2 then ((a0.f0.l[a2.toNat]?).bind fun x4 => ((s_f74 n x1).bind fun q7 => (bif (decide ((x4.length : Int) < q7)) then some (a0, 12) else (if 0 ≤ (IntKind.i64.wrap ((x4.length : Int) - q7)) ∧ (IntKind.i64.wrap ((x4.length : Int) - q7)).toNat ≤ x4.length then (if (x4.drop ((IntKind.i64.wrap ((x4.length : Int) - q7)).toNat)).length ≤ 1000000 then (if 0 ≤ (IntKind.i64.wrap ((x4.length : Int) - q7)) ∧ (IntKind.i64.wrap ((x4.length : Int) - q7)).toNat ≤ x4.length then (if (x4.take ((IntKind.i64.wrap ((x4.length : Int) - q7)).toNat)).length ≤ 1000000 then ((s_f108 n a0 x1 a3 (x4.drop ((IntKind.i64.wrap ((x4.length : Int) - q7)).toNat))).bind fun q14 => (bif (q14.2.2.2 != 0) then some (q14.1, q14.2.2.2) else (bif q14.2.2.1 then (if (x4.take ((IntKind.i64.wrap ((x4.length : Int) - q7)).toNat)).length + 1 ≤ 1000000 then (bif ((decide ((((x4.take ((IntKind.i64.wrap ((x4.length : Int) - q7)).toNat)) ++ [q14.2.1]).length : Int) > 128)) || ((x1.f0.data.toList == [114, 101, 116]) && (decide ((((x4.take ((IntKind.i64.wrap ((x4.length : Int) - q7)).toNat)) ++ [q14.2.1]).length : Int) > 0)))) then some (q14.1, 12) else (bif (x1.f0.data.toList == [114, 101, 116]) then some (q14.1, 0) else (bif ((x1.f0.data.toList != [106, 109, 112]) && (a2 == (IntKind.i64.wrap ((a1.length : Int) - 1)))) then some (q14.1, 12) else (bif ((x1.f0.data.toList == [106, 109, 112]) || (x1.f0.data.toList == [106, 102])) then ((s_f109 n q14.1 x1.f2 ((x4.take ((IntKind.i64.wrap ((x4.length : Int) - q7)).toNat)) ++ [q14.2.1])).bind fun q31 => (bif (q31.2 != 0) then some (q31.1, q31.2) else (bif (x1.f0.data.toList != [106, 109, 112]) then ((s_f109 n q31.1 (IntKind.i64.wrap (a2 + 1)) ((x4.take ((IntKind.i64.wrap ((x4.length : Int) - q7)).toNat)) ++ [q14.2.1])).bind fun q35 => some (q35.1, q35.2)) else some (q31.1, 0)))) else (bif (x1.f0.data.toList != [106, 109, 112]) then ((s_f109 n q14.1 (IntKind.i64.wrap (a2 + 1)) ((x4.take ((IntKind.i64.wrap ((x4.length : Int) - q7)).toNat)) ++ [q14.2.1])).bind fun q38 => some (q38.1, q38.2)) else some (q14.1, 0)))))) else none) else (bif ((decide (((x4.take ((IntKind.i64.wrap ((x4.length : Int) - q7)).toNat)).length : Int) > 128)) || ((x1.f0.data.toList == [114, 101, 116]) && (decide (((x4.take ((IntKind.i64.wrap ((x4.length : Int) - q7)).toNat)).length : Int) > 0)))) then some (q14.1, 12) else (bif (x1.f0.data.toList == [114, 101, 116]) then some (q14.1, 0) else (bif ((x1.f0.data.toList != [106, 109, 112]) && (a2 == (IntKind.i64.wrap ((a1.length : Int) - 1)))) then some (q14.1, 12) else (bif ((x1.f0.data.toList == [106, 109, 112]) || (x1.f0.data.toList == [106, 102])) then ((s_f109 n q14.1 x1.f2 (x4.take ((IntKind.i64.wrap ((x4.length : Int) - q7)).toNat))).bind fun q52 => (bif (q52.2 != 0) then some (q52.1, q52.2) else (bif (x1.f0.data.toList != [106, 109, 112]) then ((s_f109 n q52.1 (IntKind.i64.wrap (a2 + 1)) (x4.take ((IntKind.i64.wrap ((x4.length : Int) - q7)).toNat))).bind fun q56 => some (q56.1, q56.2)) else some (q52.1, 0)))) else (bif (x1.f0.data.toList != [106, 109, 112]) then ((s_f109 n q14.1 (IntKind.i64.wrap (a2 + 1)) (x4.take ((IntKind.i64.wrap ((x4.length : Int) - q7)).toNat))).bind fun q59 => some (q59.1, q59.2)) else some (q14.1, 0))))))))) else none) else none) else none) else none)))) else none)) else none)

end Go.Proofs.Ytbcjcekoonebiaa.Tl

set_option linter.unusedVariables false
set_option linter.unusedSimpArgs false
namespace Go.Proofs.Ytbcjcekoonebiaa.Tl
open Go Go.RowKit
theorem w_f108_4_2_3 (n : Nat) (a0 : Look) (a1 : GInst) (a2 : Ty) (a3 : List Ty) (r : Look × Ty × Bool × Int) (hr : s_f108 n a0 a1 a2 a3 = some r) : ACallH Try.prog 108 [.ptr 4 0, .agg [.str a1.f0, .int .i64 a1.f1.kind, .int .i64 a1.f1.i, .bool a1.f1.b, .str a1.f1.s, .sl .ro 5 (encs a1.f1.t), .int .i64 a1.f2], .agg (tyC a2), .sl .ro 2 (enys a3)] [(4, .box 139 [.mv 2 a0.f0.v .hdr, .mv 3 a0.f1.v .hdr, .int .i64 a0.f2.kind, .sl .ro 2 (enys a0.f2.of)]), (2, .arr 38 1 a0.f0.v (r_sl_st_Ty a0.f0.l)), (3, .arr 4 1 a0.f1.v (r_bool a0.f1.l))] [(4, .box 139 [.mv 2 r.1.f0.v .hdr, .mv 3 r.1.f1.v .hdr, .int .i64 r.1.f2.kind, .sl .ro 2 (enys r.1.f2.of)]), (2, .arr 38 1 r.1.f0.v (r_sl_st_Ty r.1.f0.l)), (3, .arr 4 1 r.1.f1.v (r_bool r.1.f1.l))] (.tup [.agg (tyC r.2.1), .bool r.2.2.1, .int .i64 r.2.2.2]) := by
 refine ACallH.go [(0, .ptr 4 0), (1, .agg [.str a1.f0, .int .i64 a1.f1.kind, .int .i64 a1.f1.i, .bool a1.f1.b, .str a1.f1.s, .sl .ro 5 (encs a1.f1.t), .int .i64 a1.f2]), (2, .agg (tyC a2)), (3, .sl .ro 2 (enys a3))] [(3, .arr 4 1 a0.f1.v (r_bool a0.f1.l)), (2, .arr 38 1 a0.f0.v (r_sl_st_Ty a0.f0.l)), (4, .box 139 [.mv 2 a0.f0.v .hdr, .mv 3 a0.f1.v .hdr, .int .i64 a0.f2.kind, .sl .ro 2 (enys a0.f2.of)])] Try.func108 rfl Try.ntmps108 rfl rfl rfl (by simp [pureA, pureL, pureR, inA, inL, inR, inO, idsIn, encs_pure, enys_pure, valC_pure, tyC_pure, r_sl_st_Ty_pure, r_bool_pure]) (fmc ⟨(by simp [pureA, pureL, pureR, inA, inL, inR, inO, idsIn, encs_pure, enys_pure, valC_pure, tyC_pure, r_sl_st_Ty_pure, r_bool_pure]), (fmc ⟨(by simp [pureA, pureL, pureR, inA, inL, inR, inO, idsIn, encs_pure, enys_pure, valC_pure, tyC_pure, r_sl_st_Ty_pure, r_bool_pure]), (fmc ⟨(by simp [pureA, pureL, pureR, inA, inL, inR, inO, idsIn, encs_pure, enys_pure, valC_pure, tyC_pure, r_sl_st_Ty_pure, r_bool_pure]), (fun _ h => by cases h)⟩)⟩)⟩) (fmc ⟨⟨rfl, (by simp [pureA, pureL, pureR, inA, inL, inR, inO, idsIn, encs_pure, enys_pure, valC_pure, tyC_pure, r_sl_st_Ty_pure, r_bool_pure])⟩, (fmc ⟨⟨rfl, (by simp [pureA, pureL, pureR, inA, inL, inR, inO, idsIn, encs_pure, enys_pure, valC_pure, tyC_pure, r_sl_st_Ty_pure, r_bool_pure])⟩, (fmc ⟨⟨rfl, (by simp [pureA, pureL, pureR, inA, inL, inR, inO, idsIn, encs_pure, enys_pure, valC_pure, tyC_pure, r_sl_st_Ty_pure, r_bool_pure])⟩, (fun _ h => by cases h)⟩)⟩)⟩) (by simp [pureA, pureL, pureR, inA, inL, inR, inO, idsIn, encs_pure, enys_pure, valC_pure, tyC_pure, r_sl_st_Ty_pure, r_bool_pure]) ?_
 rw [s_f108] at hr
 refine AW.seq ?_
 refine AW.rg ?_
 refine AL.bx good (d := 5) (l := [.str a1.f0, .int .i64 a1.f1.kind, .int .i64 a1.f1.i, .bool a1.f1.b, .str a1.f1.s, .sl .ro 5 (encs a1.f1.t), .int .i64 a1.f2]) rfl rfl rfl rfl rfl rfl 5 rfl ?_
 refine AL.bx good (d := 6) (l := [.int .i64 a2.kind, .sl .ro 2 (enys a2.of)]) rfl rfl rfl rfl rfl rfl 6 rfl ?_
 refine AL.alc good (d := 8) rfl rfl rfl rfl rfl 7 rfl ?_
 refine AL.v good (d := 9) (v := .bool false) rfl rfl rfl rfl ?_
 refine AL.v good (d := 10) (v := .int .i64 0) rfl rfl rfl rfl ?_
 refine AW.seq ?_
 refine AW.seq ?_
 refine AW.rg ?_
 refine AL.v good (d := 14) (v := .ptr 5 0) rfl rfl rfl rfl ?_
 refine AL.v good (d := 15) (v := .str a1.f0) rfl rfl rfl rfl ?_
 refine AW.block ?_
 refine AW.seq ?_
 refine AW.rg ?_
 refine AL.sb good (d := 17) (b := (a1.f0.data.toList == [112, 117, 115, 104])) rfl rfl rfl rfl rfl rfl rfl ?_
 refine AL.v good (d := 16) (v := .bool (a1.f0.data.toList == [112, 117, 115, 104])) rfl rfl rfl rfl ?_
 refine AW.if rfl (fun h1 => ?_) (fun h1 => ?_)
 ·replace hr := cnd_t h1 hr
  refine AW.seq ?_
  refine AW.rg ?_
  refine AL.v good (d := 18) (v := .ptr 5 1) rfl rfl rfl rfl ?_
  refine AL.v good (d := 19) (v := .agg [.int .i64 a1.f1.kind, .int .i64 a1.f1.i, .bool a1.f1.b, .str a1.f1.s, .sl .ro 5 (encs a1.f1.t)]) rfl rfl rfl rfl ?_
  obtain ⟨q2, h3, hr⟩ := bnd1 hr
  refine AL.cw good (d := 20) (xs := [.agg (valC a1.f1)]) (res := .agg [.int .i64 q2.kind, .sl .ro 2 (enys q2.of)]) rfl rfl rfl rfl rfl rfl rfl (w_f21 _ _ _ h3) ⟨(Wv.refl _), trivial⟩ (by simp [pureA, pureL, pureR, inA, inL, inR, inO, idsIn, encs_pure, enys_pure, valC_pure, tyC_pure, r_sl_st_Ty_pure, r_bool_pure]) ?_
  refine AL.st2 good (c2 := [.int .i64 q2.kind, .sl .ro 2 (enys q2.of)]) rfl rfl rfl rfl rfl rfl rfl rfl rfl rfl rfl rfl ?_
  refine AL.v good (d := 9) (v := .bool true) rfl rfl rfl rfl ?_
  refine AL.v good (d := 10) (v := .int .i64 0) rfl rfl rfl rfl ?_
  refine AW.ret ?_
  obtain rfl := Option.some.inj hr
  exact RetH.w good (.inr rfl) rfl rfl (Wv.refl _) (fmc ⟨rfl, (fmc ⟨rfl, (fmc ⟨rfl, (fun _ h => by cases h)⟩)⟩)⟩)
 ·replace hr := cnd_f h1 hr
  refine AW.seq ?_
  refine AW.rg ?_
  refine AL.sb good (d := 22) (b := (a1.f0.data.toList == [120])) rfl rfl rfl rfl rfl rfl rfl ?_
  refine AL.v good (d := 21) (v := .bool (a1.f0.data.toList == [120])) rfl rfl rfl rfl ?_
  refine AW.if rfl (fun h4 => ?_) (fun h4 => ?_)
  ·replace hr := cnd_t h4 hr
   refine AW.seq ?_
   refine AW.rg ?_
   refine AL.v good (d := 23) (v := .agg [.int .i64 a2.kind, .sl .ro 2 (enys a2.of)]) rfl rfl rfl rfl ?_
   refine AL.st2 good (c2 := [.int .i64 a2.kind, .sl .ro 2 (enys a2.of)]) rfl rfl rfl rfl rfl rfl rfl rfl rfl rfl rfl rfl ?_
   refine AL.v good (d := 9) (v := .bool true) rfl rfl rfl rfl ?_
   refine AL.v good (d := 10) (v := .int .i64 0) rfl rfl rfl rfl ?_
   refine AW.ret ?_
   obtain rfl := Option.some.inj hr
   exact RetH.w good (.inr rfl) rfl rfl (Wv.refl _) (fmc ⟨rfl, (fmc ⟨rfl, (fmc ⟨rfl, (fun _ h => by cases h)⟩)⟩)⟩)
  ·replace hr := cnd_f h4 hr
   refine AW.seq ?_
   refine AW.rg ?_
   refine AL.sb good (d := 25) (b := (a1.f0.data.toList == [106, 102])) rfl rfl rfl rfl rfl rfl rfl ?_
   refine AL.v good (d := 24) (v := .bool (a1.f0.data.toList == [106, 102])) rfl rfl rfl rfl ?_
   refine AW.if rfl (fun h5 => ?_) (fun h5 => ?_)
   ·replace hr := cnd_t h5 hr
    refine AW.seq ?_
    refine AW.seq ?_
    refine AW.rg ?_
    refine AL.v good (d := 26) (v := .sl .ro 2 (enys a3)) rfl rfl rfl rfl ?_
    obtain ⟨x6, h7, hr⟩ := bnd1 hr
    refine AL.ix good (d := 27) (r := [.int .i64 x6.kind, .sl .ro 2 (enys x6.of)]) rfl rfl rfl rfl rfl rfl rfl (by decide) (enys_get h7) ?_
    refine AL.v good (d := 28) (v := .ep [.int .i64 x6.kind, .sl .ro 2 (enys x6.of)]) rfl rfl rfl rfl ?_
    refine AL.v good (d := 29) (v := .int .i64 x6.kind) rfl rfl rfl rfl ?_
    refine AL.v good (d := 30) (v := .bool (x6.kind != 2)) rfl rfl rfl rfl ?_
    refine AW.if rfl (fun h8 => ?_) (fun h8 => ?_)
    ·replace hr := cnd_t h8 hr
     refine AW.seq ?_
     refine AW.rg ?_
     refine AL.bld good (d := 31) (l := [.int .i64 0, .sl .nil 0 []]) rfl rfl rfl rfl rfl rfl rfl ?_
     refine AL.st2 good (c2 := [.int .i64 0, .sl .nil 0 []]) rfl rfl rfl rfl rfl rfl rfl rfl rfl rfl rfl rfl ?_
     refine AL.v good (d := 9) (v := .bool false) rfl rfl rfl rfl ?_
     refine AL.v good (d := 10) (v := .int .i64 5) rfl rfl rfl rfl ?_
     refine AW.ret ?_
     obtain rfl := Option.some.inj hr
     exact RetH.w good (.inr rfl) rfl rfl ⟨⟨Wv.refl _, ⟨.inr rfl, trivial, .inr rfl⟩, trivial⟩, (Wv.refl _), (Wv.refl _), trivial⟩ (fmc ⟨rfl, (fmc ⟨rfl, (fmc ⟨rfl, (fun _ h => by cases h)⟩)⟩)⟩)
    ·replace hr := cnd_f h8 hr
     refine AW.skip ?_
     refine AW.seq ?_
     refine AW.rg ?_
     refine AL.bld good (d := 32) (l := [.int .i64 0, .sl .nil 0 []]) rfl rfl rfl rfl rfl rfl rfl ?_
     refine AL.st2 good (c2 := [.int .i64 0, .sl .nil 0 []]) rfl rfl rfl rfl rfl rfl rfl rfl rfl rfl rfl rfl ?_
     refine AL.v good (d := 9) (v := .bool false) rfl rfl rfl rfl ?_
     refine AL.v good (d := 10) (v := .int .i64 0) rfl rfl rfl rfl ?_
     refine AW.ret ?_
     obtain rfl := Option.some.inj hr
     exact RetH.w good (.inr rfl) rfl rfl ⟨⟨Wv.refl _, ⟨.inr rfl, trivial, .inr rfl⟩, trivial⟩, (Wv.refl _), (Wv.refl _), trivial⟩ (fmc ⟨rfl, (fmc ⟨rfl, (fmc ⟨rfl, (fun _ h => by cases h)⟩)⟩)⟩)
   ·replace hr := cnd_f h5 hr
    refine AW.seq ?_
    refine AW.rg ?_
    refine AL.sb good (d := 34) (b := (a1.f0.data.toList == [101, 109, 105, 116])) rfl rfl rfl rfl rfl rfl rfl ?_
    refine AL.v good (d := 33) (v := .bool (a1.f0.data.toList == [101, 109, 105, 116])) rfl rfl rfl rfl ?_
    refine AW.if rfl (fun h9 => ?_) (fun h9 => ?_)
    ·replace hr := cnd_t h9 hr
     refine AW.seq ?_
     refine AW.seq ?_
     refine AW.rg ?_
     refine AL.v good (d := 11) (v := .int .i64 0) rfl rfl rfl rfl ?_
     refine AW.block ?_
     refine AW.lens 3 rfl (fun hl24 => ?_)
     replace hl24 : a3.length ≤ 9223372036854775807 := by rw [← enys_length a3]; exact hl24
     refine AW.lpw (fun x : Nat × Nat × Int × (List Ty) => [(0, .ptr 4 0), (3, .sl .ro 2 (enys a3)), (8, .ptr 7 0), (11, .int .i64 (x.2.1 : Int))]) (fun x => [(2, .arr 38 1 a0.f0.v (r_sl_st_Ty a0.f0.l)), (3, .arr 4 1 a0.f1.v (r_bool a0.f1.l)), (4, .box 139 [.mv 2 a0.f0.v .hdr, .mv 3 a0.f1.v .hdr, .int .i64 x.2.2.1, .sl .ro 2 (enys x.2.2.2)]), (7, .box 40 [.int .i64 0, .sl .nil 0 []])]) (fun x => s_f108_l1 x.1 a0 a3 x.2.1 x.2.2.1 x.2.2.2 = some r ∧ x.1 ≤ n) (fun x => x.1) (n, 0, a0.f2.kind, a0.f2.of) ⟨(idsIn_sub rfl), fmc ⟨⟨⟨_, rfl, Wv.refl _⟩, (by simp [pureA, pureL, pureR, inA, inL, inR, inO, idsIn, encs_pure, enys_pure, valC_pure, tyC_pure, r_sl_st_Ty_pure, r_bool_pure])⟩, fmc ⟨⟨⟨_, rfl, Wv.refl _⟩, (by simp [pureA, pureL, pureR, inA, inL, inR, inO, idsIn, encs_pure, enys_pure, valC_pure, tyC_pure, r_sl_st_Ty_pure, r_bool_pure])⟩, fmc ⟨⟨⟨_, rfl, Wv.refl _⟩, (by simp [pureA, pureL, pureR, inA, inL, inR, inO, idsIn, encs_pure, enys_pure, valC_pure, tyC_pure, r_sl_st_Ty_pure, r_bool_pure])⟩, fmc ⟨⟨⟨_, rfl, Wv.refl _⟩, (by simp [pureA, pureL, pureR, inA, inL, inR, inO, idsIn, encs_pure, enys_pure, valC_pure, tyC_pure, r_sl_st_Ty_pure, r_bool_pure])⟩, (fun _ h => by cases h)⟩⟩⟩⟩, fmc ⟨⟨⟨_, rfl, ⟨rfl, rfl, rfl, WvR.refl _⟩⟩, (by simp [pureA, pureL, pureR, inA, inL, inR, inO, idsIn, encs_pure, enys_pure, valC_pure, tyC_pure, r_sl_st_Ty_pure, r_bool_pure])⟩, fmc ⟨⟨⟨_, rfl, ⟨rfl, rfl, rfl, WvR.refl _⟩⟩, (by simp [pureA, pureL, pureR, inA, inL, inR, inO, idsIn, encs_pure, enys_pure, valC_pure, tyC_pure, r_sl_st_Ty_pure, r_bool_pure])⟩, fmc ⟨⟨⟨_, rfl, ⟨rfl, ⟨Wv.refl _, Wv.refl _, Wv.refl _, Wv.refl _, trivial⟩⟩⟩, (by simp [pureA, pureL, pureR, inA, inL, inR, inO, idsIn, encs_pure, enys_pure, valC_pure, tyC_pure, r_sl_st_Ty_pure, r_bool_pure])⟩, fmc ⟨⟨⟨_, rfl, ⟨rfl, ⟨Wv.refl _, Wv.refl _, trivial⟩⟩⟩, (by simp [pureA, pureL, pureR, inA, inL, inR, inO, idsIn, encs_pure, enys_pure, valC_pure, tyC_pure, r_sl_st_Ty_pure, r_bool_pure])⟩, (fun _ h => by cases h)⟩⟩⟩⟩⟩ ⟨hr, Nat.le_refl _⟩ (fun ⟨m, v1_1, v1_2, v1_3⟩ hx => ?_)
     obtain ⟨hr, hm⟩ := hx
     try dsimp only at hr hm
     cases m with
     | zero => rw [s_f108_l1] at hr; cases hr
     | succ m =>
      rw [s_f108_l1] at hr
      show AW Try.prog _ _ _ (mkS 83 [(0, .ptr 4 0), (3, .sl .ro 2 (enys a3)), (8, .ptr 7 0), (11, .int .i64 (v1_1 : Int))] [(2, .arr 38 1 a0.f0.v (r_sl_st_Ty a0.f0.l)), (3, .arr 4 1 a0.f1.v (r_bool a0.f1.l)), (4, .box 139 [.mv 2 a0.f0.v .hdr, .mv 3 a0.f1.v .hdr, .int .i64 v1_2, .sl .ro 2 (enys v1_3)]), (7, .box 40 [.int .i64 0, .sl .nil 0 []])])
      refine AW.seq ?_
      refine AW.seq ?_
      refine AW.rg ?_
      refine AL.v good (d := 35) (v := .int .i64 (v1_1 : Int)) rfl rfl rfl rfl ?_
      refine AL.v good (d := 36) (v := .sl .ro 2 (enys a3)) rfl rfl rfl rfl ?_
      refine AL.ln good (d := 37) (m := a3.length) rfl rfl rfl rfl rfl rfl (enys_length _) ?_
      refine AL.v good (d := 38) (v := .bool (decide ((v1_1 : Int) < (a3.length : Int)))) rfl rfl rfl rfl ?_
      refine AW.if rfl (fun h25 => ?_) (fun h25 => ?_)
      ·replace hr := cnd_t h25 hr
       refine AW.skip ?_
       refine AW.seq ?_
       refine AW.block ?_
       refine AW.seq ?_
       refine AW.seq ?_
       refine AW.drawc (M := fun i => ⟨false, bif Nat.beq i 4 then some { ids := [4] } else bif Nat.beq i 10 then some { ids := [4] } else bif Nat.beq i 14 then some { ids := [] } else none⟩) good.wide (by kernel_rfl) ?_
       refine AL.v (nc := ⟨rfl⟩) good (d := 41) (v := .ptr 4 0) rfl rfl rfl rfl ?_
       refine AL.v (nc := ⟨rfl⟩) good (d := 42) (v := .ptr 4 0) rfl rfl rfl rfl ?_
       refine AL.v (nc := ⟨rfl⟩) good (d := 43) (v := .ptr 4 2) rfl rfl rfl rfl ?_
       refine AL.v (nc := ⟨rfl⟩) good (d := 44) (v := .ptr 4 2) rfl rfl rfl rfl ?_
       refine AL.vc good (d := 45) (v := .int .i64 v1_2) rfl rfl rfl rfl rfl rfl (fmc ⟨.head _, (fun _ h => by cases h)⟩) ?_
       refine AL.v (nc := ⟨rfl⟩) good (d := 46) (v := .bool (v1_2 != 0)) rfl rfl rfl rfl ?_
       refine AL.v (nc := ⟨rfl⟩) good (d := 47) (v := .bool (v1_2 != 0)) rfl rfl rfl rfl ?_
       refine AL.cs 47 rfl (fun h26 => ?_) (fun h26 => ?_)
       ·replace hr := cnd_t h26 hr
        refine AL.v (nc := ⟨rfl⟩) good (d := 48) (v := .ptr 4 0) rfl rfl rfl rfl ?_
        refine AL.v (nc := ⟨rfl⟩) good (d := 49) (v := .ptr 4 0) rfl rfl rfl rfl ?_
        refine AL.v (nc := ⟨rfl⟩) good (d := 50) (v := .ptr 4 2) rfl rfl rfl rfl ?_
        refine AL.vc good (d := 51) (v := .agg [.int .i64 v1_2, .sl .ro 2 (enys v1_3)]) rfl rfl rfl rfl rfl rfl (fmc ⟨.head _, (fun _ h => by cases h)⟩) ?_
        refine AL.v (nc := ⟨rfl⟩) good (d := 52) (v := .sl .ro 2 (enys a3)) rfl rfl rfl rfl ?_
        refine AL.v (nc := ⟨rfl⟩) good (d := 53) (v := .int .i64 (v1_1 : Int)) rfl rfl rfl rfl ?_
        obtain ⟨x27, h28, hr⟩ := bnd1 hr
        refine AL.ix (nc := ⟨rfl⟩) good (d := 54) (r := [.int .i64 x27.kind, .sl .ro 2 (enys x27.of)]) rfl rfl rfl rfl rfl rfl rfl (Int.natCast_nonneg _) (enys_get h28) ?_
        refine AL.vc good (d := 55) (v := .agg [.int .i64 x27.kind, .sl .ro 2 (enys x27.of)]) rfl rfl rfl rfl rfl rfl (fun _ h => by cases h) ?_
        obtain ⟨q29, h30, hr⟩ := bnd1 hr
        refine AL.cw (nc := ⟨rfl⟩) good (d := 56) (xs := [.agg (tyC (Ty.mk v1_2 v1_3)), .agg (tyC x27)]) (res := .bool q29) rfl rfl rfl rfl rfl rfl rfl (w_f65 _ _ _ _ h30) ⟨(Wv.refl _), (Wv.refl _), trivial⟩ (by simp [pureA, pureL, pureR, inA, inL, inR, inO, idsIn, encs_pure, enys_pure, valC_pure, tyC_pure, r_sl_st_Ty_pure, r_bool_pure]) ?_
        refine AL.v (nc := ⟨rfl⟩) good (d := 57) (v := .bool (!q29)) rfl rfl rfl rfl ?_
        refine AL.v (nc := ⟨rfl⟩) good (d := 58) (v := .bool (!q29)) rfl rfl rfl rfl ?_
        refine AW.if rfl (fun h31 => ?_) (fun h31 => ?_)
        ·replace hr := cnd_t h31 hr
         refine AW.seq ?_
         refine AW.rg ?_
         refine AL.bld good (d := 59) (l := [.int .i64 0, .sl .nil 0 []]) rfl rfl rfl rfl rfl rfl rfl ?_
         refine AL.st2 good (c2 := [.int .i64 0, .sl .nil 0 []]) rfl rfl rfl rfl rfl rfl rfl rfl rfl rfl rfl rfl ?_
         refine AL.v good (d := 9) (v := .bool false) rfl rfl rfl rfl ?_
         refine AL.v good (d := 10) (v := .int .i64 5) rfl rfl rfl rfl ?_
         refine AW.ret ?_
         obtain rfl := Option.some.inj hr
         exact RetH.w good (.inr rfl) rfl rfl ⟨⟨Wv.refl _, ⟨.inr rfl, trivial, .inr rfl⟩, trivial⟩, (Wv.refl _), (Wv.refl _), trivial⟩ (fmc ⟨rfl, (fmc ⟨rfl, (fmc ⟨rfl, (fun _ h => by cases h)⟩)⟩)⟩)
        ·replace hr := cnd_f h31 hr
         refine AW.skip ?_
         refine AW.rg ?_
         refine AL.v good (d := 60) (v := .ptr 4 0) rfl rfl rfl rfl ?_
         refine AL.v good (d := 61) (v := .sl .ro 2 (enys a3)) rfl rfl rfl rfl ?_
         refine AL.v good (d := 62) (v := .int .i64 (v1_1 : Int)) rfl rfl rfl rfl ?_
         obtain ⟨x32, h33, hr⟩ := bnd1 hr
         refine AL.ix good (d := 63) (r := [.int .i64 x32.kind, .sl .ro 2 (enys x32.of)]) rfl rfl rfl rfl rfl rfl rfl (Int.natCast_nonneg _) (enys_get h33) ?_
         refine AL.v good (d := 64) (v := .agg [.int .i64 x32.kind, .sl .ro 2 (enys x32.of)]) rfl rfl rfl rfl ?_
         refine AL.v good (d := 65) (v := .ptr 4 0) rfl rfl rfl rfl ?_
         refine AL.v good (d := 66) (v := .ptr 4 2) rfl rfl rfl rfl ?_
         refine AL.st2 good (c2 := [.mv 2 a0.f0.v .hdr, .mv 3 a0.f1.v .hdr, .int .i64 x32.kind, .sl .ro 2 (enys x32.of)]) rfl rfl rfl rfl rfl rfl rfl rfl rfl rfl rfl rfl ?_
         refine AW.rg ?_
         refine AL.v good (d := 39) (v := .int .i64 (v1_1 : Int)) rfl rfl rfl rfl ?_
         refine AL.v good (d := 40) (v := .int .i64 (IntKind.i64.wrap ((v1_1 : Int) + 1))) rfl rfl rfl rfl ?_
         refine AL.v good (d := 11) (v := .int .i64 (IntKind.i64.wrap ((v1_1 : Int) + 1))) rfl rfl rfl rfl ?_
         exact ⟨(m, (v1_1 + 1), x32.kind, x32.of), _, _, rfl, ⟨(idsIn_sub rfl), fmc ⟨⟨⟨_, rfl, Wv.refl _⟩, (by simp [pureA, pureL, pureR, inA, inL, inR, inO, idsIn, encs_pure, enys_pure, valC_pure, tyC_pure, r_sl_st_Ty_pure, r_bool_pure])⟩, fmc ⟨⟨⟨_, rfl, Wv.refl _⟩, (by simp [pureA, pureL, pureR, inA, inL, inR, inO, idsIn, encs_pure, enys_pure, valC_pure, tyC_pure, r_sl_st_Ty_pure, r_bool_pure])⟩, fmc ⟨⟨⟨_, rfl, Wv.refl _⟩, (by simp [pureA, pureL, pureR, inA, inL, inR, inO, idsIn, encs_pure, enys_pure, valC_pure, tyC_pure, r_sl_st_Ty_pure, r_bool_pure])⟩, fmc ⟨⟨⟨_, rfl, (wnx h25 hl24)⟩, (by simp [pureA, pureL, pureR, inA, inL, inR, inO, idsIn, encs_pure, enys_pure, valC_pure, tyC_pure, r_sl_st_Ty_pure, r_bool_pure])⟩, (fun _ h => by cases h)⟩⟩⟩⟩, fmc ⟨⟨⟨_, rfl, ⟨rfl, rfl, rfl, WvR.refl _⟩⟩, (by simp [pureA, pureL, pureR, inA, inL, inR, inO, idsIn, encs_pure, enys_pure, valC_pure, tyC_pure, r_sl_st_Ty_pure, r_bool_pure])⟩, fmc ⟨⟨⟨_, rfl, ⟨rfl, rfl, rfl, WvR.refl _⟩⟩, (by simp [pureA, pureL, pureR, inA, inL, inR, inO, idsIn, encs_pure, enys_pure, valC_pure, tyC_pure, r_sl_st_Ty_pure, r_bool_pure])⟩, fmc ⟨⟨⟨_, rfl, ⟨rfl, ⟨Wv.refl _, Wv.refl _, Wv.refl _, Wv.refl _, trivial⟩⟩⟩, (by simp [pureA, pureL, pureR, inA, inL, inR, inO, idsIn, encs_pure, enys_pure, valC_pure, tyC_pure, r_sl_st_Ty_pure, r_bool_pure])⟩, fmc ⟨⟨⟨_, rfl, ⟨rfl, ⟨Wv.refl _, Wv.refl _, trivial⟩⟩⟩, (by simp [pureA, pureL, pureR, inA, inL, inR, inO, idsIn, encs_pure, enys_pure, valC_pure, tyC_pure, r_sl_st_Ty_pure, r_bool_pure])⟩, (fun _ h => by cases h)⟩⟩⟩⟩⟩, ⟨hr, Nat.le_of_succ_le hm⟩, Nat.lt_succ_self _⟩
       ·replace hr := cnd_f h26 hr
        refine AL.sk (nc := ⟨rfl⟩) good (d := 48) rfl rfl rfl ?_
        refine AL.sk (nc := ⟨rfl⟩) good (d := 49) rfl rfl rfl ?_
        refine AL.sk (nc := ⟨rfl⟩) good (d := 50) rfl rfl rfl ?_
        refine AL.skc good (d := 51) rfl rfl rfl ?_
        refine AL.sk (nc := ⟨rfl⟩) good (d := 52) rfl rfl rfl ?_
        refine AL.sk (nc := ⟨rfl⟩) good (d := 53) rfl rfl rfl ?_
        refine AL.sk (nc := ⟨rfl⟩) good (d := 54) rfl rfl rfl ?_
        refine AL.skc good (d := 55) rfl rfl rfl ?_
        refine AL.sk (nc := ⟨rfl⟩) good (d := 56) rfl rfl rfl ?_
        refine AL.sk (nc := ⟨rfl⟩) good (d := 57) rfl rfl rfl ?_
        refine AL.v (nc := ⟨rfl⟩) good (d := 58) (v := .bool false) rfl rfl rfl rfl ?_
        refine AW.if rfl (fun h => by cases h) (fun h => ?_)
        refine AW.skip ?_
        refine AW.rg ?_
        refine AL.v good (d := 60) (v := .ptr 4 0) rfl rfl rfl rfl ?_
        refine AL.v good (d := 61) (v := .sl .ro 2 (enys a3)) rfl rfl rfl rfl ?_
        refine AL.v good (d := 62) (v := .int .i64 (v1_1 : Int)) rfl rfl rfl rfl ?_
        obtain ⟨x34, h35, hr⟩ := bnd1 hr
        refine AL.ix good (d := 63) (r := [.int .i64 x34.kind, .sl .ro 2 (enys x34.of)]) rfl rfl rfl rfl rfl rfl rfl (Int.natCast_nonneg _) (enys_get h35) ?_
        refine AL.v good (d := 64) (v := .agg [.int .i64 x34.kind, .sl .ro 2 (enys x34.of)]) rfl rfl rfl rfl ?_
        refine AL.v good (d := 65) (v := .ptr 4 0) rfl rfl rfl rfl ?_
        refine AL.v good (d := 66) (v := .ptr 4 2) rfl rfl rfl rfl ?_
        refine AL.st2 good (c2 := [.mv 2 a0.f0.v .hdr, .mv 3 a0.f1.v .hdr, .int .i64 x34.kind, .sl .ro 2 (enys x34.of)]) rfl rfl rfl rfl rfl rfl rfl rfl rfl rfl rfl rfl ?_
        refine AW.rg ?_
        refine AL.v good (d := 39) (v := .int .i64 (v1_1 : Int)) rfl rfl rfl rfl ?_
        refine AL.v good (d := 40) (v := .int .i64 (IntKind.i64.wrap ((v1_1 : Int) + 1))) rfl rfl rfl rfl ?_
        refine AL.v good (d := 11) (v := .int .i64 (IntKind.i64.wrap ((v1_1 : Int) + 1))) rfl rfl rfl rfl ?_
        exact ⟨(m, (v1_1 + 1), x34.kind, x34.of), _, _, rfl, ⟨(idsIn_sub rfl), fmc ⟨⟨⟨_, rfl, Wv.refl _⟩, (by simp [pureA, pureL, pureR, inA, inL, inR, inO, idsIn, encs_pure, enys_pure, valC_pure, tyC_pure, r_sl_st_Ty_pure, r_bool_pure])⟩, fmc ⟨⟨⟨_, rfl, Wv.refl _⟩, (by simp [pureA, pureL, pureR, inA, inL, inR, inO, idsIn, encs_pure, enys_pure, valC_pure, tyC_pure, r_sl_st_Ty_pure, r_bool_pure])⟩, fmc ⟨⟨⟨_, rfl, Wv.refl _⟩, (by simp [pureA, pureL, pureR, inA, inL, inR, inO, idsIn, encs_pure, enys_pure, valC_pure, tyC_pure, r_sl_st_Ty_pure, r_bool_pure])⟩, fmc ⟨⟨⟨_, rfl, (wnx h25 hl24)⟩, (by simp [pureA, pureL, pureR, inA, inL, inR, inO, idsIn, encs_pure, enys_pure, valC_pure, tyC_pure, r_sl_st_Ty_pure, r_bool_pure])⟩, (fun _ h => by cases h)⟩⟩⟩⟩, fmc ⟨⟨⟨_, rfl, ⟨rfl, rfl, rfl, WvR.refl _⟩⟩, (by simp [pureA, pureL, pureR, inA, inL, inR, inO, idsIn, encs_pure, enys_pure, valC_pure, tyC_pure, r_sl_st_Ty_pure, r_bool_pure])⟩, fmc ⟨⟨⟨_, rfl, ⟨rfl, rfl, rfl, WvR.refl _⟩⟩, (by simp [pureA, pureL, pureR, inA, inL, inR, inO, idsIn, encs_pure, enys_pure, valC_pure, tyC_pure, r_sl_st_Ty_pure, r_bool_pure])⟩, fmc ⟨⟨⟨_, rfl, ⟨rfl, ⟨Wv.refl _, Wv.refl _, Wv.refl _, Wv.refl _, trivial⟩⟩⟩, (by simp [pureA, pureL, pureR, inA, inL, inR, inO, idsIn, encs_pure, enys_pure, valC_pure, tyC_pure, r_sl_st_Ty_pure, r_bool_pure])⟩, fmc ⟨⟨⟨_, rfl, ⟨rfl, ⟨Wv.refl _, Wv.refl _, trivial⟩⟩⟩, (by simp [pureA, pureL, pureR, inA, inL, inR, inO, idsIn, encs_pure, enys_pure, valC_pure, tyC_pure, r_sl_st_Ty_pure, r_bool_pure])⟩, (fun _ h => by cases h)⟩⟩⟩⟩⟩, ⟨hr, Nat.le_of_succ_le hm⟩, Nat.lt_succ_self _⟩
      ·replace hr := cnd_f h25 hr
       refine AW.exit ?_
       refine AW.seq ?_
       refine AW.rg ?_
       refine AL.bld good (d := 67) (l := [.int .i64 0, .sl .nil 0 []]) rfl rfl rfl rfl rfl rfl rfl ?_
       refine AL.st2 good (c2 := [.int .i64 0, .sl .nil 0 []]) rfl rfl rfl rfl rfl rfl rfl rfl rfl rfl rfl rfl ?_
       refine AL.v good (d := 9) (v := .bool false) rfl rfl rfl rfl ?_
       refine AL.v good (d := 10) (v := .int .i64 0) rfl rfl rfl rfl ?_
       refine AW.ret ?_
       obtain rfl := Option.some.inj hr
       exact RetH.w good (.inr rfl) rfl rfl ⟨⟨Wv.refl _, ⟨.inr rfl, trivial, .inr rfl⟩, trivial⟩, (Wv.refl _), (Wv.refl _), trivial⟩ (fmc ⟨rfl, (fmc ⟨rfl, (fmc ⟨rfl, (fun _ h => by cases h)⟩)⟩)⟩)
    ·replace hr := cnd_f h9 hr
     refine AW.seq ?_
     refine AW.seq ?_
     refine AW.rg ?_
     refine AL.sb good (d := 69) (b := (a1.f0.data.toList == [106, 109, 112])) rfl rfl rfl rfl rfl rfl rfl ?_
     refine AL.v good (d := 68) (v := .bool (a1.f0.data.toList == [106, 109, 112])) rfl rfl rfl rfl ?_
     refine AW.if rfl (fun h36 => ?_) (fun h36 => ?_)
     ·replace hr := cnd_t h36 hr
      refine AW.skip ?_
      refine AW.if rfl (fun h => ?_) (fun h => by cases h36.symm.trans h)
      refine AW.seq ?_
      refine AW.rg ?_
      refine AL.bld good (d := 71) (l := [.int .i64 0, .sl .nil 0 []]) rfl rfl rfl rfl rfl rfl rfl ?_
      refine AL.st2 good (c2 := [.int .i64 0, .sl .nil 0 []]) rfl rfl rfl rfl rfl rfl rfl rfl rfl rfl rfl rfl ?_
      refine AL.v good (d := 9) (v := .bool false) rfl rfl rfl rfl ?_
      refine AL.v good (d := 10) (v := .int .i64 0) rfl rfl rfl rfl ?_
      refine AW.ret ?_
      obtain rfl := Option.some.inj hr
      exact RetH.w good (.inr rfl) rfl rfl ⟨⟨Wv.refl _, ⟨.inr rfl, trivial, .inr rfl⟩, trivial⟩, (Wv.refl _), (Wv.refl _), trivial⟩ (fmc ⟨rfl, (fmc ⟨rfl, (fmc ⟨rfl, (fun _ h => by cases h)⟩)⟩)⟩)
     ·replace hr := cnd_f h36 hr
      refine AW.rg ?_
      refine AL.sb good (d := 70) (b := (a1.f0.data.toList == [114, 101, 116])) rfl rfl rfl rfl rfl rfl rfl ?_
      refine AL.v good (d := 68) (v := .bool (a1.f0.data.toList == [114, 101, 116])) rfl rfl rfl rfl ?_
      refine AW.if rfl (fun h37 => ?_) (fun h37 => ?_)
      ·replace hr := cnd_t h37 hr
       refine AW.seq ?_
       refine AW.rg ?_
       refine AL.bld good (d := 71) (l := [.int .i64 0, .sl .nil 0 []]) rfl rfl rfl rfl rfl rfl rfl ?_
       refine AL.st2 good (c2 := [.int .i64 0, .sl .nil 0 []]) rfl rfl rfl rfl rfl rfl rfl rfl rfl rfl rfl rfl ?_
       refine AL.v good (d := 9) (v := .bool false) rfl rfl rfl rfl ?_
       refine AL.v good (d := 10) (v := .int .i64 0) rfl rfl rfl rfl ?_
       refine AW.ret ?_
       obtain rfl := Option.some.inj hr
       exact RetH.w good (.inr rfl) rfl rfl ⟨⟨Wv.refl _, ⟨.inr rfl, trivial, .inr rfl⟩, trivial⟩, (Wv.refl _), (Wv.refl _), trivial⟩ (fmc ⟨rfl, (fmc ⟨rfl, (fmc ⟨rfl, (fun _ h => by cases h)⟩)⟩)⟩)
      ·replace hr := cnd_f h37 hr
       refine AW.skip ?_
       refine AW.seq ?_
       refine AW.rg ?_
       refine AL.v good (d := 73) (v := .ptr 5 0) rfl rfl rfl rfl ?_
       refine AL.v good (d := 74) (v := .str a1.f0) rfl rfl rfl rfl ?_
       refine AL.v good (d := 75) (v := .ptr 5 6) rfl rfl rfl rfl ?_
       refine AL.v good (d := 76) (v := .int .i64 a1.f2) rfl rfl rfl rfl ?_
       refine AL.v good (d := 77) (v := .sl .ro 2 (enys a3)) rfl rfl rfl rfl ?_
       obtain ⟨q38, h39, hr⟩ := bnd1 hr
       refine AL.cw good (d := 78) (xs := [.str a1.f0, .int .i64 a1.f2, .sl .ro 2 (enys a3)]) (res := .tup [.agg [.int .i64 q38.1.kind, .sl .ro 2 (enys q38.1.of)], .int .i64 q38.2]) rfl rfl rfl rfl rfl rfl rfl (w_f94 _ _ _ _ _ h39) ⟨(Wv.refl _), (Wv.refl _), (Wv.refl _), trivial⟩ (by simp [pureA, pureL, pureR, inA, inL, inR, inO, idsIn, encs_pure, enys_pure, valC_pure, tyC_pure, r_sl_st_Ty_pure, r_bool_pure]) ?_
       refine AL.v good (d := 72) (v := .tup [.agg [.int .i64 q38.1.kind, .sl .ro 2 (enys q38.1.of)], .int .i64 q38.2]) rfl rfl rfl rfl ?_
       refine AL.v good (d := 79) (v := .agg [.int .i64 q38.1.kind, .sl .ro 2 (enys q38.1.of)]) rfl rfl rfl rfl ?_
       refine AL.v good (d := 80) (v := .int .i64 q38.2) rfl rfl rfl rfl ?_
       refine AL.alc good (d := 12) rfl rfl rfl rfl rfl 8 rfl ?_
       refine AL.st2 good (c2 := [.int .i64 q38.1.kind, .sl .ro 2 (enys q38.1.of)]) rfl rfl rfl rfl rfl rfl rfl rfl rfl rfl rfl rfl ?_
       refine AL.v good (d := 13) (v := .int .i64 q38.2) rfl rfl rfl rfl ?_
       refine AW.seq ?_
       refine AW.rg ?_
       refine AL.v good (d := 81) (v := .agg [.int .i64 q38.1.kind, .sl .ro 2 (enys q38.1.of)]) rfl rfl rfl rfl ?_
       refine AL.v good (d := 82) (v := .int .i64 q38.2) rfl rfl rfl rfl ?_
       refine AL.st2 good (c2 := [.int .i64 q38.1.kind, .sl .ro 2 (enys q38.1.of)]) rfl rfl rfl rfl rfl rfl rfl rfl rfl rfl rfl rfl ?_
       refine AL.v good (d := 9) (v := .bool true) rfl rfl rfl rfl ?_
       refine AL.v good (d := 10) (v := .int .i64 q38.2) rfl rfl rfl rfl ?_
       refine AW.ret ?_
       obtain rfl := Option.some.inj hr
       exact RetH.w good (.inr rfl) rfl rfl (Wv.refl _) (fmc ⟨rfl, (fmc ⟨rfl, (fmc ⟨rfl, (fun _ h => by cases h)⟩)⟩)⟩)


theorem w_f109_4_2_3 (n : Nat) (a0 : Look) (a1 : Int) (a2 : List Ty) (r : Look × Int) (hr : s_f109 n a0 a1 a2 = some r) : ACallH Try.prog 109 [.ptr 4 0, .int .i64 a1, .sl .ro 2 (enys a2)] [(4, .box 139 [.mv 2 a0.f0.v .hdr, .mv 3 a0.f1.v .hdr, .int .i64 a0.f2.kind, .sl .ro 2 (enys a0.f2.of)]), (2, .arr 38 1 a0.f0.v (r_sl_st_Ty a0.f0.l)), (3, .arr 4 1 a0.f1.v (r_bool a0.f1.l))] [(4, .box 139 [.mv 2 r.1.f0.v .hdr, .mv 3 r.1.f1.v .hdr, .int .i64 r.1.f2.kind, .sl .ro 2 (enys r.1.f2.of)]), (2, .arr 38 1 r.1.f0.v (r_sl_st_Ty r.1.f0.l)), (3, .arr 4 1 r.1.f1.v (r_bool r.1.f1.l))] (.int .i64 r.2) := by
 refine ACallH.go [(0, .ptr 4 0), (1, .int .i64 a1), (2, .sl .ro 2 (enys a2))] [(3, .arr 4 1 a0.f1.v (r_bool a0.f1.l)), (2, .arr 38 1 a0.f0.v (r_sl_st_Ty a0.f0.l)), (4, .box 139 [.mv 2 a0.f0.v .hdr, .mv 3 a0.f1.v .hdr, .int .i64 a0.f2.kind, .sl .ro 2 (enys a0.f2.of)])] Try.func109 rfl Try.ntmps109 rfl rfl rfl (by simp [pureA, pureL, pureR, inA, inL, inR, inO, idsIn, encs_pure, enys_pure, valC_pure, tyC_pure, r_sl_st_Ty_pure, r_bool_pure]) (fmc ⟨(by simp [pureA, pureL, pureR, inA, inL, inR, inO, idsIn, encs_pure, enys_pure, valC_pure, tyC_pure, r_sl_st_Ty_pure, r_bool_pure]), (fmc ⟨(by simp [pureA, pureL, pureR, inA, inL, inR, inO, idsIn, encs_pure, enys_pure, valC_pure, tyC_pure, r_sl_st_Ty_pure, r_bool_pure]), (fmc ⟨(by simp [pureA, pureL, pureR, inA, inL, inR, inO, idsIn, encs_pure, enys_pure, valC_pure, tyC_pure, r_sl_st_Ty_pure, r_bool_pure]), (fun _ h => by cases h)⟩)⟩)⟩) (fmc ⟨⟨rfl, (by simp [pureA, pureL, pureR, inA, inL, inR, inO, idsIn, encs_pure, enys_pure, valC_pure, tyC_pure, r_sl_st_Ty_pure, r_bool_pure])⟩, (fmc ⟨⟨rfl, (by simp [pureA, pureL, pureR, inA, inL, inR, inO, idsIn, encs_pure, enys_pure, valC_pure, tyC_pure, r_sl_st_Ty_pure, r_bool_pure])⟩, (fmc ⟨⟨rfl, (by simp [pureA, pureL, pureR, inA, inL, inR, inO, idsIn, encs_pure, enys_pure, valC_pure, tyC_pure, r_sl_st_Ty_pure, r_bool_pure])⟩, (fun _ h => by cases h)⟩)⟩)⟩) (by simp [pureA, pureL, pureR, inA, inL, inR, inO, idsIn, encs_pure, enys_pure, valC_pure, tyC_pure, r_sl_st_Ty_pure, r_bool_pure]) ?_
 rw [s_f109] at hr
 refine AW.seq ?_
 refine AW.rg ?_
 refine AL.v good (d := 6) (v := .int .i64 0) rfl rfl rfl rfl ?_
 refine AW.seq ?_
 refine AW.seq ?_
 refine AW.rg ?_
 refine AL.v good (d := 7) (v := .ptr 4 0) rfl rfl rfl rfl ?_
 refine AL.v good (d := 8) (v := .ptr 4 0) rfl rfl rfl rfl ?_
 refine AL.v good (d := 9) (v := .ptr 4 1) rfl rfl rfl rfl ?_
 refine AL.v good (d := 10) (v := .mv 3 a0.f1.v .hdr) rfl rfl rfl rfl ?_
 refine AL.v good (d := 11) (v := .int .i64 a1) rfl rfl rfl rfl ?_
 obtain ⟨h3, hr⟩ := grd hr
 obtain ⟨x1, h2, hr⟩ := bnd1 hr
 refine AL.mix good (d := 12) (q := a1.toNat) rfl rfl rfl rfl rfl rfl rfl rfl h3 rfl (r_bool_get h2) rfl ColN.no ?_
 refine AL.mld good (d := 13) (y := .bool x1) rfl rfl rfl rfl rfl rfl rfl (r_bool_get h2) rfl rfl ColN.no ?_
 refine AL.v good (d := 14) (v := .bool (!x1)) rfl rfl rfl rfl ?_
 refine AW.if rfl (fun h4 => ?_) (fun h4 => ?_)
 ·replace hr := cnd_t h4 hr
  refine AW.seq ?_
  refine AW.rg ?_
  refine AL.v good (d := 15) (v := .ptr 4 0) rfl rfl rfl rfl ?_
  refine AL.v good (d := 16) (v := .ptr 4 0) rfl rfl rfl rfl ?_
  refine AL.v good (d := 17) (v := .ptr 4 1) rfl rfl rfl rfl ?_
  refine AL.v good (d := 18) (v := .mv 3 a0.f1.v .hdr) rfl rfl rfl rfl ?_
  refine AL.v good (d := 19) (v := .int .i64 a1) rfl rfl rfl rfl ?_
  obtain ⟨h7, hr⟩ := grd hr
  obtain ⟨x5, h6, hr⟩ := bnd1 hr
  refine AL.mix good (d := 20) (q := a1.toNat) rfl rfl rfl rfl rfl rfl rfl rfl h7 rfl (r_bool_get h6) rfl ColN.no ?_
  refine AL.mst good (rows2 := r_bool (a0.f1.l.set a1.toNat true)) rfl rfl rfl rfl rfl rfl rfl rfl rfl (r_bool_get h6) rfl rfl (rowF_set _ _ _ _) ColN.no ?_
  refine AW.seq ?_
  refine AW.drawc (M := fun i => ⟨Nat.beq i 7 || Nat.beq i 8 || Nat.beq i 9, bif Nat.beq i 3 then some { ids := [4] } else bif Nat.beq i 5 then some { ids := [5] } else bif Nat.beq i 7 then some { ids := [5] } else bif Nat.beq i 8 then some { ids := [2] } else bif Nat.beq i 9 then some { ids := [2] } else none⟩) good.wide (by kernel_rfl) ?_
  refine AL.v (nc := ⟨rfl⟩) good (d := 21) (v := .ptr 4 0) rfl rfl rfl rfl ?_
  refine AL.v (nc := ⟨rfl⟩) good (d := 22) (v := .ptr 4 0) rfl rfl rfl rfl ?_
  refine AL.v (nc := ⟨rfl⟩) good (d := 23) (v := .ptr 4 0) rfl rfl rfl rfl ?_
  refine AL.vc good (d := 24) (v := .mv 2 a0.f0.v .hdr) rfl rfl rfl rfl rfl rfl (fmc ⟨.head _, (fun _ h => by cases h)⟩) ?_
  refine AL.v (nc := ⟨rfl⟩) good (d := 25) (v := .int .i64 a1) rfl rfl rfl rfl ?_
  refine AL.litC good (d := 26) (rows := []) rfl rfl rfl rfl rfl rfl rfl rfl rfl 5 rfl (ColN.mk rfl rfl (fun _ h => by cases h) (fmc ⟨.head _, (fun _ h => by cases h)⟩) (fun _ h => by cases h)) ?_
  refine AL.v (nc := ⟨rfl⟩) good (d := 27) (v := .sl .ro 2 (enys a2)) rfl rfl rfl rfl ?_
  obtain ⟨h8, hr⟩ := grd hr
  refine AL.aw2c good (d := 28) (rows := enys []) (news := enys a2) (rows2 := enys a2) rfl rfl rfl rfl rfl rfl rfl rfl rfl (by simp) rfl rfl rfl rfl (WvR.refl _) (by simp [enys_map]) (by rw [enys_length]; exact h8) rfl ?_
  obtain ⟨h11, hr⟩ := grd hr
  obtain ⟨x9, h10, hr⟩ := bnd1 hr
  refine AL.mix good (d := 29) (q := a1.toNat) rfl rfl rfl rfl rfl rfl rfl rfl h11 rfl (r_sl_st_Ty_get h10) rfl (ColN.mk rfl rfl (fmc ⟨.head _, (fun _ h => by cases h)⟩) (fun _ h => by cases h) (fun _ h => by cases h)) ?_
  refine AL.msw good (v := .sl .ro 2 (enys a2)) (rows2 := r_sl_st_Ty (a0.f0.l.set a1.toNat a2)) rfl rfl rfl rfl (by simp) rfl ⟨.inr rfl, WvR.refl _, .inl rfl⟩ rfl rfl rfl rfl (r_sl_st_Ty_get h10) rfl rfl (rowF_set _ _ _ _) (ColN.mk rfl rfl (fmc ⟨.head _, (fun _ h => by cases h)⟩) (fmc ⟨.head _, (fun _ h => by cases h)⟩) (fun _ h => by cases h)) ?_
  refine AW.seq ?_
  refine AW.rg ?_
  refine AL.v good (d := 6) (v := .int .i64 0) rfl rfl rfl rfl ?_
  refine AW.ret ?_
  obtain rfl := Option.some.inj hr
  exact RetH.w good (.inr rfl) rfl rfl (Wv.refl _) (fmc ⟨rfl, (fmc ⟨rfl, (fmc ⟨rfl, (fun _ h => by cases h)⟩)⟩)⟩)
 ·replace hr := cnd_f h4 hr
  refine AW.skip ?_
  refine AW.seq ?_
  refine AW.seq ?_
  refine AW.rg ?_
  refine AL.v good (d := 30) (v := .ptr 4 0) rfl rfl rfl rfl ?_
  refine AL.v good (d := 31) (v := .ptr 4 0) rfl rfl rfl rfl ?_
  refine AL.v good (d := 32) (v := .ptr 4 0) rfl rfl rfl rfl ?_
  refine AL.v good (d := 33) (v := .mv 2 a0.f0.v .hdr) rfl rfl rfl rfl ?_
  refine AL.v good (d := 34) (v := .int .i64 a1) rfl rfl rfl rfl ?_
  obtain ⟨h14, hr⟩ := grd hr
  obtain ⟨x12, h13, hr⟩ := bnd1 hr
  refine AL.mix good (d := 35) (q := a1.toNat) rfl rfl rfl rfl rfl rfl rfl rfl h14 rfl (r_sl_st_Ty_get h13) rfl ColN.no ?_
  refine AL.mld good (d := 36) (y := .sl .ro 2 (enys x12)) rfl rfl rfl rfl rfl rfl rfl (r_sl_st_Ty_get h13) rfl rfl ColN.no ?_
  refine AL.v good (d := 37) (v := .sl .ro 2 (enys a2)) rfl rfl rfl rfl ?_
  obtain ⟨q15, h16, hr⟩ := bnd1 hr
  refine AL.cw good (d := 38) (xs := [.sl .ro 2 (enys x12), .sl .ro 2 (enys a2)]) (res := .bool q15) rfl rfl rfl rfl rfl rfl rfl (w_f142 _ _ _ _ h16) ⟨(Wv.refl _), (Wv.refl _), trivial⟩ (by simp [pureA, pureL, pureR, inA, inL, inR, inO, idsIn, encs_pure, enys_pure, valC_pure, tyC_pure, r_sl_st_Ty_pure, r_bool_pure]) ?_
  refine AL.v good (d := 39) (v := .bool (!q15)) rfl rfl rfl rfl ?_
  refine AW.if rfl (fun h17 => ?_) (fun h17 => ?_)
  ·replace hr := cnd_t h17 hr
   refine AW.seq ?_
   refine AW.rg ?_
   refine AL.v good (d := 6) (v := .int .i64 14) rfl rfl rfl rfl ?_
   refine AW.ret ?_
   obtain rfl := Option.some.inj hr
   exact RetH.w good (.inr rfl) rfl rfl (Wv.refl _) (fmc ⟨rfl, (fmc ⟨rfl, (fmc ⟨rfl, (fun _ h => by cases h)⟩)⟩)⟩)
  ·replace hr := cnd_f h17 hr
   refine AW.skip ?_
   refine AW.seq ?_
   refine AW.rg ?_
   refine AL.v good (d := 6) (v := .int .i64 0) rfl rfl rfl rfl ?_
   refine AW.ret ?_
   obtain rfl := Option.some.inj hr
   exact RetH.w good (.inr rfl) rfl rfl (Wv.refl _) (fmc ⟨rfl, (fmc ⟨rfl, (fmc ⟨rfl, (fun _ h => by cases h)⟩)⟩)⟩)


theorem w_f71_4_2_3 (n : Nat) (a0 : Look) (a1 : List GInst) (a2 : Int) (a3 : Ty) (r : Look × Int) (hr : s_f71 n a0 a1 a2 a3 = some r) : ACallH Try.prog 71 [.ptr 4 0, .sl .ro 7 (r_st_GInst a1), .int .i64 a2, .agg (tyC a3)] [(4, .box 139 [.mv 2 a0.f0.v .hdr, .mv 3 a0.f1.v .hdr, .int .i64 a0.f2.kind, .sl .ro 2 (enys a0.f2.of)]), (2, .arr 38 1 a0.f0.v (r_sl_st_Ty a0.f0.l)), (3, .arr 4 1 a0.f1.v (r_bool a0.f1.l))] [(4, .box 139 [.mv 2 r.1.f0.v .hdr, .mv 3 r.1.f1.v .hdr, .int .i64 r.1.f2.kind, .sl .ro 2 (enys r.1.f2.of)]), (2, .arr 38 1 r.1.f0.v (r_sl_st_Ty r.1.f0.l)), (3, .arr 4 1 r.1.f1.v (r_bool r.1.f1.l))] (.int .i64 r.2) := by
 refine ACallH.go [(0, .ptr 4 0), (1, .sl .ro 7 (r_st_GInst a1)), (2, .int .i64 a2), (3, .agg (tyC a3))] [(3, .arr 4 1 a0.f1.v (r_bool a0.f1.l)), (2, .arr 38 1 a0.f0.v (r_sl_st_Ty a0.f0.l)), (4, .box 139 [.mv 2 a0.f0.v .hdr, .mv 3 a0.f1.v .hdr, .int .i64 a0.f2.kind, .sl .ro 2 (enys a0.f2.of)])] Try.func71 rfl Try.ntmps71 rfl rfl rfl (by simp [pureA, pureL, pureR, inA, inL, inR, inO, idsIn, encs_pure, enys_pure, valC_pure, tyC_pure, r_st_GInst_pure, r_sl_st_Ty_pure, r_bool_pure]) (fmc ⟨(by simp [pureA, pureL, pureR, inA, inL, inR, inO, idsIn, encs_pure, enys_pure, valC_pure, tyC_pure, r_st_GInst_pure, r_sl_st_Ty_pure, r_bool_pure]), (fmc ⟨(by simp [pureA, pureL, pureR, inA, inL, inR, inO, idsIn, encs_pure, enys_pure, valC_pure, tyC_pure, r_st_GInst_pure, r_sl_st_Ty_pure, r_bool_pure]), (fmc ⟨(by simp [pureA, pureL, pureR, inA, inL, inR, inO, idsIn, encs_pure, enys_pure, valC_pure, tyC_pure, r_st_GInst_pure, r_sl_st_Ty_pure, r_bool_pure]), (fun _ h => by cases h)⟩)⟩)⟩) (fmc ⟨⟨rfl, (by simp [pureA, pureL, pureR, inA, inL, inR, inO, idsIn, encs_pure, enys_pure, valC_pure, tyC_pure, r_st_GInst_pure, r_sl_st_Ty_pure, r_bool_pure])⟩, (fmc ⟨⟨rfl, (by simp [pureA, pureL, pureR, inA, inL, inR, inO, idsIn, encs_pure, enys_pure, valC_pure, tyC_pure, r_st_GInst_pure, r_sl_st_Ty_pure, r_bool_pure])⟩, (fmc ⟨⟨rfl, (by simp [pureA, pureL, pureR, inA, inL, inR, inO, idsIn, encs_pure, enys_pure, valC_pure, tyC_pure, r_st_GInst_pure, r_sl_st_Ty_pure, r_bool_pure])⟩, (fun _ h => by cases h)⟩)⟩)⟩) (by simp [pureA, pureL, pureR, inA, inL, inR, inO, idsIn, encs_pure, enys_pure, valC_pure, tyC_pure, r_st_GInst_pure, r_sl_st_Ty_pure, r_bool_pure]) ?_
 rw [s_f71] at hr
 refine AW.seq ?_
 refine AW.rg ?_
 refine AL.bx good (d := 7) (l := [.int .i64 a3.kind, .sl .ro 2 (enys a3.of)]) rfl rfl rfl rfl rfl rfl 5 rfl ?_
 refine AL.v good (d := 8) (v := .int .i64 0) rfl rfl rfl rfl ?_
 refine AW.seq ?_
 refine AW.rg ?_
 refine AL.v good (d := 16) (v := .sl .ro 7 (r_st_GInst a1)) rfl rfl rfl rfl ?_
 refine AL.v good (d := 17) (v := .int .i64 a2) rfl rfl rfl rfl ?_
 obtain ⟨h3, hr⟩ := grd hr
 obtain ⟨x1, h2, hr⟩ := bnd1 hr
 refine AL.ix good (d := 18) (r := [.str x1.f0, .int .i64 x1.f1.kind, .int .i64 x1.f1.i, .bool x1.f1.b, .str x1.f1.s, .sl .ro 5 (encs x1.f1.t), .int .i64 x1.f2]) rfl rfl rfl rfl rfl rfl rfl h3 (r_st_GInst_get h2) ?_
 refine AL.v good (d := 19) (v := .agg [.str x1.f0, .int .i64 x1.f1.kind, .int .i64 x1.f1.i, .bool x1.f1.b, .str x1.f1.s, .sl .ro 5 (encs x1.f1.t), .int .i64 x1.f2]) rfl rfl rfl rfl ?_
 refine AL.alc good (d := 9) rfl rfl rfl rfl rfl 6 rfl ?_
 refine AL.st2 good (c2 := [.str x1.f0, .int .i64 x1.f1.kind, .int .i64 x1.f1.i, .bool x1.f1.b, .str x1.f1.s, .sl .ro 5 (encs x1.f1.t), .int .i64 x1.f2]) rfl rfl rfl rfl rfl rfl rfl rfl rfl rfl rfl rfl ?_
 refine AW.seq ?_
 refine AW.rg ?_
 refine AL.v good (d := 20) (v := .ptr 4 0) rfl rfl rfl rfl ?_
 refine AL.v good (d := 21) (v := .ptr 4 0) rfl rfl rfl rfl ?_
 refine AL.v good (d := 22) (v := .ptr 4 0) rfl rfl rfl rfl ?_
 refine AL.v good (d := 23) (v := .mv 2 a0.f0.v .hdr) rfl rfl rfl rfl ?_
 refine AL.v good (d := 24) (v := .int .i64 a2) rfl rfl rfl rfl ?_
 obtain ⟨h6, hr⟩ := grd hr
 obtain ⟨x4, h5, hr⟩ := bnd1 hr
 refine AL.mix good (d := 25) (q := a2.toNat) rfl rfl rfl rfl rfl rfl rfl rfl h6 rfl (r_sl_st_Ty_get h5) rfl ColN.no ?_
 refine AL.mld good (d := 26) (y := .sl .ro 2 (enys x4)) rfl rfl rfl rfl rfl rfl rfl (r_sl_st_Ty_get h5) rfl rfl ColN.no ?_
 refine AL.v good (d := 10) (v := .sl .ro 2 (enys x4)) rfl rfl rfl rfl ?_
 refine AW.seq ?_
 refine AW.rg ?_
 refine AL.v good (d := 27) (v := .agg [.str x1.f0, .int .i64 x1.f1.kind, .int .i64 x1.f1.i, .bool x1.f1.b, .str x1.f1.s, .sl .ro 5 (encs x1.f1.t), .int .i64 x1.f2]) rfl rfl rfl rfl ?_
 obtain ⟨q7, h8, hr⟩ := bnd1 hr
 refine AL.cw good (d := 28) (xs := [.agg [.str x1.f0, .int .i64 x1.f1.kind, .int .i64 x1.f1.i, .bool x1.f1.b, .str x1.f1.s, .sl .ro 5 (encs x1.f1.t), .int .i64 x1.f2]]) (res := .int .i64 q7) rfl rfl rfl rfl rfl rfl rfl (w_f74 _ _ _ h8) ⟨(Wv.refl _), trivial⟩ (by simp [pureA, pureL, pureR, inA, inL, inR, inO, idsIn, encs_pure, enys_pure, valC_pure, tyC_pure, r_st_GInst_pure, r_sl_st_Ty_pure, r_bool_pure]) ?_
 refine AL.v good (d := 11) (v := .int .i64 q7) rfl rfl rfl rfl ?_
 refine AW.seq ?_
 refine AW.seq ?_
 refine AW.rg ?_
 refine AL.v good (d := 29) (v := .sl .ro 2 (enys x4)) rfl rfl rfl rfl ?_
 refine AL.ln good (d := 30) (m := x4.length) rfl rfl rfl rfl rfl rfl (enys_length _) ?_
 refine AL.v good (d := 31) (v := .int .i64 q7) rfl rfl rfl rfl ?_
 refine AL.v good (d := 32) (v := .bool (decide ((x4.length : Int) < q7))) rfl rfl rfl rfl ?_
 refine AW.if rfl (fun h9 => ?_) (fun h9 => ?_)
 ·replace hr := cnd_t h9 hr
  refine AW.seq ?_
  refine AW.rg ?_
  refine AL.v good (d := 8) (v := .int .i64 12) rfl rfl rfl rfl ?_
  refine AW.ret ?_
  obtain rfl := Option.some.inj hr
  exact RetH.w good (.inr rfl) rfl rfl (Wv.refl _) (fmc ⟨rfl, (fmc ⟨rfl, (fmc ⟨rfl, (fun _ h => by cases h)⟩)⟩)⟩)
 ·replace hr := cnd_f h9 hr
  refine AW.skip ?_
  refine AW.seq ?_
  refine AW.rg ?_
  refine AL.lit good (d := 33) (rows := []) rfl rfl rfl rfl rfl rfl rfl rfl rfl 7 rfl ?_
  refine AL.v good (d := 34) (v := .sl .ro 2 (enys x4)) rfl rfl rfl rfl ?_
  refine AL.v good (d := 35) (v := .sl .ro 2 (enys x4)) rfl rfl rfl rfl ?_
  refine AL.ln good (d := 36) (m := x4.length) rfl rfl rfl rfl rfl rfl (enys_length _) ?_
  refine AL.v good (d := 37) (v := .int .i64 q7) rfl rfl rfl rfl ?_
  refine AL.v good (d := 38) (v := .int .i64 (IntKind.i64.wrap ((x4.length : Int) - q7))) rfl rfl rfl rfl ?_
  obtain ⟨h10, hr⟩ := grd hr
  refine AL.sc good (d := 39) (rows := enys x4) (rows2 := enys (x4.drop ((IntKind.i64.wrap ((x4.length : Int) - q7)).toNat))) (m := x4.length) (l := (IntKind.i64.wrap ((x4.length : Int) - q7)).toNat) (h := x4.length) rfl rfl rfl rfl rfl rfl rfl (enys_length _) rfl (bndS rfl h10.1 h10.2) (by simp only [enys_map]; exact rowF_drop _ _ _) ?_
  obtain ⟨h11, hr⟩ := grd hr
  refine AL.aw2 good (d := 40) (rows := enys []) (news := enys (x4.drop ((IntKind.i64.wrap ((x4.length : Int) - q7)).toNat))) (rows2 := enys (x4.drop ((IntKind.i64.wrap ((x4.length : Int) - q7)).toNat))) rfl rfl rfl rfl rfl rfl rfl rfl rfl (by simp) rfl rfl rfl (WvR.refl _) (by simp [enys_map]) (by rw [enys_length]; exact h11) rfl ?_
  refine AL.v good (d := 12) (v := .sl (.own 7) 2 (enys (x4.drop ((IntKind.i64.wrap ((x4.length : Int) - q7)).toNat)))) rfl rfl rfl rfl ?_
  refine AW.seq ?_
  refine AW.rg ?_
  refine AL.lit good (d := 41) (rows := []) rfl rfl rfl rfl rfl rfl rfl rfl rfl 8 rfl ?_
  refine AL.v good (d := 42) (v := .sl .ro 2 (enys x4)) rfl rfl rfl rfl ?_
  refine AL.v good (d := 43) (v := .sl .ro 2 (enys x4)) rfl rfl rfl rfl ?_
  refine AL.ln good (d := 44) (m := x4.length) rfl rfl rfl rfl rfl rfl (enys_length _) ?_
  refine AL.v good (d := 45) (v := .int .i64 q7) rfl rfl rfl rfl ?_
  refine AL.v good (d := 46) (v := .int .i64 (IntKind.i64.wrap ((x4.length : Int) - q7))) rfl rfl rfl rfl ?_
  obtain ⟨h12, hr⟩ := grd hr
  refine AL.sc good (d := 47) (rows := enys x4) (rows2 := enys (x4.take ((IntKind.i64.wrap ((x4.length : Int) - q7)).toNat))) (m := x4.length) (l := 0) (h := (IntKind.i64.wrap ((x4.length : Int) - q7)).toNat) rfl rfl rfl rfl rfl rfl rfl (enys_length _) (bndS rfl h12.1 h12.2) rfl (by simp only [enys_map]; exact rowF_take _ _ _) ?_
  obtain ⟨h13, hr⟩ := grd hr
  refine AL.aw2 good (d := 48) (rows := enys []) (news := enys (x4.take ((IntKind.i64.wrap ((x4.length : Int) - q7)).toNat))) (rows2 := enys (x4.take ((IntKind.i64.wrap ((x4.length : Int) - q7)).toNat))) rfl rfl rfl rfl rfl rfl rfl rfl rfl (by simp) rfl rfl rfl (WvR.refl _) (by simp [enys_map]) (by rw [enys_length]; exact h13) rfl ?_
  refine AL.v good (d := 10) (v := .sl (.own 8) 2 (enys (x4.take ((IntKind.i64.wrap ((x4.length : Int) - q7)).toNat)))) rfl rfl rfl rfl ?_
  refine AW.seq ?_
  refine AW.rg ?_
  refine AL.v good (d := 50) (v := .ptr 4 0) rfl rfl rfl rfl ?_
  refine AL.v good (d := 51) (v := .agg [.str x1.f0, .int .i64 x1.f1.kind, .int .i64 x1.f1.i, .bool x1.f1.b, .str x1.f1.s, .sl .ro 5 (encs x1.f1.t), .int .i64 x1.f2]) rfl rfl rfl rfl ?_
  refine AL.v good (d := 52) (v := .agg [.int .i64 a3.kind, .sl .ro 2 (enys a3.of)]) rfl rfl rfl rfl ?_
  refine AL.v good (d := 53) (v := .sl (.own 7) 2 (enys (x4.drop ((IntKind.i64.wrap ((x4.length : Int) - q7)).toNat)))) rfl rfl rfl rfl ?_
  obtain ⟨q14, h15, hr⟩ := bnd1 hr
  refine AL.clW good (d := 54) (xs := [.ptr 4 0, .agg [.str x1.f0, .int .i64 x1.f1.kind, .int .i64 x1.f1.i, .bool x1.f1.b, .str x1.f1.s, .sl .ro 5 (encs x1.f1.t), .int .i64 x1.f2], .agg (tyC a3), .sl .ro 2 (enys (x4.drop ((IntKind.i64.wrap ((x4.length : Int) - q7)).toNat)))]) (rd := [(4, .box 139 [.mv 2 a0.f0.v .hdr, .mv 3 a0.f1.v .hdr, .int .i64 a0.f2.kind, .sl .ro 2 (enys a0.f2.of)]), (2, .arr 38 1 a0.f0.v (r_sl_st_Ty a0.f0.l)), (3, .arr 4 1 a0.f1.v (r_bool a0.f1.l))]) (up := [(4, .box 139 [.mv 2 q14.1.f0.v .hdr, .mv 3 q14.1.f1.v .hdr, .int .i64 q14.1.f2.kind, .sl .ro 2 (enys q14.1.f2.of)]), (2, .arr 38 1 q14.1.f0.v (r_sl_st_Ty q14.1.f0.l)), (3, .arr 4 1 q14.1.f1.v (r_bool q14.1.f1.l))]) (res := .tup [.agg [.int .i64 q14.2.1.kind, .sl .ro 2 (enys q14.2.1.of)], .bool q14.2.2.1, .int .i64 q14.2.2.2]) rfl rfl rfl rfl rfl rfl rfl (w_f108_4_2_3 _ _ _ _ _ _ h15) ⟨(Wv.refl _), (Wv.refl _), (Wv.refl _), ⟨.inr rfl, WvR.refl _, .inl rfl⟩, trivial⟩ (fmc ⟨rfl, (fmc ⟨rfl, (fmc ⟨rfl, (fun _ h => by cases h)⟩)⟩)⟩) (fmc ⟨⟨_, .head _⟩, (fmc ⟨⟨_, .tail _ (.head _)⟩, (fmc ⟨⟨_, .tail _ (.tail _ (.head _))⟩, (fun _ h => by cases h)⟩)⟩)⟩) rfl rfl ?_
  refine AL.v good (d := 49) (v := .tup [.agg [.int .i64 q14.2.1.kind, .sl .ro 2 (enys q14.2.1.of)], .bool q14.2.2.1, .int .i64 q14.2.2.2]) rfl rfl rfl rfl ?_
  refine AL.v good (d := 55) (v := .agg [.int .i64 q14.2.1.kind, .sl .ro 2 (enys q14.2.1.of)]) rfl rfl rfl rfl ?_
  refine AL.v good (d := 56) (v := .bool q14.2.2.1) rfl rfl rfl rfl ?_
  refine AL.v good (d := 57) (v := .int .i64 q14.2.2.2) rfl rfl rfl rfl ?_
  refine AL.alc good (d := 13) rfl rfl rfl rfl rfl 9 rfl ?_
  refine AL.st2 good (c2 := [.int .i64 q14.2.1.kind, .sl .ro 2 (enys q14.2.1.of)]) rfl rfl rfl rfl rfl rfl rfl rfl rfl rfl rfl rfl ?_
  refine AL.v good (d := 14) (v := .bool q14.2.2.1) rfl rfl rfl rfl ?_
  refine AL.v good (d := 15) (v := .int .i64 q14.2.2.2) rfl rfl rfl rfl ?_
  refine AW.seq ?_
  refine AW.seq ?_
  refine AW.rg ?_
  refine AL.v good (d := 58) (v := .int .i64 q14.2.2.2) rfl rfl rfl rfl ?_
  refine AL.v good (d := 59) (v := .bool (q14.2.2.2 != 0)) rfl rfl rfl rfl ?_
  refine AW.if rfl (fun h16 => ?_) (fun h16 => ?_)
  ·replace hr := cnd_t h16 hr
   refine AW.seq ?_
   refine AW.rg ?_
   refine AL.v good (d := 60) (v := .int .i64 q14.2.2.2) rfl rfl rfl rfl ?_
   refine AL.v good (d := 8) (v := .int .i64 q14.2.2.2) rfl rfl rfl rfl ?_
   refine AW.ret ?_
   obtain rfl := Option.some.inj hr
   exact RetH.w good (.inr rfl) rfl rfl (Wv.refl _) (fmc ⟨rfl, (fmc ⟨rfl, (fmc ⟨rfl, (fun _ h => by cases h)⟩)⟩)⟩)
  ·replace hr := cnd_f h16 hr
   refine AW.skip ?_
   refine AW.seq ?_
   refine AW.seq ?_
   refine AW.rg ?_
   refine AL.v good (d := 61) (v := .bool q14.2.2.1) rfl rfl rfl rfl ?_
   refine AW.if rfl (fun h17 => ?_) (fun h17 => ?_)
   ·replace hr := cnd_t h17 hr
    refine AW.rg ?_
    refine AL.v good (d := 62) (v := .sl (.own 8) 2 (enys (x4.take ((IntKind.i64.wrap ((x4.length : Int) - q7)).toNat)))) rfl rfl rfl rfl ?_
    refine AL.v good (d := 63) (v := .agg [.int .i64 q14.2.1.kind, .sl .ro 2 (enys q14.2.1.of)]) rfl rfl rfl rfl ?_
    refine AL.lit good (d := 64) (rows := [[.int .i64 q14.2.1.kind, .sl .ro 2 (enys q14.2.1.of)]]) rfl rfl rfl rfl rfl rfl rfl rfl rfl 10 rfl ?_
    obtain ⟨h18, hr⟩ := grd hr
    refine AL.aw2 good (d := 65) (rows := enys (x4.take ((IntKind.i64.wrap ((x4.length : Int) - q7)).toNat))) (news := [(tyC q14.2.1)]) (rows2 := enys ((x4.take ((IntKind.i64.wrap ((x4.length : Int) - q7)).toNat)) ++ [q14.2.1])) rfl rfl rfl rfl rfl rfl rfl rfl rfl (by simp) rfl rfl rfl ⟨⟨Wv.refl _, Wv.refl _, trivial⟩, trivial⟩ (by simp [enys_map]) (by rw [enys_length, List.length_append]; exact h18) rfl ?_
    refine AL.v good (d := 10) (v := .sl (.own 8) 2 (enys ((x4.take ((IntKind.i64.wrap ((x4.length : Int) - q7)).toNat)) ++ [q14.2.1]))) rfl rfl rfl rfl ?_
    refine AW.seq ?_
    refine AW.seq ?_
    refine AW.rg ?_
    refine AL.v good (d := 66) (v := .sl (.own 8) 2 (enys ((x4.take ((IntKind.i64.wrap ((x4.length : Int) - q7)).toNat)) ++ [q14.2.1]))) rfl rfl rfl rfl ?_
    refine AL.ln good (d := 67) (m := ((x4.take ((IntKind.i64.wrap ((x4.length : Int) - q7)).toNat)) ++ [q14.2.1]).length) rfl rfl rfl rfl rfl rfl (enys_length _) ?_
    refine AL.v good (d := 68) (v := .bool (decide ((((x4.take ((IntKind.i64.wrap ((x4.length : Int) - q7)).toNat)) ++ [q14.2.1]).length : Int) > 128))) rfl rfl rfl rfl ?_
    refine AL.vb good (d := 69) (b := (decide ((((x4.take ((IntKind.i64.wrap ((x4.length : Int) - q7)).toNat)) ++ [q14.2.1]).length : Int) > 128))) rfl rfl rfl rfl (fun g19 h20 => ?_)
    refine AL.gv good (d := 70) (c := (!g19)) (v := .ptr 6 0) (rd := []) rfl rfl (by cases g19 <;> rfl) (fun h => by cases g19 <;> first | rfl | exact absurd h (by decide)) ?_
    refine AL.gv good (d := 71) (c := (!g19)) (v := .str x1.f0) (rd := [(6, .box 132 [.str x1.f0, .int .i64 x1.f1.kind, .int .i64 x1.f1.i, .bool x1.f1.b, .str x1.f1.s, .sl .ro 5 (encs x1.f1.t), .int .i64 x1.f2])]) rfl rfl (by cases g19 <;> rfl) (fun h => by cases g19 <;> first | rfl | exact absurd h (by decide)) ?_
    refine AL.gsb good (d := 72) (c := (!g19)) (b := (x1.f0.data.toList == [114, 101, 116])) rfl rfl (by cases g19 <;> rfl) rfl (fun h => by cases g19 <;> first | rfl | exact absurd h (by decide)) (fun h => by cases g19 <;> first | rfl | exact absurd h (by decide)) rfl ?_
    refine AL.gvb good (d := 73) (c := (!g19)) (r := (x1.f0.data.toList == [114, 101, 116])) (rd := []) rfl rfl (by cases g19 <;> rfl) (fun h => by cases g19 <;> first | rfl | exact absurd h (by decide)) (fun g21 h22 => ?_)
    refine AL.gv good (d := 74) (c := ((!g19) && g21)) (v := .sl (.own 8) 2 (enys ((x4.take ((IntKind.i64.wrap ((x4.length : Int) - q7)).toNat)) ++ [q14.2.1]))) (rd := []) rfl rfl (by cases g19 <;> cases g21 <;> rfl) (fun h => by cases g19 <;> cases g21 <;> first | rfl | exact absurd h (by decide)) ?_
    refine AL.gln good (d := 75) (c := ((!g19) && g21)) (m := ((x4.take ((IntKind.i64.wrap ((x4.length : Int) - q7)).toNat)) ++ [q14.2.1]).length) rfl rfl (by cases g19 <;> cases g21 <;> rfl) rfl rfl (fun h => by cases g19 <;> cases g21 <;> first | rfl | exact absurd h (by decide)) (enys_length _) ?_
    refine AL.gv good (d := 76) (c := ((!g19) && g21)) (v := .bool (decide ((((x4.take ((IntKind.i64.wrap ((x4.length : Int) - q7)).toNat)) ++ [q14.2.1]).length : Int) > 0))) (rd := []) rfl rfl (by cases g19 <;> cases g21 <;> rfl) (fun h => by cases g19 <;> cases g21 <;> first | rfl | exact absurd h (by decide)) ?_
    refine AL.gv good (d := 77) (c := (!g19)) (v := .bool (g21 && (decide ((((x4.take ((IntKind.i64.wrap ((x4.length : Int) - q7)).toNat)) ++ [q14.2.1]).length : Int) > 0)))) (rd := []) rfl rfl (by cases g19 <;> cases g21 <;> rfl) (fun h => by cases g19 <;> cases g21 <;> first | rfl | exact absurd h (by decide)) ?_
    refine AL.v good (d := 78) (v := .bool (g19 || (g21 && (decide ((((x4.take ((IntKind.i64.wrap ((x4.length : Int) - q7)).toNat)) ++ [q14.2.1]).length : Int) > 0))))) (rd := []) rfl rfl rfl (by cases g19 <;> rfl) ?_
    subst h20 h22
    refine AW.if rfl (fun h23 => ?_) (fun h23 => ?_)
    ·replace hr := cnd_t h23 hr
     refine AW.seq ?_
     refine AW.rg ?_
     refine AL.v good (d := 8) (v := .int .i64 12) rfl rfl rfl rfl ?_
     refine AW.ret ?_
     obtain rfl := Option.some.inj hr
     exact RetH.w good (.inr rfl) rfl rfl (Wv.refl _) (fmc ⟨rfl, (fmc ⟨rfl, (fmc ⟨rfl, (fun _ h => by cases h)⟩)⟩)⟩)
    ·replace hr := cnd_f h23 hr
     refine AW.skip ?_
     refine AW.seq ?_
     refine AW.seq ?_
     refine AW.rg ?_
     refine AL.v good (d := 79) (v := .ptr 6 0) rfl rfl rfl rfl ?_
     refine AL.v good (d := 80) (v := .str x1.f0) rfl rfl rfl rfl ?_
     refine AL.sb good (d := 81) (b := (x1.f0.data.toList == [114, 101, 116])) rfl rfl rfl rfl rfl rfl rfl ?_
     refine AW.if rfl (fun h24 => ?_) (fun h24 => ?_)
     ·replace hr := cnd_t h24 hr
      refine AW.seq ?_
      refine AW.rg ?_
      refine AL.v good (d := 8) (v := .int .i64 0) rfl rfl rfl rfl ?_
      refine AW.ret ?_
      obtain rfl := Option.some.inj hr
      exact RetH.w good (.inr rfl) rfl rfl (Wv.refl _) (fmc ⟨rfl, (fmc ⟨rfl, (fmc ⟨rfl, (fun _ h => by cases h)⟩)⟩)⟩)
     ·replace hr := cnd_f h24 hr
      refine AW.skip ?_
      refine AW.seq ?_
      refine AW.seq ?_
      refine AW.rg ?_
      refine AL.v good (d := 82) (v := .ptr 6 0) rfl rfl rfl rfl ?_
      refine AL.v good (d := 83) (v := .str x1.f0) rfl rfl rfl rfl ?_
      refine AL.sb good (d := 84) (b := (x1.f0.data.toList != [106, 109, 112])) rfl rfl rfl rfl rfl rfl rfl ?_
      refine AL.vb good (d := 85) (b := (x1.f0.data.toList != [106, 109, 112])) rfl rfl rfl rfl (fun g25 h26 => ?_)
      refine AL.gv good (d := 86) (c := g25) (v := .int .i64 a2) (rd := []) rfl rfl (by cases g25 <;> rfl) (fun h => by cases g25 <;> first | rfl | exact absurd h (by decide)) ?_
      refine AL.gv good (d := 87) (c := g25) (v := .sl .ro 7 (r_st_GInst a1)) (rd := []) rfl rfl (by cases g25 <;> rfl) (fun h => by cases g25 <;> first | rfl | exact absurd h (by decide)) ?_
      refine AL.gln good (d := 88) (c := g25) (m := a1.length) rfl rfl (by cases g25 <;> rfl) rfl rfl (fun h => by cases g25 <;> first | rfl | exact absurd h (by decide)) (r_st_GInst_length _) ?_
      refine AL.gv good (d := 89) (c := g25) (v := .int .i64 (IntKind.i64.wrap ((a1.length : Int) - 1))) (rd := []) rfl rfl (by cases g25 <;> rfl) (fun h => by cases g25 <;> first | rfl | exact absurd h (by decide)) ?_
      refine AL.gv good (d := 90) (c := g25) (v := .bool (a2 == (IntKind.i64.wrap ((a1.length : Int) - 1)))) (rd := []) rfl rfl (by cases g25 <;> rfl) (fun h => by cases g25 <;> first | rfl | exact absurd h (by decide)) ?_
      refine AL.v good (d := 91) (v := .bool (g25 && (a2 == (IntKind.i64.wrap ((a1.length : Int) - 1))))) (rd := []) rfl rfl rfl (by cases g25 <;> rfl) ?_
      subst h26
      refine AW.if rfl (fun h27 => ?_) (fun h27 => ?_)
      ·replace hr := cnd_t h27 hr
       refine AW.seq ?_
       refine AW.rg ?_
       refine AL.v good (d := 8) (v := .int .i64 12) rfl rfl rfl rfl ?_
       refine AW.ret ?_
       obtain rfl := Option.some.inj hr
       exact RetH.w good (.inr rfl) rfl rfl (Wv.refl _) (fmc ⟨rfl, (fmc ⟨rfl, (fmc ⟨rfl, (fun _ h => by cases h)⟩)⟩)⟩)
      ·replace hr := cnd_f h27 hr
       refine AW.skip ?_
       refine AW.seq ?_
       refine AW.seq ?_
       refine AW.rg ?_
       refine AL.v good (d := 92) (v := .ptr 6 0) rfl rfl rfl rfl ?_
       refine AL.v good (d := 93) (v := .str x1.f0) rfl rfl rfl rfl ?_
       refine AL.sb good (d := 94) (b := (x1.f0.data.toList == [106, 109, 112])) rfl rfl rfl rfl rfl rfl rfl ?_
       refine AL.vb good (d := 95) (b := (x1.f0.data.toList == [106, 109, 112])) rfl rfl rfl rfl (fun g28 h29 => ?_)
       refine AL.gv good (d := 96) (c := (!g28)) (v := .ptr 6 0) (rd := []) rfl rfl (by cases g28 <;> rfl) (fun h => by cases g28 <;> first | rfl | exact absurd h (by decide)) ?_
       refine AL.gv good (d := 97) (c := (!g28)) (v := .str x1.f0) (rd := [(6, .box 132 [.str x1.f0, .int .i64 x1.f1.kind, .int .i64 x1.f1.i, .bool x1.f1.b, .str x1.f1.s, .sl .ro 5 (encs x1.f1.t), .int .i64 x1.f2])]) rfl rfl (by cases g28 <;> rfl) (fun h => by cases g28 <;> first | rfl | exact absurd h (by decide)) ?_
       refine AL.gsb good (d := 98) (c := (!g28)) (b := (x1.f0.data.toList == [106, 102])) rfl rfl (by cases g28 <;> rfl) rfl (fun h => by cases g28 <;> first | rfl | exact absurd h (by decide)) (fun h => by cases g28 <;> first | rfl | exact absurd h (by decide)) rfl ?_
       refine AL.v good (d := 99) (v := .bool (g28 || (x1.f0.data.toList == [106, 102]))) (rd := []) rfl rfl rfl (by cases g28 <;> rfl) ?_
       subst h29
       refine AW.if rfl (fun h30 => ?_) (fun h30 => ?_)
       ·replace hr := cnd_t h30 hr
        refine AW.seq ?_
        refine AW.rg ?_
        refine AL.v good (d := 100) (v := .ptr 4 0) rfl rfl rfl rfl ?_
        refine AL.v good (d := 101) (v := .ptr 6 6) rfl rfl rfl rfl ?_
        refine AL.v good (d := 102) (v := .int .i64 x1.f2) rfl rfl rfl rfl ?_
        refine AL.v good (d := 103) (v := .sl (.own 8) 2 (enys ((x4.take ((IntKind.i64.wrap ((x4.length : Int) - q7)).toNat)) ++ [q14.2.1]))) rfl rfl rfl rfl ?_
        obtain ⟨q31, h32, hr⟩ := bnd1 hr
        refine AL.clW good (d := 104) (xs := [.ptr 4 0, .int .i64 x1.f2, .sl .ro 2 (enys ((x4.take ((IntKind.i64.wrap ((x4.length : Int) - q7)).toNat)) ++ [q14.2.1]))]) (rd := [(4, .box 139 [.mv 2 q14.1.f0.v .hdr, .mv 3 q14.1.f1.v .hdr, .int .i64 q14.1.f2.kind, .sl .ro 2 (enys q14.1.f2.of)]), (2, .arr 38 1 q14.1.f0.v (r_sl_st_Ty q14.1.f0.l)), (3, .arr 4 1 q14.1.f1.v (r_bool q14.1.f1.l))]) (up := [(4, .box 139 [.mv 2 q31.1.f0.v .hdr, .mv 3 q31.1.f1.v .hdr, .int .i64 q31.1.f2.kind, .sl .ro 2 (enys q31.1.f2.of)]), (2, .arr 38 1 q31.1.f0.v (r_sl_st_Ty q31.1.f0.l)), (3, .arr 4 1 q31.1.f1.v (r_bool q31.1.f1.l))]) (res := .int .i64 q31.2) rfl rfl rfl rfl rfl rfl rfl (w_f109_4_2_3 _ _ _ _ _ h32) ⟨(Wv.refl _), (Wv.refl _), ⟨.inr rfl, WvR.refl _, .inl rfl⟩, trivial⟩ (fmc ⟨rfl, (fmc ⟨rfl, (fmc ⟨rfl, (fun _ h => by cases h)⟩)⟩)⟩) (fmc ⟨⟨_, .head _⟩, (fmc ⟨⟨_, .tail _ (.head _)⟩, (fmc ⟨⟨_, .tail _ (.tail _ (.head _))⟩, (fun _ h => by cases h)⟩)⟩)⟩) rfl rfl ?_
        refine AL.v good (d := 15) (v := .int .i64 q31.2) rfl rfl rfl rfl ?_
        refine AW.seq ?_
        refine AW.rg ?_
        refine AL.v good (d := 105) (v := .int .i64 q31.2) rfl rfl rfl rfl ?_
        refine AL.v good (d := 106) (v := .bool (q31.2 != 0)) rfl rfl rfl rfl ?_
        refine AW.if rfl (fun h33 => ?_) (fun h33 => ?_)
        ·replace hr := cnd_t h33 hr
         refine AW.seq ?_
         refine AW.rg ?_
         refine AL.v good (d := 107) (v := .int .i64 q31.2) rfl rfl rfl rfl ?_
         refine AL.v good (d := 8) (v := .int .i64 q31.2) rfl rfl rfl rfl ?_
         refine AW.ret ?_
         obtain rfl := Option.some.inj hr
         exact RetH.w good (.inr rfl) rfl rfl (Wv.refl _) (fmc ⟨rfl, (fmc ⟨rfl, (fmc ⟨rfl, (fun _ h => by cases h)⟩)⟩)⟩)
        ·replace hr := cnd_f h33 hr
         refine AW.skip ?_
         refine AW.seq ?_
         refine AW.seq ?_
         refine AW.rg ?_
         refine AL.v good (d := 108) (v := .ptr 6 0) rfl rfl rfl rfl ?_
         refine AL.v good (d := 109) (v := .str x1.f0) rfl rfl rfl rfl ?_
         refine AL.sb good (d := 110) (b := (x1.f0.data.toList != [106, 109, 112])) rfl rfl rfl rfl rfl rfl rfl ?_
         refine AW.if rfl (fun h34 => ?_) (fun h34 => ?_)
         ·replace hr := cnd_t h34 hr
          refine AW.seq ?_
          refine AW.rg ?_
          refine AL.v good (d := 111) (v := .ptr 4 0) rfl rfl rfl rfl ?_
          refine AL.v good (d := 112) (v := .int .i64 a2) rfl rfl rfl rfl ?_
          refine AL.v good (d := 113) (v := .int .i64 (IntKind.i64.wrap (a2 + 1))) rfl rfl rfl rfl ?_
          refine AL.v good (d := 114) (v := .sl (.own 8) 2 (enys ((x4.take ((IntKind.i64.wrap ((x4.length : Int) - q7)).toNat)) ++ [q14.2.1]))) rfl rfl rfl rfl ?_
          obtain ⟨q35, h36, hr⟩ := bnd1 hr
          refine AL.clW good (d := 115) (xs := [.ptr 4 0, .int .i64 (IntKind.i64.wrap (a2 + 1)), .sl .ro 2 (enys ((x4.take ((IntKind.i64.wrap ((x4.length : Int) - q7)).toNat)) ++ [q14.2.1]))]) (rd := [(4, .box 139 [.mv 2 q31.1.f0.v .hdr, .mv 3 q31.1.f1.v .hdr, .int .i64 q31.1.f2.kind, .sl .ro 2 (enys q31.1.f2.of)]), (2, .arr 38 1 q31.1.f0.v (r_sl_st_Ty q31.1.f0.l)), (3, .arr 4 1 q31.1.f1.v (r_bool q31.1.f1.l))]) (up := [(4, .box 139 [.mv 2 q35.1.f0.v .hdr, .mv 3 q35.1.f1.v .hdr, .int .i64 q35.1.f2.kind, .sl .ro 2 (enys q35.1.f2.of)]), (2, .arr 38 1 q35.1.f0.v (r_sl_st_Ty q35.1.f0.l)), (3, .arr 4 1 q35.1.f1.v (r_bool q35.1.f1.l))]) (res := .int .i64 q35.2) rfl rfl rfl rfl rfl rfl rfl (w_f109_4_2_3 _ _ _ _ _ h36) ⟨(Wv.refl _), (Wv.refl _), ⟨.inr rfl, WvR.refl _, .inl rfl⟩, trivial⟩ (fmc ⟨rfl, (fmc ⟨rfl, (fmc ⟨rfl, (fun _ h => by cases h)⟩)⟩)⟩) (fmc ⟨⟨_, .head _⟩, (fmc ⟨⟨_, .tail _ (.head _)⟩, (fmc ⟨⟨_, .tail _ (.tail _ (.head _))⟩, (fun _ h => by cases h)⟩)⟩)⟩) rfl rfl ?_
          refine AL.v good (d := 8) (v := .int .i64 q35.2) rfl rfl rfl rfl ?_
          refine AW.ret ?_
          obtain rfl := Option.some.inj hr
          exact RetH.w good (.inr rfl) rfl rfl (Wv.refl _) (fmc ⟨rfl, (fmc ⟨rfl, (fmc ⟨rfl, (fun _ h => by cases h)⟩)⟩)⟩)
         ·replace hr := cnd_f h34 hr
          refine AW.skip ?_
          refine AW.seq ?_
          refine AW.rg ?_
          refine AL.v good (d := 8) (v := .int .i64 0) rfl rfl rfl rfl ?_
          refine AW.ret ?_
          obtain rfl := Option.some.inj hr
          exact RetH.w good (.inr rfl) rfl rfl (Wv.refl _) (fmc ⟨rfl, (fmc ⟨rfl, (fmc ⟨rfl, (fun _ h => by cases h)⟩)⟩)⟩)
       ·replace hr := cnd_f h30 hr
        refine AW.skip ?_
        refine AW.seq ?_
        refine AW.seq ?_
        refine AW.rg ?_
        refine AL.v good (d := 108) (v := .ptr 6 0) rfl rfl rfl rfl ?_
        refine AL.v good (d := 109) (v := .str x1.f0) rfl rfl rfl rfl ?_
        refine AL.sb good (d := 110) (b := (x1.f0.data.toList != [106, 109, 112])) rfl rfl rfl rfl rfl rfl rfl ?_
        refine AW.if rfl (fun h37 => ?_) (fun h37 => ?_)
        ·replace hr := cnd_t h37 hr
         refine AW.seq ?_
         refine AW.rg ?_
         refine AL.v good (d := 111) (v := .ptr 4 0) rfl rfl rfl rfl ?_
         refine AL.v good (d := 112) (v := .int .i64 a2) rfl rfl rfl rfl ?_
         refine AL.v good (d := 113) (v := .int .i64 (IntKind.i64.wrap (a2 + 1))) rfl rfl rfl rfl ?_
         refine AL.v good (d := 114) (v := .sl (.own 8) 2 (enys ((x4.take ((IntKind.i64.wrap ((x4.length : Int) - q7)).toNat)) ++ [q14.2.1]))) rfl rfl rfl rfl ?_
         obtain ⟨q38, h39, hr⟩ := bnd1 hr
         refine AL.clW good (d := 115) (xs := [.ptr 4 0, .int .i64 (IntKind.i64.wrap (a2 + 1)), .sl .ro 2 (enys ((x4.take ((IntKind.i64.wrap ((x4.length : Int) - q7)).toNat)) ++ [q14.2.1]))]) (rd := [(4, .box 139 [.mv 2 q14.1.f0.v .hdr, .mv 3 q14.1.f1.v .hdr, .int .i64 q14.1.f2.kind, .sl .ro 2 (enys q14.1.f2.of)]), (2, .arr 38 1 q14.1.f0.v (r_sl_st_Ty q14.1.f0.l)), (3, .arr 4 1 q14.1.f1.v (r_bool q14.1.f1.l))]) (up := [(4, .box 139 [.mv 2 q38.1.f0.v .hdr, .mv 3 q38.1.f1.v .hdr, .int .i64 q38.1.f2.kind, .sl .ro 2 (enys q38.1.f2.of)]), (2, .arr 38 1 q38.1.f0.v (r_sl_st_Ty q38.1.f0.l)), (3, .arr 4 1 q38.1.f1.v (r_bool q38.1.f1.l))]) (res := .int .i64 q38.2) rfl rfl rfl rfl rfl rfl rfl (w_f109_4_2_3 _ _ _ _ _ h39) ⟨(Wv.refl _), (Wv.refl _), ⟨.inr rfl, WvR.refl _, .inl rfl⟩, trivial⟩ (fmc ⟨rfl, (fmc ⟨rfl, (fmc ⟨rfl, (fun _ h => by cases h)⟩)⟩)⟩) (fmc ⟨⟨_, .head _⟩, (fmc ⟨⟨_, .tail _ (.head _)⟩, (fmc ⟨⟨_, .tail _ (.tail _ (.head _))⟩, (fun _ h => by cases h)⟩)⟩)⟩) rfl rfl ?_
         refine AL.v good (d := 8) (v := .int .i64 q38.2) rfl rfl rfl rfl ?_
         refine AW.ret ?_
         obtain rfl := Option.some.inj hr
         exact RetH.w good (.inr rfl) rfl rfl (Wv.refl _) (fmc ⟨rfl, (fmc ⟨rfl, (fmc ⟨rfl, (fun _ h => by cases h)⟩)⟩)⟩)
        ·replace hr := cnd_f h37 hr
         refine AW.skip ?_
         refine AW.seq ?_
         refine AW.rg ?_
         refine AL.v good (d := 8) (v := .int .i64 0) rfl rfl rfl rfl ?_
         refine AW.ret ?_
         obtain rfl := Option.some.inj hr
         exact RetH.w good (.inr rfl) rfl rfl (Wv.refl _) (fmc ⟨rfl, (fmc ⟨rfl, (fmc ⟨rfl, (fun _ h => by cases h)⟩)⟩)⟩)
   ·replace hr := cnd_f h17 hr
    refine AW.skip ?_
    refine AW.seq ?_
    refine AW.seq ?_
    refine AW.rg ?_
    refine AL.v good (d := 66) (v := .sl (.own 8) 2 (enys (x4.take ((IntKind.i64.wrap ((x4.length : Int) - q7)).toNat)))) rfl rfl rfl rfl ?_
    refine AL.ln good (d := 67) (m := (x4.take ((IntKind.i64.wrap ((x4.length : Int) - q7)).toNat)).length) rfl rfl rfl rfl rfl rfl (enys_length _) ?_
    refine AL.v good (d := 68) (v := .bool (decide (((x4.take ((IntKind.i64.wrap ((x4.length : Int) - q7)).toNat)).length : Int) > 128))) rfl rfl rfl rfl ?_
    refine AL.vb good (d := 69) (b := (decide (((x4.take ((IntKind.i64.wrap ((x4.length : Int) - q7)).toNat)).length : Int) > 128))) rfl rfl rfl rfl (fun g40 h41 => ?_)
    refine AL.gv good (d := 70) (c := (!g40)) (v := .ptr 6 0) (rd := []) rfl rfl (by cases g40 <;> rfl) (fun h => by cases g40 <;> first | rfl | exact absurd h (by decide)) ?_
    refine AL.gv good (d := 71) (c := (!g40)) (v := .str x1.f0) (rd := [(6, .box 132 [.str x1.f0, .int .i64 x1.f1.kind, .int .i64 x1.f1.i, .bool x1.f1.b, .str x1.f1.s, .sl .ro 5 (encs x1.f1.t), .int .i64 x1.f2])]) rfl rfl (by cases g40 <;> rfl) (fun h => by cases g40 <;> first | rfl | exact absurd h (by decide)) ?_
    refine AL.gsb good (d := 72) (c := (!g40)) (b := (x1.f0.data.toList == [114, 101, 116])) rfl rfl (by cases g40 <;> rfl) rfl (fun h => by cases g40 <;> first | rfl | exact absurd h (by decide)) (fun h => by cases g40 <;> first | rfl | exact absurd h (by decide)) rfl ?_
    refine AL.gvb good (d := 73) (c := (!g40)) (r := (x1.f0.data.toList == [114, 101, 116])) (rd := []) rfl rfl (by cases g40 <;> rfl) (fun h => by cases g40 <;> first | rfl | exact absurd h (by decide)) (fun g42 h43 => ?_)
    refine AL.gv good (d := 74) (c := ((!g40) && g42)) (v := .sl (.own 8) 2 (enys (x4.take ((IntKind.i64.wrap ((x4.length : Int) - q7)).toNat)))) (rd := []) rfl rfl (by cases g40 <;> cases g42 <;> rfl) (fun h => by cases g40 <;> cases g42 <;> first | rfl | exact absurd h (by decide)) ?_
    refine AL.gln good (d := 75) (c := ((!g40) && g42)) (m := (x4.take ((IntKind.i64.wrap ((x4.length : Int) - q7)).toNat)).length) rfl rfl (by cases g40 <;> cases g42 <;> rfl) rfl rfl (fun h => by cases g40 <;> cases g42 <;> first | rfl | exact absurd h (by decide)) (enys_length _) ?_
    refine AL.gv good (d := 76) (c := ((!g40) && g42)) (v := .bool (decide (((x4.take ((IntKind.i64.wrap ((x4.length : Int) - q7)).toNat)).length : Int) > 0))) (rd := []) rfl rfl (by cases g40 <;> cases g42 <;> rfl) (fun h => by cases g40 <;> cases g42 <;> first | rfl | exact absurd h (by decide)) ?_
    refine AL.gv good (d := 77) (c := (!g40)) (v := .bool (g42 && (decide (((x4.take ((IntKind.i64.wrap ((x4.length : Int) - q7)).toNat)).length : Int) > 0)))) (rd := []) rfl rfl (by cases g40 <;> cases g42 <;> rfl) (fun h => by cases g40 <;> cases g42 <;> first | rfl | exact absurd h (by decide)) ?_
    refine AL.v good (d := 78) (v := .bool (g40 || (g42 && (decide (((x4.take ((IntKind.i64.wrap ((x4.length : Int) - q7)).toNat)).length : Int) > 0))))) (rd := []) rfl rfl rfl (by cases g40 <;> rfl) ?_
    subst h41 h43
    refine AW.if rfl (fun h44 => ?_) (fun h44 => ?_)
    ·replace hr := cnd_t h44 hr
     refine AW.seq ?_
     refine AW.rg ?_
     refine AL.v good (d := 8) (v := .int .i64 12) rfl rfl rfl rfl ?_
     refine AW.ret ?_
     obtain rfl := Option.some.inj hr
     exact RetH.w good (.inr rfl) rfl rfl (Wv.refl _) (fmc ⟨rfl, (fmc ⟨rfl, (fmc ⟨rfl, (fun _ h => by cases h)⟩)⟩)⟩)
    ·replace hr := cnd_f h44 hr
     refine AW.skip ?_
     refine AW.seq ?_
     refine AW.seq ?_
     refine AW.rg ?_
     refine AL.v good (d := 79) (v := .ptr 6 0) rfl rfl rfl rfl ?_
     refine AL.v good (d := 80) (v := .str x1.f0) rfl rfl rfl rfl ?_
     refine AL.sb good (d := 81) (b := (x1.f0.data.toList == [114, 101, 116])) rfl rfl rfl rfl rfl rfl rfl ?_
     refine AW.if rfl (fun h45 => ?_) (fun h45 => ?_)
     ·replace hr := cnd_t h45 hr
      refine AW.seq ?_
      refine AW.rg ?_
      refine AL.v good (d := 8) (v := .int .i64 0) rfl rfl rfl rfl ?_
      refine AW.ret ?_
      obtain rfl := Option.some.inj hr
      exact RetH.w good (.inr rfl) rfl rfl (Wv.refl _) (fmc ⟨rfl, (fmc ⟨rfl, (fmc ⟨rfl, (fun _ h => by cases h)⟩)⟩)⟩)
     ·replace hr := cnd_f h45 hr
      refine AW.skip ?_
      refine AW.seq ?_
      refine AW.seq ?_
      refine AW.rg ?_
      refine AL.v good (d := 82) (v := .ptr 6 0) rfl rfl rfl rfl ?_
      refine AL.v good (d := 83) (v := .str x1.f0) rfl rfl rfl rfl ?_
      refine AL.sb good (d := 84) (b := (x1.f0.data.toList != [106, 109, 112])) rfl rfl rfl rfl rfl rfl rfl ?_
      refine AL.vb good (d := 85) (b := (x1.f0.data.toList != [106, 109, 112])) rfl rfl rfl rfl (fun g46 h47 => ?_)
      refine AL.gv good (d := 86) (c := g46) (v := .int .i64 a2) (rd := []) rfl rfl (by cases g46 <;> rfl) (fun h => by cases g46 <;> first | rfl | exact absurd h (by decide)) ?_
      refine AL.gv good (d := 87) (c := g46) (v := .sl .ro 7 (r_st_GInst a1)) (rd := []) rfl rfl (by cases g46 <;> rfl) (fun h => by cases g46 <;> first | rfl | exact absurd h (by decide)) ?_
      refine AL.gln good (d := 88) (c := g46) (m := a1.length) rfl rfl (by cases g46 <;> rfl) rfl rfl (fun h => by cases g46 <;> first | rfl | exact absurd h (by decide)) (r_st_GInst_length _) ?_
      refine AL.gv good (d := 89) (c := g46) (v := .int .i64 (IntKind.i64.wrap ((a1.length : Int) - 1))) (rd := []) rfl rfl (by cases g46 <;> rfl) (fun h => by cases g46 <;> first | rfl | exact absurd h (by decide)) ?_
      refine AL.gv good (d := 90) (c := g46) (v := .bool (a2 == (IntKind.i64.wrap ((a1.length : Int) - 1)))) (rd := []) rfl rfl (by cases g46 <;> rfl) (fun h => by cases g46 <;> first | rfl | exact absurd h (by decide)) ?_
      refine AL.v good (d := 91) (v := .bool (g46 && (a2 == (IntKind.i64.wrap ((a1.length : Int) - 1))))) (rd := []) rfl rfl rfl (by cases g46 <;> rfl) ?_
      subst h47
      refine AW.if rfl (fun h48 => ?_) (fun h48 => ?_)
      ·replace hr := cnd_t h48 hr
       refine AW.seq ?_
       refine AW.rg ?_
       refine AL.v good (d := 8) (v := .int .i64 12) rfl rfl rfl rfl ?_
       refine AW.ret ?_
       obtain rfl := Option.some.inj hr
       exact RetH.w good (.inr rfl) rfl rfl (Wv.refl _) (fmc ⟨rfl, (fmc ⟨rfl, (fmc ⟨rfl, (fun _ h => by cases h)⟩)⟩)⟩)
      ·replace hr := cnd_f h48 hr
       refine AW.skip ?_
       refine AW.seq ?_
       refine AW.seq ?_
       refine AW.rg ?_
       refine AL.v good (d := 92) (v := .ptr 6 0) rfl rfl rfl rfl ?_
       refine AL.v good (d := 93) (v := .str x1.f0) rfl rfl rfl rfl ?_
       refine AL.sb good (d := 94) (b := (x1.f0.data.toList == [106, 109, 112])) rfl rfl rfl rfl rfl rfl rfl ?_
       refine AL.vb good (d := 95) (b := (x1.f0.data.toList == [106, 109, 112])) rfl rfl rfl rfl (fun g49 h50 => ?_)
       refine AL.gv good (d := 96) (c := (!g49)) (v := .ptr 6 0) (rd := []) rfl rfl (by cases g49 <;> rfl) (fun h => by cases g49 <;> first | rfl | exact absurd h (by decide)) ?_
       refine AL.gv good (d := 97) (c := (!g49)) (v := .str x1.f0) (rd := [(6, .box 132 [.str x1.f0, .int .i64 x1.f1.kind, .int .i64 x1.f1.i, .bool x1.f1.b, .str x1.f1.s, .sl .ro 5 (encs x1.f1.t), .int .i64 x1.f2])]) rfl rfl (by cases g49 <;> rfl) (fun h => by cases g49 <;> first | rfl | exact absurd h (by decide)) ?_
       refine AL.gsb good (d := 98) (c := (!g49)) (b := (x1.f0.data.toList == [106, 102])) rfl rfl (by cases g49 <;> rfl) rfl (fun h => by cases g49 <;> first | rfl | exact absurd h (by decide)) (fun h => by cases g49 <;> first | rfl | exact absurd h (by decide)) rfl ?_
       refine AL.v good (d := 99) (v := .bool (g49 || (x1.f0.data.toList == [106, 102]))) (rd := []) rfl rfl rfl (by cases g49 <;> rfl) ?_
       subst h50
       refine AW.if rfl (fun h51 => ?_) (fun h51 => ?_)
       ·replace hr := cnd_t h51 hr
        refine AW.seq ?_
        refine AW.rg ?_
        refine AL.v good (d := 100) (v := .ptr 4 0) rfl rfl rfl rfl ?_
        refine AL.v good (d := 101) (v := .ptr 6 6) rfl rfl rfl rfl ?_
        refine AL.v good (d := 102) (v := .int .i64 x1.f2) rfl rfl rfl rfl ?_
        refine AL.v good (d := 103) (v := .sl (.own 8) 2 (enys (x4.take ((IntKind.i64.wrap ((x4.length : Int) - q7)).toNat)))) rfl rfl rfl rfl ?_
        obtain ⟨q52, h53, hr⟩ := bnd1 hr
        refine AL.clW good (d := 104) (xs := [.ptr 4 0, .int .i64 x1.f2, .sl .ro 2 (enys (x4.take ((IntKind.i64.wrap ((x4.length : Int) - q7)).toNat)))]) (rd := [(4, .box 139 [.mv 2 q14.1.f0.v .hdr, .mv 3 q14.1.f1.v .hdr, .int .i64 q14.1.f2.kind, .sl .ro 2 (enys q14.1.f2.of)]), (2, .arr 38 1 q14.1.f0.v (r_sl_st_Ty q14.1.f0.l)), (3, .arr 4 1 q14.1.f1.v (r_bool q14.1.f1.l))]) (up := [(4, .box 139 [.mv 2 q52.1.f0.v .hdr, .mv 3 q52.1.f1.v .hdr, .int .i64 q52.1.f2.kind, .sl .ro 2 (enys q52.1.f2.of)]), (2, .arr 38 1 q52.1.f0.v (r_sl_st_Ty q52.1.f0.l)), (3, .arr 4 1 q52.1.f1.v (r_bool q52.1.f1.l))]) (res := .int .i64 q52.2) rfl rfl rfl rfl rfl rfl rfl (w_f109_4_2_3 _ _ _ _ _ h53) ⟨(Wv.refl _), (Wv.refl _), ⟨.inr rfl, WvR.refl _, .inl rfl⟩, trivial⟩ (fmc ⟨rfl, (fmc ⟨rfl, (fmc ⟨rfl, (fun _ h => by cases h)⟩)⟩)⟩) (fmc ⟨⟨_, .head _⟩, (fmc ⟨⟨_, .tail _ (.head _)⟩, (fmc ⟨⟨_, .tail _ (.tail _ (.head _))⟩, (fun _ h => by cases h)⟩)⟩)⟩) rfl rfl ?_
        refine AL.v good (d := 15) (v := .int .i64 q52.2) rfl rfl rfl rfl ?_
        refine AW.seq ?_
        refine AW.rg ?_
        refine AL.v good (d := 105) (v := .int .i64 q52.2) rfl rfl rfl rfl ?_
        refine AL.v good (d := 106) (v := .bool (q52.2 != 0)) rfl rfl rfl rfl ?_
        refine AW.if rfl (fun h54 => ?_) (fun h54 => ?_)
        ·replace hr := cnd_t h54 hr
         refine AW.seq ?_
         refine AW.rg ?_
         refine AL.v good (d := 107) (v := .int .i64 q52.2) rfl rfl rfl rfl ?_
         refine AL.v good (d := 8) (v := .int .i64 q52.2) rfl rfl rfl rfl ?_
         refine AW.ret ?_
         obtain rfl := Option.some.inj hr
         exact RetH.w good (.inr rfl) rfl rfl (Wv.refl _) (fmc ⟨rfl, (fmc ⟨rfl, (fmc ⟨rfl, (fun _ h => by cases h)⟩)⟩)⟩)
        ·replace hr := cnd_f h54 hr
         refine AW.skip ?_
         refine AW.seq ?_
         refine AW.seq ?_
         refine AW.rg ?_
         refine AL.v good (d := 108) (v := .ptr 6 0) rfl rfl rfl rfl ?_
         refine AL.v good (d := 109) (v := .str x1.f0) rfl rfl rfl rfl ?_
         refine AL.sb good (d := 110) (b := (x1.f0.data.toList != [106, 109, 112])) rfl rfl rfl rfl rfl rfl rfl ?_
         refine AW.if rfl (fun h55 => ?_) (fun h55 => ?_)
         ·replace hr := cnd_t h55 hr
          refine AW.seq ?_
          refine AW.rg ?_
          refine AL.v good (d := 111) (v := .ptr 4 0) rfl rfl rfl rfl ?_
          refine AL.v good (d := 112) (v := .int .i64 a2) rfl rfl rfl rfl ?_
          refine AL.v good (d := 113) (v := .int .i64 (IntKind.i64.wrap (a2 + 1))) rfl rfl rfl rfl ?_
          refine AL.v good (d := 114) (v := .sl (.own 8) 2 (enys (x4.take ((IntKind.i64.wrap ((x4.length : Int) - q7)).toNat)))) rfl rfl rfl rfl ?_
          obtain ⟨q56, h57, hr⟩ := bnd1 hr
          refine AL.clW good (d := 115) (xs := [.ptr 4 0, .int .i64 (IntKind.i64.wrap (a2 + 1)), .sl .ro 2 (enys (x4.take ((IntKind.i64.wrap ((x4.length : Int) - q7)).toNat)))]) (rd := [(4, .box 139 [.mv 2 q52.1.f0.v .hdr, .mv 3 q52.1.f1.v .hdr, .int .i64 q52.1.f2.kind, .sl .ro 2 (enys q52.1.f2.of)]), (2, .arr 38 1 q52.1.f0.v (r_sl_st_Ty q52.1.f0.l)), (3, .arr 4 1 q52.1.f1.v (r_bool q52.1.f1.l))]) (up := [(4, .box 139 [.mv 2 q56.1.f0.v .hdr, .mv 3 q56.1.f1.v .hdr, .int .i64 q56.1.f2.kind, .sl .ro 2 (enys q56.1.f2.of)]), (2, .arr 38 1 q56.1.f0.v (r_sl_st_Ty q56.1.f0.l)), (3, .arr 4 1 q56.1.f1.v (r_bool q56.1.f1.l))]) (res := .int .i64 q56.2) rfl rfl rfl rfl rfl rfl rfl (w_f109_4_2_3 _ _ _ _ _ h57) ⟨(Wv.refl _), (Wv.refl _), ⟨.inr rfl, WvR.refl _, .inl rfl⟩, trivial⟩ (fmc ⟨rfl, (fmc ⟨rfl, (fmc ⟨rfl, (fun _ h => by cases h)⟩)⟩)⟩) (fmc ⟨⟨_, .head _⟩, (fmc ⟨⟨_, .tail _ (.head _)⟩, (fmc ⟨⟨_, .tail _ (.tail _ (.head _))⟩, (fun _ h => by cases h)⟩)⟩)⟩) rfl rfl ?_
          refine AL.v good (d := 8) (v := .int .i64 q56.2) rfl rfl rfl rfl ?_
          refine AW.ret ?_
          obtain rfl := Option.some.inj hr
          exact RetH.w good (.inr rfl) rfl rfl (Wv.refl _) (fmc ⟨rfl, (fmc ⟨rfl, (fmc ⟨rfl, (fun _ h => by cases h)⟩)⟩)⟩)
         ·replace hr := cnd_f h55 hr
          refine AW.skip ?_
          refine AW.seq ?_
          refine AW.rg ?_
          refine AL.v good (d := 8) (v := .int .i64 0) rfl rfl rfl rfl ?_
          refine AW.ret ?_
          obtain rfl := Option.some.inj hr
          exact RetH.w good (.inr rfl) rfl rfl (Wv.refl _) (fmc ⟨rfl, (fmc ⟨rfl, (fmc ⟨rfl, (fun _ h => by cases h)⟩)⟩)⟩)
       ·replace hr := cnd_f h51 hr
        refine AW.skip ?_
        refine AW.seq ?_
        refine AW.seq ?_
        refine AW.rg ?_
        refine AL.v good (d := 108) (v := .ptr 6 0) rfl rfl rfl rfl ?_
        refine AL.v good (d := 109) (v := .str x1.f0) rfl rfl rfl rfl ?_
        refine AL.sb good (d := 110) (b := (x1.f0.data.toList != [106, 109, 112])) rfl rfl rfl rfl rfl rfl rfl ?_
        refine AW.if rfl (fun h58 => ?_) (fun h58 => ?_)
        ·replace hr := cnd_t h58 hr
         refine AW.seq ?_
         refine AW.rg ?_
         refine AL.v good (d := 111) (v := .ptr 4 0) rfl rfl rfl rfl ?_
         refine AL.v good (d := 112) (v := .int .i64 a2) rfl rfl rfl rfl ?_
         refine AL.v good (d := 113) (v := .int .i64 (IntKind.i64.wrap (a2 + 1))) rfl rfl rfl rfl ?_
         refine AL.v good (d := 114) (v := .sl (.own 8) 2 (enys (x4.take ((IntKind.i64.wrap ((x4.length : Int) - q7)).toNat)))) rfl rfl rfl rfl ?_
         obtain ⟨q59, h60, hr⟩ := bnd1 hr
         refine AL.clW good (d := 115) (xs := [.ptr 4 0, .int .i64 (IntKind.i64.wrap (a2 + 1)), .sl .ro 2 (enys (x4.take ((IntKind.i64.wrap ((x4.length : Int) - q7)).toNat)))]) (rd := [(4, .box 139 [.mv 2 q14.1.f0.v .hdr, .mv 3 q14.1.f1.v .hdr, .int .i64 q14.1.f2.kind, .sl .ro 2 (enys q14.1.f2.of)]), (2, .arr 38 1 q14.1.f0.v (r_sl_st_Ty q14.1.f0.l)), (3, .arr 4 1 q14.1.f1.v (r_bool q14.1.f1.l))]) (up := [(4, .box 139 [.mv 2 q59.1.f0.v .hdr, .mv 3 q59.1.f1.v .hdr, .int .i64 q59.1.f2.kind, .sl .ro 2 (enys q59.1.f2.of)]), (2, .arr 38 1 q59.1.f0.v (r_sl_st_Ty q59.1.f0.l)), (3, .arr 4 1 q59.1.f1.v (r_bool q59.1.f1.l))]) (res := .int .i64 q59.2) rfl rfl rfl rfl rfl rfl rfl (w_f109_4_2_3 _ _ _ _ _ h60) ⟨(Wv.refl _), (Wv.refl _), ⟨.inr rfl, WvR.refl _, .inl rfl⟩, trivial⟩ (fmc ⟨rfl, (fmc ⟨rfl, (fmc ⟨rfl, (fun _ h => by cases h)⟩)⟩)⟩) (fmc ⟨⟨_, .head _⟩, (fmc ⟨⟨_, .tail _ (.head _)⟩, (fmc ⟨⟨_, .tail _ (.tail _ (.head _))⟩, (fun _ h => by cases h)⟩)⟩)⟩) rfl rfl ?_
         refine AL.v good (d := 8) (v := .int .i64 q59.2) rfl rfl rfl rfl ?_
         refine AW.ret ?_
         obtain rfl := Option.some.inj hr
         exact RetH.w good (.inr rfl) rfl rfl (Wv.refl _) (fmc ⟨rfl, (fmc ⟨rfl, (fmc ⟨rfl, (fun _ h => by cases h)⟩)⟩)⟩)
        ·replace hr := cnd_f h58 hr
         refine AW.skip ?_
         refine AW.seq ?_
         refine AW.rg ?_
         refine AL.v good (d := 8) (v := .int .i64 0) rfl rfl rfl rfl ?_
         refine AW.ret ?_
         obtain rfl := Option.some.inj hr
         exact RetH.w good (.inr rfl) rfl rfl (Wv.refl _) (fmc ⟨rfl, (fmc ⟨rfl, (fmc ⟨rfl, (fun _ h => by cases h)⟩)⟩)⟩)

mutual
def s_f39_l1 : Nat → (List GInst) → Ty → Nat → Nat → (List (List Ty)) → Nat → (List Bool) → Int → (List Ty) → Option (Ty × Int × Int)
  | 0, _, _, _, _, _, _, _, _, _ => none
  | n + 1, a0, a1, v1_1, v1_2, v1_3, v1_4, v1_5, v1_6, v1_7 => (bif (decide ((v1_1 : Int) < (a0.length : Int))) then ((v1_5[v1_1]?).bind fun x21 => (bif (!x21) then (s_f39_l1 n a0 a1 (v1_1 + 1) v1_2 v1_3 v1_4 v1_5 v1_6 v1_7) else ((s_f71 n (Look.mk (Ar.mk v1_2 v1_3) (Ar.mk v1_4 v1_5) (Ty.mk v1_6 v1_7)) a0 (v1_1 : Int) a1).bind fun q24 => (bif (q24.2 != 0) then some ((Ty.mk 0 []), (v1_1 : Int), q24.2) else (s_f39_l1 n a0 a1 (v1_1 + 1) q24.1.f0.v q24.1.f0.l q24.1.f1.v q24.1.f1.l q24.1.f2.kind q24.1.f2.of))))) else some ((Ty.mk v1_6 v1_7), 0, 0))
end
def s_f39 (n : Nat) (a0 : List GInst) (a1 : Ty) : Option (Ty × Int × Int) :=
  ((s_f70 n a0).bind fun q1 => (bif (q1.2 != 0) then some ((Ty.mk 0 []), q1.1, q1.2) else ((s_f56 n a1).bind fun q4 => (bif (q4 != 0) then some ((Ty.mk 0 []), 0, 5) else (if a0.length ≤ 1000000 then (if a0.length ≤ 1000000 then (((List.replicate a0.length false)[0]?).bind fun x9 => (s_f39_l1 n a0 a1 0 0 (List.replicate a0.length []) 0 ((List.replicate a0.length false).set 0 true) 0 [])) else none) else none)))))

theorem w_f39 (n : Nat) (a0 : List GInst) (a1 : Ty) (r : Ty × Int × Int) (hr : s_f39 n a0 a1 = some r) : ACall Try.prog 39 [.sl .ro 7 (r_st_GInst a0), .agg (tyC a1)] (.tup [.agg (tyC r.1), .int .i64 r.2.1, .int .i64 r.2.2]) := by
 refine ACall.go [(0, .sl .ro 7 (r_st_GInst a0)), (1, .agg (tyC a1))] Try.func39 rfl Try.ntmps39 rfl rfl (by simp [pureA, pureL, pureR, inA, inL, inR, inO, idsIn, encs_pure, enys_pure, valC_pure, tyC_pure, r_st_GInst_pure, r_sl_st_Ty_pure, r_bool_pure]) ?_
 rw [s_f39] at hr
 refine AW.seq ?_
 refine AW.rg ?_
 refine AL.bx good (d := 3) (l := [.int .i64 a1.kind, .sl .ro 2 (enys a1.of)]) rfl rfl rfl rfl rfl rfl 0 rfl ?_
 refine AL.alc good (d := 4) rfl rfl rfl rfl rfl 1 rfl ?_
 refine AL.v good (d := 5) (v := .int .i64 0) rfl rfl rfl rfl ?_
 refine AL.v good (d := 6) (v := .int .i64 0) rfl rfl rfl rfl ?_
 refine AW.seq ?_
 refine AW.rg ?_
 refine AL.v good (d := 12) (v := .sl .ro 7 (r_st_GInst a0)) rfl rfl rfl rfl ?_
 obtain ⟨q1, h2, hr⟩ := bnd1 hr
 refine AL.cw good (d := 13) (xs := [.sl .ro 7 (r_st_GInst a0)]) (res := .tup [.int .i64 q1.1, .int .i64 q1.2]) rfl rfl rfl rfl rfl rfl rfl (w_f70 _ _ _ h2) ⟨(Wv.refl _), trivial⟩ (by simp [pureA, pureL, pureR, inA, inL, inR, inO, idsIn, encs_pure, enys_pure, valC_pure, tyC_pure, r_st_GInst_pure, r_sl_st_Ty_pure, r_bool_pure]) ?_
 refine AL.v good (d := 11) (v := .tup [.int .i64 q1.1, .int .i64 q1.2]) rfl rfl rfl rfl ?_
 refine AL.v good (d := 14) (v := .int .i64 q1.1) rfl rfl rfl rfl ?_
 refine AL.v good (d := 15) (v := .int .i64 q1.2) rfl rfl rfl rfl ?_
 refine AL.v good (d := 7) (v := .int .i64 q1.1) rfl rfl rfl rfl ?_
 refine AL.v good (d := 8) (v := .int .i64 q1.2) rfl rfl rfl rfl ?_
 refine AW.seq ?_
 refine AW.seq ?_
 refine AW.rg ?_
 refine AL.v good (d := 16) (v := .int .i64 q1.2) rfl rfl rfl rfl ?_
 refine AL.v good (d := 17) (v := .bool (q1.2 != 0)) rfl rfl rfl rfl ?_
 refine AW.if rfl (fun h3 => ?_) (fun h3 => ?_)
 ·replace hr := cnd_t h3 hr
  refine AW.seq ?_
  refine AW.rg ?_
  refine AL.bld good (d := 18) (l := [.int .i64 0, .sl .nil 0 []]) rfl rfl rfl rfl rfl rfl rfl ?_
  refine AL.v good (d := 19) (v := .int .i64 q1.1) rfl rfl rfl rfl ?_
  refine AL.v good (d := 20) (v := .int .i64 q1.2) rfl rfl rfl rfl ?_
  refine AL.st2 good (c2 := [.int .i64 0, .sl .nil 0 []]) rfl rfl rfl rfl rfl rfl rfl rfl rfl rfl rfl rfl ?_
  refine AL.v good (d := 5) (v := .int .i64 q1.1) rfl rfl rfl rfl ?_
  refine AL.v good (d := 6) (v := .int .i64 q1.2) rfl rfl rfl rfl ?_
  refine AW.ret ?_
  obtain rfl := Option.some.inj hr
  exact RetQ.w good (.inr rfl) rfl rfl ⟨⟨Wv.refl _, ⟨.inr rfl, trivial, .inr rfl⟩, trivial⟩, Wv.refl _, Wv.refl _, trivial⟩ (by simp [pureA, pureL, pureR, inA, inL, inR, inO, idsIn, encs_pure, enys_pure, valC_pure, tyC_pure, r_st_GInst_pure, r_sl_st_Ty_pure, r_bool_pure])
 ·replace hr := cnd_f h3 hr
  refine AW.skip ?_
  refine AW.seq ?_
  refine AW.seq ?_
  refine AW.rg ?_
  refine AL.v good (d := 21) (v := .agg [.int .i64 a1.kind, .sl .ro 2 (enys a1.of)]) rfl rfl rfl rfl ?_
  obtain ⟨q4, h5, hr⟩ := bnd1 hr
  refine AL.cw good (d := 22) (xs := [.agg (tyC a1)]) (res := .int .i64 q4) rfl rfl rfl rfl rfl rfl rfl (w_f56 _ _ _ h5) ⟨(Wv.refl _), trivial⟩ (by simp [pureA, pureL, pureR, inA, inL, inR, inO, idsIn, encs_pure, enys_pure, valC_pure, tyC_pure, r_st_GInst_pure, r_sl_st_Ty_pure, r_bool_pure]) ?_
  refine AL.v good (d := 23) (v := .bool (q4 != 0)) rfl rfl rfl rfl ?_
  refine AW.if rfl (fun h6 => ?_) (fun h6 => ?_)
  ·replace hr := cnd_t h6 hr
   refine AW.seq ?_
   refine AW.rg ?_
   refine AL.bld good (d := 24) (l := [.int .i64 0, .sl .nil 0 []]) rfl rfl rfl rfl rfl rfl rfl ?_
   refine AL.st2 good (c2 := [.int .i64 0, .sl .nil 0 []]) rfl rfl rfl rfl rfl rfl rfl rfl rfl rfl rfl rfl ?_
   refine AL.v good (d := 5) (v := .int .i64 0) rfl rfl rfl rfl ?_
   refine AL.v good (d := 6) (v := .int .i64 5) rfl rfl rfl rfl ?_
   refine AW.ret ?_
   obtain rfl := Option.some.inj hr
   exact RetQ.w good (.inr rfl) rfl rfl ⟨⟨Wv.refl _, ⟨.inr rfl, trivial, .inr rfl⟩, trivial⟩, Wv.refl _, Wv.refl _, trivial⟩ (by simp [pureA, pureL, pureR, inA, inL, inR, inO, idsIn, encs_pure, enys_pure, valC_pure, tyC_pure, r_st_GInst_pure, r_sl_st_Ty_pure, r_bool_pure])
  ·replace hr := cnd_f h6 hr
   refine AW.skip ?_
   refine AW.seq ?_
   refine AW.draw (M := fun i => false) good.wide (by kernel_rfl) ?_
   refine AL.v good (d := 25) (v := .sl .ro 7 (r_st_GInst a0)) rfl rfl rfl rfl ?_
   refine AL.ln good (d := 26) (m := a0.length) rfl rfl rfl rfl rfl rfl (r_st_GInst_length _) ?_
   obtain ⟨h7, hr⟩ := grd hr
   refine AL.mkC good (d := 27) (m := a0.length) (rows := r_sl_st_Ty (List.replicate a0.length [])) rfl rfl rfl rfl rfl rfl rfl rfl rfl rfl rfl h7 (wr_rep c_sl_st_Ty _ _ ⟨⟨.inr rfl, trivial, .inr rfl⟩, trivial⟩) 2 rfl ColN.no ?_
   refine AL.v good (d := 28) (v := .sl .ro 7 (r_st_GInst a0)) rfl rfl rfl rfl ?_
   refine AL.ln good (d := 29) (m := a0.length) rfl rfl rfl rfl rfl rfl (r_st_GInst_length _) ?_
   obtain ⟨h8, hr⟩ := grd hr
   refine AL.mkC good (d := 30) (m := a0.length) (rows := r_bool (List.replicate a0.length false)) rfl rfl rfl rfl rfl rfl rfl rfl rfl rfl rfl h8 (wr_rep c_bool _ _ ⟨Wv.refl _, trivial⟩) 3 rfl ColN.no ?_
   refine AL.bld good (d := 31) (l := [.mv 2 0 .hdr, .mv 3 0 .hdr, .int .i64 0, .sl .nil 0 []]) rfl rfl rfl rfl rfl rfl rfl ?_
   refine AL.bx good (d := 32) (l := [.mv 2 0 .hdr, .mv 3 0 .hdr, .int .i64 0, .sl .nil 0 []]) rfl rfl rfl rfl rfl rfl 4 rfl ?_
   refine AL.v good (d := 9) (v := .ptr 4 0) rfl rfl rfl rfl ?_
   refine AW.seq ?_
   refine AW.rg ?_
   refine AL.v good (d := 33) (v := .ptr 4 0) rfl rfl rfl rfl ?_
   refine AL.v good (d := 34) (v := .ptr 4 0) rfl rfl rfl rfl ?_
   refine AL.v good (d := 35) (v := .ptr 4 1) rfl rfl rfl rfl ?_
   refine AL.v good (d := 36) (v := .mv 3 0 .hdr) rfl rfl rfl rfl ?_
   obtain ⟨x9, h10, hr⟩ := bnd1 hr
   refine AL.mix good (d := 37) (q := 0) rfl rfl rfl rfl rfl rfl rfl rfl (by decide) rfl (r_bool_get h10) rfl ColN.no ?_
   refine AL.mst good (rows2 := r_bool ((List.replicate a0.length false).set 0 true)) rfl rfl rfl rfl rfl rfl rfl rfl rfl (r_bool_get h10) rfl rfl (rowF_set _ _ _ _) ColN.no ?_
   refine AW.seq ?_
   refine AW.seq ?_
   refine AW.rg ?_
   refine AL.v good (d := 10) (v := .int .i64 0) rfl rfl rfl rfl ?_
   refine AW.block ?_
   refine AW.lens 0 rfl (fun hl19 => ?_)
   replace hl19 : a0.length ≤ 9223372036854775807 := by rw [← r_st_GInst_length a0]; exact hl19
   refine AW.lpw (fun x : Nat × Nat × Nat × (List (List Ty)) × Nat × (List Bool) × Int × (List Ty) => [(0, .sl .ro 7 (r_st_GInst a0)), (3, .ptr 0 0), (4, .ptr 1 0), (9, .ptr 4 0), (10, .int .i64 (x.2.1 : Int))]) (fun x => [(0, .box 40 [.int .i64 a1.kind, .sl .ro 2 (enys a1.of)]), (1, .box 40 [.int .i64 0, .sl .nil 0 []]), (2, .arr 38 1 x.2.2.1 (r_sl_st_Ty x.2.2.2.1)), (3, .arr 4 1 x.2.2.2.2.1 (r_bool x.2.2.2.2.2.1)), (4, .box 139 [.mv 2 x.2.2.1 .hdr, .mv 3 x.2.2.2.2.1 .hdr, .int .i64 x.2.2.2.2.2.2.1, .sl .ro 2 (enys x.2.2.2.2.2.2.2)])]) (fun x => s_f39_l1 x.1 a0 a1 x.2.1 x.2.2.1 x.2.2.2.1 x.2.2.2.2.1 x.2.2.2.2.2.1 x.2.2.2.2.2.2.1 x.2.2.2.2.2.2.2 = some r ∧ x.1 ≤ n) (fun x => x.1) (n, 0, 0, (List.replicate a0.length []), 0, ((List.replicate a0.length false).set 0 true), 0, []) ⟨(fun _ h => by cases h), fmc ⟨⟨⟨_, rfl, Wv.refl _⟩, (by simp [pureA, pureL, pureR, inA, inL, inR, inO, idsIn, encs_pure, enys_pure, valC_pure, tyC_pure, r_st_GInst_pure, r_sl_st_Ty_pure, r_bool_pure])⟩, fmc ⟨⟨⟨_, rfl, Wv.refl _⟩, (by simp [pureA, pureL, pureR, inA, inL, inR, inO, idsIn, encs_pure, enys_pure, valC_pure, tyC_pure, r_st_GInst_pure, r_sl_st_Ty_pure, r_bool_pure])⟩, fmc ⟨⟨⟨_, rfl, Wv.refl _⟩, (by simp [pureA, pureL, pureR, inA, inL, inR, inO, idsIn, encs_pure, enys_pure, valC_pure, tyC_pure, r_st_GInst_pure, r_sl_st_Ty_pure, r_bool_pure])⟩, fmc ⟨⟨⟨_, rfl, Wv.refl _⟩, (by simp [pureA, pureL, pureR, inA, inL, inR, inO, idsIn, encs_pure, enys_pure, valC_pure, tyC_pure, r_st_GInst_pure, r_sl_st_Ty_pure, r_bool_pure])⟩, fmc ⟨⟨⟨_, rfl, Wv.refl _⟩, (by simp [pureA, pureL, pureR, inA, inL, inR, inO, idsIn, encs_pure, enys_pure, valC_pure, tyC_pure, r_st_GInst_pure, r_sl_st_Ty_pure, r_bool_pure])⟩, (fun _ h => by cases h)⟩⟩⟩⟩⟩, fmc ⟨⟨⟨_, rfl, ⟨rfl, ⟨Wv.refl _, Wv.refl _, trivial⟩⟩⟩, (by simp [pureA, pureL, pureR, inA, inL, inR, inO, idsIn, encs_pure, enys_pure, valC_pure, tyC_pure, r_st_GInst_pure, r_sl_st_Ty_pure, r_bool_pure])⟩, fmc ⟨⟨⟨_, rfl, ⟨rfl, ⟨Wv.refl _, Wv.refl _, trivial⟩⟩⟩, (by simp [pureA, pureL, pureR, inA, inL, inR, inO, idsIn, encs_pure, enys_pure, valC_pure, tyC_pure, r_st_GInst_pure, r_sl_st_Ty_pure, r_bool_pure])⟩, fmc ⟨⟨⟨_, rfl, ⟨rfl, rfl, rfl, WvR.refl _⟩⟩, (by simp [pureA, pureL, pureR, inA, inL, inR, inO, idsIn, encs_pure, enys_pure, valC_pure, tyC_pure, r_st_GInst_pure, r_sl_st_Ty_pure, r_bool_pure])⟩, fmc ⟨⟨⟨_, rfl, ⟨rfl, rfl, rfl, WvR.refl _⟩⟩, (by simp [pureA, pureL, pureR, inA, inL, inR, inO, idsIn, encs_pure, enys_pure, valC_pure, tyC_pure, r_st_GInst_pure, r_sl_st_Ty_pure, r_bool_pure])⟩, fmc ⟨⟨⟨_, rfl, ⟨rfl, ⟨Wv.refl _, Wv.refl _, Wv.refl _, ⟨.inr rfl, trivial, .inr rfl⟩, trivial⟩⟩⟩, (by simp [pureA, pureL, pureR, inA, inL, inR, inO, idsIn, encs_pure, enys_pure, valC_pure, tyC_pure, r_st_GInst_pure, r_sl_st_Ty_pure, r_bool_pure])⟩, (fun _ h => by cases h)⟩⟩⟩⟩⟩⟩ ⟨hr, Nat.le_refl _⟩ (fun ⟨m, v1_1, v1_2, v1_3, v1_4, v1_5, v1_6, v1_7⟩ hx => ?_)
   obtain ⟨hr, hm⟩ := hx
   try dsimp only at hr hm
   cases m with
   | zero => rw [s_f39_l1] at hr; cases hr
   | succ m =>
    rw [s_f39_l1] at hr
    show AW Try.prog _ _ _ (mkS 66 [(0, .sl .ro 7 (r_st_GInst a0)), (3, .ptr 0 0), (4, .ptr 1 0), (9, .ptr 4 0), (10, .int .i64 (v1_1 : Int))] [(0, .box 40 [.int .i64 a1.kind, .sl .ro 2 (enys a1.of)]), (1, .box 40 [.int .i64 0, .sl .nil 0 []]), (2, .arr 38 1 v1_2 (r_sl_st_Ty v1_3)), (3, .arr 4 1 v1_4 (r_bool v1_5)), (4, .box 139 [.mv 2 v1_2 .hdr, .mv 3 v1_4 .hdr, .int .i64 v1_6, .sl .ro 2 (enys v1_7)])])
    refine AW.seq ?_
    refine AW.seq ?_
    refine AW.rg ?_
    refine AL.v good (d := 38) (v := .int .i64 (v1_1 : Int)) rfl rfl rfl rfl ?_
    refine AL.v good (d := 39) (v := .sl .ro 7 (r_st_GInst a0)) rfl rfl rfl rfl ?_
    refine AL.ln good (d := 40) (m := a0.length) rfl rfl rfl rfl rfl rfl (r_st_GInst_length _) ?_
    refine AL.v good (d := 41) (v := .bool (decide ((v1_1 : Int) < (a0.length : Int)))) rfl rfl rfl rfl ?_
    refine AW.if rfl (fun h20 => ?_) (fun h20 => ?_)
    ·replace hr := cnd_t h20 hr
     refine AW.skip ?_
     refine AW.seq ?_
     refine AW.block ?_
     refine AW.seq ?_
     refine AW.seq ?_
     refine AW.rg ?_
     refine AL.v good (d := 44) (v := .ptr 4 0) rfl rfl rfl rfl ?_
     refine AL.v good (d := 45) (v := .ptr 4 0) rfl rfl rfl rfl ?_
     refine AL.v good (d := 46) (v := .ptr 4 1) rfl rfl rfl rfl ?_
     refine AL.v good (d := 47) (v := .mv 3 v1_4 .hdr) rfl rfl rfl rfl ?_
     refine AL.v good (d := 48) (v := .int .i64 (v1_1 : Int)) rfl rfl rfl rfl ?_
     obtain ⟨x21, h22, hr⟩ := bnd1 hr
     refine AL.mix good (d := 49) (q := v1_1) rfl rfl rfl rfl rfl rfl rfl rfl (Int.natCast_nonneg _) rfl (r_bool_get h22) rfl ColN.no ?_
     refine AL.mld good (d := 50) (y := .bool x21) rfl rfl rfl rfl rfl rfl rfl (r_bool_get h22) rfl rfl ColN.no ?_
     refine AL.v good (d := 51) (v := .bool (!x21)) rfl rfl rfl rfl ?_
     refine AW.if rfl (fun h23 => ?_) (fun h23 => ?_)
     ·replace hr := cnd_t h23 hr
      refine AW.exit ?_
      refine AW.rg ?_
      refine AL.v good (d := 42) (v := .int .i64 (v1_1 : Int)) rfl rfl rfl rfl ?_
      refine AL.v good (d := 43) (v := .int .i64 (IntKind.i64.wrap ((v1_1 : Int) + 1))) rfl rfl rfl rfl ?_
      refine AL.v good (d := 10) (v := .int .i64 (IntKind.i64.wrap ((v1_1 : Int) + 1))) rfl rfl rfl rfl ?_
      exact ⟨(m, (v1_1 + 1), v1_2, v1_3, v1_4, v1_5, v1_6, v1_7), _, _, rfl, ⟨(fun _ h => by cases h), fmc ⟨⟨⟨_, rfl, Wv.refl _⟩, (by simp [pureA, pureL, pureR, inA, inL, inR, inO, idsIn, encs_pure, enys_pure, valC_pure, tyC_pure, r_st_GInst_pure, r_sl_st_Ty_pure, r_bool_pure])⟩, fmc ⟨⟨⟨_, rfl, Wv.refl _⟩, (by simp [pureA, pureL, pureR, inA, inL, inR, inO, idsIn, encs_pure, enys_pure, valC_pure, tyC_pure, r_st_GInst_pure, r_sl_st_Ty_pure, r_bool_pure])⟩, fmc ⟨⟨⟨_, rfl, Wv.refl _⟩, (by simp [pureA, pureL, pureR, inA, inL, inR, inO, idsIn, encs_pure, enys_pure, valC_pure, tyC_pure, r_st_GInst_pure, r_sl_st_Ty_pure, r_bool_pure])⟩, fmc ⟨⟨⟨_, rfl, Wv.refl _⟩, (by simp [pureA, pureL, pureR, inA, inL, inR, inO, idsIn, encs_pure, enys_pure, valC_pure, tyC_pure, r_st_GInst_pure, r_sl_st_Ty_pure, r_bool_pure])⟩, fmc ⟨⟨⟨_, rfl, (wnx h20 hl19)⟩, (by simp [pureA, pureL, pureR, inA, inL, inR, inO, idsIn, encs_pure, enys_pure, valC_pure, tyC_pure, r_st_GInst_pure, r_sl_st_Ty_pure, r_bool_pure])⟩, (fun _ h => by cases h)⟩⟩⟩⟩⟩, fmc ⟨⟨⟨_, rfl, ⟨rfl, ⟨Wv.refl _, Wv.refl _, trivial⟩⟩⟩, (by simp [pureA, pureL, pureR, inA, inL, inR, inO, idsIn, encs_pure, enys_pure, valC_pure, tyC_pure, r_st_GInst_pure, r_sl_st_Ty_pure, r_bool_pure])⟩, fmc ⟨⟨⟨_, rfl, ⟨rfl, ⟨Wv.refl _, Wv.refl _, trivial⟩⟩⟩, (by simp [pureA, pureL, pureR, inA, inL, inR, inO, idsIn, encs_pure, enys_pure, valC_pure, tyC_pure, r_st_GInst_pure, r_sl_st_Ty_pure, r_bool_pure])⟩, fmc ⟨⟨⟨_, rfl, ⟨rfl, rfl, rfl, WvR.refl _⟩⟩, (by simp [pureA, pureL, pureR, inA, inL, inR, inO, idsIn, encs_pure, enys_pure, valC_pure, tyC_pure, r_st_GInst_pure, r_sl_st_Ty_pure, r_bool_pure])⟩, fmc ⟨⟨⟨_, rfl, ⟨rfl, rfl, rfl, WvR.refl _⟩⟩, (by simp [pureA, pureL, pureR, inA, inL, inR, inO, idsIn, encs_pure, enys_pure, valC_pure, tyC_pure, r_st_GInst_pure, r_sl_st_Ty_pure, r_bool_pure])⟩, fmc ⟨⟨⟨_, rfl, ⟨rfl, ⟨Wv.refl _, Wv.refl _, Wv.refl _, Wv.refl _, trivial⟩⟩⟩, (by simp [pureA, pureL, pureR, inA, inL, inR, inO, idsIn, encs_pure, enys_pure, valC_pure, tyC_pure, r_st_GInst_pure, r_sl_st_Ty_pure, r_bool_pure])⟩, (fun _ h => by cases h)⟩⟩⟩⟩⟩⟩, ⟨hr, Nat.le_of_succ_le hm⟩, Nat.lt_succ_self _⟩
     ·replace hr := cnd_f h23 hr
      refine AW.skip ?_
      refine AW.seq ?_
      refine AW.rg ?_
      refine AL.v good (d := 52) (v := .ptr 4 0) rfl rfl rfl rfl ?_
      refine AL.v good (d := 53) (v := .sl .ro 7 (r_st_GInst a0)) rfl rfl rfl rfl ?_
      refine AL.v good (d := 54) (v := .int .i64 (v1_1 : Int)) rfl rfl rfl rfl ?_
      refine AL.v good (d := 55) (v := .agg [.int .i64 a1.kind, .sl .ro 2 (enys a1.of)]) rfl rfl rfl rfl ?_
      obtain ⟨q24, h25, hr⟩ := bnd1 hr
      refine AL.clW good (d := 56) (xs := [.ptr 4 0, .sl .ro 7 (r_st_GInst a0), .int .i64 (v1_1 : Int), .agg (tyC a1)]) (rd := [(4, .box 139 [.mv 2 ((((Look.mk (Ar.mk v1_2 v1_3) (Ar.mk v1_4 v1_5) (Ty.mk v1_6 v1_7))).f0).v) .hdr, .mv 3 ((((Look.mk (Ar.mk v1_2 v1_3) (Ar.mk v1_4 v1_5) (Ty.mk v1_6 v1_7))).f1).v) .hdr, .int .i64 ((((Look.mk (Ar.mk v1_2 v1_3) (Ar.mk v1_4 v1_5) (Ty.mk v1_6 v1_7))).f2).kind), .sl .ro 2 (enys ((((Look.mk (Ar.mk v1_2 v1_3) (Ar.mk v1_4 v1_5) (Ty.mk v1_6 v1_7))).f2).of))]), (2, .arr 38 1 ((((Look.mk (Ar.mk v1_2 v1_3) (Ar.mk v1_4 v1_5) (Ty.mk v1_6 v1_7))).f0).v) (r_sl_st_Ty ((((Look.mk (Ar.mk v1_2 v1_3) (Ar.mk v1_4 v1_5) (Ty.mk v1_6 v1_7))).f0).l))), (3, .arr 4 1 ((((Look.mk (Ar.mk v1_2 v1_3) (Ar.mk v1_4 v1_5) (Ty.mk v1_6 v1_7))).f1).v) (r_bool ((((Look.mk (Ar.mk v1_2 v1_3) (Ar.mk v1_4 v1_5) (Ty.mk v1_6 v1_7))).f1).l)))]) (up := [(4, .box 139 [.mv 2 q24.1.f0.v .hdr, .mv 3 q24.1.f1.v .hdr, .int .i64 q24.1.f2.kind, .sl .ro 2 (enys q24.1.f2.of)]), (2, .arr 38 1 q24.1.f0.v (r_sl_st_Ty q24.1.f0.l)), (3, .arr 4 1 q24.1.f1.v (r_bool q24.1.f1.l))]) (res := .int .i64 q24.2) rfl rfl rfl rfl rfl rfl rfl (w_f71_4_2_3 _ _ _ _ _ _ h25) ⟨(Wv.refl _), (Wv.refl _), (Wv.refl _), (Wv.refl _), trivial⟩ (fmc ⟨rfl, (fmc ⟨rfl, (fmc ⟨rfl, (fun _ h => by cases h)⟩)⟩)⟩) (fmc ⟨⟨_, .head _⟩, (fmc ⟨⟨_, .tail _ (.head _)⟩, (fmc ⟨⟨_, .tail _ (.tail _ (.head _))⟩, (fun _ h => by cases h)⟩)⟩)⟩) rfl rfl ?_
      refine AL.v good (d := 8) (v := .int .i64 q24.2) rfl rfl rfl rfl ?_
      refine AW.seq ?_
      refine AW.rg ?_
      refine AL.v good (d := 57) (v := .int .i64 q24.2) rfl rfl rfl rfl ?_
      refine AL.v good (d := 58) (v := .bool (q24.2 != 0)) rfl rfl rfl rfl ?_
      refine AW.if rfl (fun h26 => ?_) (fun h26 => ?_)
      ·replace hr := cnd_t h26 hr
       refine AW.seq ?_
       refine AW.rg ?_
       refine AL.bld good (d := 59) (l := [.int .i64 0, .sl .nil 0 []]) rfl rfl rfl rfl rfl rfl rfl ?_
       refine AL.v good (d := 60) (v := .int .i64 (v1_1 : Int)) rfl rfl rfl rfl ?_
       refine AL.v good (d := 61) (v := .int .i64 q24.2) rfl rfl rfl rfl ?_
       refine AL.st2 good (c2 := [.int .i64 0, .sl .nil 0 []]) rfl rfl rfl rfl rfl rfl rfl rfl rfl rfl rfl rfl ?_
       refine AL.v good (d := 5) (v := .int .i64 (v1_1 : Int)) rfl rfl rfl rfl ?_
       refine AL.v good (d := 6) (v := .int .i64 q24.2) rfl rfl rfl rfl ?_
       refine AW.ret ?_
       obtain rfl := Option.some.inj hr
       exact RetQ.w good (.inr rfl) rfl rfl ⟨⟨Wv.refl _, ⟨.inr rfl, trivial, .inr rfl⟩, trivial⟩, Wv.refl _, Wv.refl _, trivial⟩ (by simp [pureA, pureL, pureR, inA, inL, inR, inO, idsIn, encs_pure, enys_pure, valC_pure, tyC_pure, r_st_GInst_pure, r_sl_st_Ty_pure, r_bool_pure])
      ·replace hr := cnd_f h26 hr
       refine AW.skip ?_
       refine AW.rg ?_
       refine AL.v good (d := 42) (v := .int .i64 (v1_1 : Int)) rfl rfl rfl rfl ?_
       refine AL.v good (d := 43) (v := .int .i64 (IntKind.i64.wrap ((v1_1 : Int) + 1))) rfl rfl rfl rfl ?_
       refine AL.v good (d := 10) (v := .int .i64 (IntKind.i64.wrap ((v1_1 : Int) + 1))) rfl rfl rfl rfl ?_
       exact ⟨(m, (v1_1 + 1), q24.1.f0.v, q24.1.f0.l, q24.1.f1.v, q24.1.f1.l, q24.1.f2.kind, q24.1.f2.of), _, _, rfl, ⟨(fun _ h => by cases h), fmc ⟨⟨⟨_, rfl, Wv.refl _⟩, (by simp [pureA, pureL, pureR, inA, inL, inR, inO, idsIn, encs_pure, enys_pure, valC_pure, tyC_pure, r_st_GInst_pure, r_sl_st_Ty_pure, r_bool_pure])⟩, fmc ⟨⟨⟨_, rfl, Wv.refl _⟩, (by simp [pureA, pureL, pureR, inA, inL, inR, inO, idsIn, encs_pure, enys_pure, valC_pure, tyC_pure, r_st_GInst_pure, r_sl_st_Ty_pure, r_bool_pure])⟩, fmc ⟨⟨⟨_, rfl, Wv.refl _⟩, (by simp [pureA, pureL, pureR, inA, inL, inR, inO, idsIn, encs_pure, enys_pure, valC_pure, tyC_pure, r_st_GInst_pure, r_sl_st_Ty_pure, r_bool_pure])⟩, fmc ⟨⟨⟨_, rfl, Wv.refl _⟩, (by simp [pureA, pureL, pureR, inA, inL, inR, inO, idsIn, encs_pure, enys_pure, valC_pure, tyC_pure, r_st_GInst_pure, r_sl_st_Ty_pure, r_bool_pure])⟩, fmc ⟨⟨⟨_, rfl, (wnx h20 hl19)⟩, (by simp [pureA, pureL, pureR, inA, inL, inR, inO, idsIn, encs_pure, enys_pure, valC_pure, tyC_pure, r_st_GInst_pure, r_sl_st_Ty_pure, r_bool_pure])⟩, (fun _ h => by cases h)⟩⟩⟩⟩⟩, fmc ⟨⟨⟨_, rfl, ⟨rfl, ⟨Wv.refl _, Wv.refl _, trivial⟩⟩⟩, (by simp [pureA, pureL, pureR, inA, inL, inR, inO, idsIn, encs_pure, enys_pure, valC_pure, tyC_pure, r_st_GInst_pure, r_sl_st_Ty_pure, r_bool_pure])⟩, fmc ⟨⟨⟨_, rfl, ⟨rfl, ⟨Wv.refl _, Wv.refl _, trivial⟩⟩⟩, (by simp [pureA, pureL, pureR, inA, inL, inR, inO, idsIn, encs_pure, enys_pure, valC_pure, tyC_pure, r_st_GInst_pure, r_sl_st_Ty_pure, r_bool_pure])⟩, fmc ⟨⟨⟨_, rfl, ⟨rfl, rfl, rfl, WvR.refl _⟩⟩, (by simp [pureA, pureL, pureR, inA, inL, inR, inO, idsIn, encs_pure, enys_pure, valC_pure, tyC_pure, r_st_GInst_pure, r_sl_st_Ty_pure, r_bool_pure])⟩, fmc ⟨⟨⟨_, rfl, ⟨rfl, rfl, rfl, WvR.refl _⟩⟩, (by simp [pureA, pureL, pureR, inA, inL, inR, inO, idsIn, encs_pure, enys_pure, valC_pure, tyC_pure, r_st_GInst_pure, r_sl_st_Ty_pure, r_bool_pure])⟩, fmc ⟨⟨⟨_, rfl, ⟨rfl, ⟨Wv.refl _, Wv.refl _, Wv.refl _, Wv.refl _, trivial⟩⟩⟩, (by simp [pureA, pureL, pureR, inA, inL, inR, inO, idsIn, encs_pure, enys_pure, valC_pure, tyC_pure, r_st_GInst_pure, r_sl_st_Ty_pure, r_bool_pure])⟩, (fun _ h => by cases h)⟩⟩⟩⟩⟩⟩, ⟨hr, Nat.le_of_succ_le hm⟩, Nat.lt_succ_self _⟩
    ·replace hr := cnd_f h20 hr
     refine AW.exit ?_
     refine AW.seq ?_
     refine AW.rg ?_
     refine AL.v good (d := 62) (v := .ptr 4 0) rfl rfl rfl rfl ?_
     refine AL.v good (d := 63) (v := .ptr 4 0) rfl rfl rfl rfl ?_
     refine AL.v good (d := 64) (v := .ptr 4 2) rfl rfl rfl rfl ?_
     refine AL.v good (d := 65) (v := .agg [.int .i64 v1_6, .sl .ro 2 (enys v1_7)]) rfl rfl rfl rfl ?_
     refine AL.st2 good (c2 := [.int .i64 v1_6, .sl .ro 2 (enys v1_7)]) rfl rfl rfl rfl rfl rfl rfl rfl rfl rfl rfl rfl ?_
     refine AL.v good (d := 5) (v := .int .i64 0) rfl rfl rfl rfl ?_
     refine AL.v good (d := 6) (v := .int .i64 0) rfl rfl rfl rfl ?_
     refine AW.ret ?_
     obtain rfl := Option.some.inj hr
     exact RetQ.w good (.inr rfl) rfl rfl (Wv.refl _) (by simp [pureA, pureL, pureR, inA, inL, inR, inO, idsIn, encs_pure, enys_pure, valC_pure, tyC_pure, r_st_GInst_pure, r_sl_st_Ty_pure, r_bool_pure])

mutual
def s_f41_l1 : Nat → (List GInst) → Val → (List Val) → Int → (List Val) → Option (List Val × Int)
  | 0, _, _, _, _, _ => none
  | n + 1, a0, a1, v1_1, v1_2, v1_3 => (bif (decide (v1_2 < (a0.length : Int))) then (if 0 ≤ v1_2 then ((a0[v1_2.toNat]?).bind fun x46 => ((s_f74 n x46).bind fun q49 => (if 0 ≤ (IntKind.i64.wrap ((v1_1.length : Int) - q49)) ∧ (IntKind.i64.wrap ((v1_1.length : Int) - q49)).toNat ≤ v1_1.length then (if (v1_1.drop ((IntKind.i64.wrap ((v1_1.length : Int) - q49)).toNat)).length ≤ 1000000 then (if 0 ≤ (IntKind.i64.wrap ((v1_1.length : Int) - q49)) ∧ (IntKind.i64.wrap ((v1_1.length : Int) - q49)).toNat ≤ v1_1.length then (if (v1_1.take ((IntKind.i64.wrap ((v1_1.length : Int) - q49)).toNat)).length ≤ 1000000 then (if 0 ≤ v1_2 then ((a0[v1_2.toNat]?).bind fun x55 => (bif (x55.f0.data.toList == [112, 117, 115, 104]) then (if 0 ≤ v1_2 then ((a0[v1_2.toNat]?).bind fun x59 => (if (v1_1.take ((IntKind.i64.wrap ((v1_1.length : Int) - q49)).toNat)).length + 1 ≤ 1000000 then (s_f41_l1 n a0 a1 ((v1_1.take ((IntKind.i64.wrap ((v1_1.length : Int) - q49)).toNat)) ++ [x59.f1]) (IntKind.i64.wrap (v1_2 + 1)) v1_3) else none)) else none) else (bif (x55.f0.data.toList == [120]) then (if (v1_1.take ((IntKind.i64.wrap ((v1_1.length : Int) - q49)).toNat)).length + 1 ≤ 1000000 then (s_f41_l1 n a0 a1 ((v1_1.take ((IntKind.i64.wrap ((v1_1.length : Int) - q49)).toNat)) ++ [a1]) (IntKind.i64.wrap (v1_2 + 1)) v1_3) else none) else (bif (x55.f0.data.toList == [106, 109, 112]) then (if 0 ≤ v1_2 then ((a0[v1_2.toNat]?).bind fun x66 => (s_f41_l1 n a0 a1 (v1_1.take ((IntKind.i64.wrap ((v1_1.length : Int) - q49)).toNat)) x66.f2 v1_3)) else none) else (bif (x55.f0.data.toList == [106, 102]) then (((v1_1.drop ((IntKind.i64.wrap ((v1_1.length : Int) - q49)).toNat))[0]?).bind fun x70 => (bif (!x70.b) then (if 0 ≤ v1_2 then ((a0[v1_2.toNat]?).bind fun x73 => (s_f41_l1 n a0 a1 (v1_1.take ((IntKind.i64.wrap ((v1_1.length : Int) - q49)).toNat)) x73.f2 v1_3)) else none) else (s_f41_l1 n a0 a1 (v1_1.take ((IntKind.i64.wrap ((v1_1.length : Int) - q49)).toNat)) (IntKind.i64.wrap (v1_2 + 1)) v1_3))) else (bif (x55.f0.data.toList == [101, 109, 105, 116]) then (if v1_3.length + (v1_1.drop ((IntKind.i64.wrap ((v1_1.length : Int) - q49)).toNat)).length ≤ 1000000 then (s_f41_l1 n a0 a1 (v1_1.take ((IntKind.i64.wrap ((v1_1.length : Int) - q49)).toNat)) (IntKind.i64.wrap (v1_2 + 1)) (v1_3 ++ (v1_1.drop ((IntKind.i64.wrap ((v1_1.length : Int) - q49)).toNat)))) else none) else (bif (x55.f0.data.toList == [114, 101, 116]) then some (v1_3, 0) else (if 0 ≤ v1_2 then ((a0[v1_2.toNat]?).bind fun x79 => (if 0 ≤ v1_2 then ((a0[v1_2.toNat]?).bind fun x82 => ((s_f63 n x79.f0 x82.f2 (v1_1.drop ((IntKind.i64.wrap ((v1_1.length : Int) - q49)).toNat))).bind fun q85 => (bif (q85.2 != 0) then some ([], q85.2) else (if (v1_1.take ((IntKind.i64.wrap ((v1_1.length : Int) - q49)).toNat)).length + 1 ≤ 1000000 then (s_f41_l1 n a0 a1 ((v1_1.take ((IntKind.i64.wrap ((v1_1.length : Int) - q49)).toNat)) ++ [q85.1]) (IntKind.i64.wrap (v1_2 + 1)) v1_3) else none)))) else none)) else none)))))))) else none) else none) else none) else none) else none))) else none) else some (v1_3, 0))
end
def s_f41 (n : Nat) (a0 : List GInst) (a1 : Val) : Option (List Val × Int) :=
  (s_f41_l1 n a0 a1 [] 0 [])

theorem w_f41 (n : Nat) (a0 : List GInst) (a1 : Val) (r : List Val × Int) (hr : s_f41 n a0 a1 = some r) : ACall Try.prog 41 [.sl .ro 7 (r_st_GInst a0), .agg (valC a1)] (.tup [.sl .ro 5 (encs r.1), .int .i64 r.2]) := by
 refine ACall.go [(0, .sl .ro 7 (r_st_GInst a0)), (1, .agg (valC a1))] Try.func41 rfl Try.ntmps41 rfl rfl (by simp [pureA, pureL, pureR, inA, inL, inR, inO, idsIn, encs_pure, valC_pure, r_st_GInst_pure]) ?_
 rw [s_f41] at hr
 refine AW.seq ?_
 refine AW.rg ?_
 refine AL.bx good (d := 3) (l := [.int .i64 a1.kind, .int .i64 a1.i, .bool a1.b, .str a1.s, .sl .ro 5 (encs a1.t)]) rfl rfl rfl rfl rfl rfl 0 rfl ?_
 refine AL.v good (d := 4) (v := .sl .nil 0 []) rfl rfl rfl rfl ?_
 refine AL.v good (d := 5) (v := .int .i64 0) rfl rfl rfl rfl ?_
 refine AW.seq ?_
 refine AW.rg ?_
 refine AL.v good (d := 6) (v := .sl .nil 0 []) rfl rfl rfl rfl ?_
 refine AW.seq ?_
 refine AW.rg ?_
 refine AL.v good (d := 7) (v := .sl .nil 0 []) rfl rfl rfl rfl ?_
 refine AW.seq ?_
 refine AW.seq ?_
 refine AW.rg ?_
 refine AL.v good (d := 8) (v := .int .i64 0) rfl rfl rfl rfl ?_
 refine AW.block ?_
 refine AW.adopt 6 rfl 1 5 33 rfl rfl ?_
 refine AW.adopt 7 rfl 2 5 33 rfl rfl ?_
 refine AW.lpw (fun x : Nat × (List Val) × Int × (List Val) => [(0, .sl .ro 7 (r_st_GInst a0)), (3, .ptr 0 0), (6, .sl (.own 1) 5 (encs x.2.1)), (7, .sl (.own 2) 5 (encs x.2.2.2)), (8, .int .i64 x.2.2.1)]) (fun x => [(0, .box 33 [.int .i64 a1.kind, .int .i64 a1.i, .bool a1.b, .str a1.s, .sl .ro 5 (encs a1.t)]), (1, .row 33 5 (encs x.2.1).length), (2, .row 33 5 (encs x.2.2.2).length)]) (fun x => s_f41_l1 x.1 a0 a1 x.2.1 x.2.2.1 x.2.2.2 = some r ∧ x.1 ≤ n) (fun x => x.1) (n, [], 0, []) ⟨(fun _ h => by cases h), fmc ⟨⟨⟨_, rfl, Wv.refl _⟩, (by simp [pureA, pureL, pureR, inA, inL, inR, inO, idsIn, encs_pure, valC_pure, r_st_GInst_pure])⟩, fmc ⟨⟨⟨_, rfl, Wv.refl _⟩, (by simp [pureA, pureL, pureR, inA, inL, inR, inO, idsIn, encs_pure, valC_pure, r_st_GInst_pure])⟩, fmc ⟨⟨⟨_, rfl, Wv.refl _⟩, (by simp [pureA, pureL, pureR, inA, inL, inR, inO, idsIn, encs_pure, valC_pure, r_st_GInst_pure])⟩, fmc ⟨⟨⟨_, rfl, Wv.refl _⟩, (by simp [pureA, pureL, pureR, inA, inL, inR, inO, idsIn, encs_pure, valC_pure, r_st_GInst_pure])⟩, fmc ⟨⟨⟨_, rfl, Wv.refl _⟩, (by simp [pureA, pureL, pureR, inA, inL, inR, inO, idsIn, encs_pure, valC_pure, r_st_GInst_pure])⟩, (fun _ h => by cases h)⟩⟩⟩⟩⟩, fmc ⟨⟨⟨_, rfl, ⟨rfl, ⟨Wv.refl _, Wv.refl _, Wv.refl _, Wv.refl _, Wv.refl _, trivial⟩⟩⟩, (by simp [pureA, pureL, pureR, inA, inL, inR, inO, idsIn, encs_pure, valC_pure, r_st_GInst_pure])⟩, fmc ⟨⟨⟨_, rfl, ⟨rfl, rfl, rfl⟩⟩, (by simp [pureA, pureL, pureR, inA, inL, inR, inO, idsIn, encs_pure, valC_pure, r_st_GInst_pure])⟩, fmc ⟨⟨⟨_, rfl, ⟨rfl, rfl, rfl⟩⟩, (by simp [pureA, pureL, pureR, inA, inL, inR, inO, idsIn, encs_pure, valC_pure, r_st_GInst_pure])⟩, (fun _ h => by cases h)⟩⟩⟩⟩ ⟨hr, Nat.le_refl _⟩ (fun ⟨m, v1_1, v1_2, v1_3⟩ hx => ?_)
 obtain ⟨hr, hm⟩ := hx
 try dsimp only at hr hm
 cases m with
 | zero => rw [s_f41_l1] at hr; cases hr
 | succ m =>
  rw [s_f41_l1] at hr
  show AW Try.prog _ _ _ (mkS 113 [(0, .sl .ro 7 (r_st_GInst a0)), (3, .ptr 0 0), (6, .sl (.own 1) 5 (encs v1_1)), (7, .sl (.own 2) 5 (encs v1_3)), (8, .int .i64 v1_2)] [(0, .box 33 [.int .i64 a1.kind, .int .i64 a1.i, .bool a1.b, .str a1.s, .sl .ro 5 (encs a1.t)]), (1, .row 33 5 (encs v1_1).length), (2, .row 33 5 (encs v1_3).length)])
  refine AW.seq ?_
  refine AW.seq ?_
  refine AW.rg ?_
  refine AL.v good (d := 14) (v := .int .i64 v1_2) rfl rfl rfl rfl ?_
  refine AL.v good (d := 15) (v := .sl .ro 7 (r_st_GInst a0)) rfl rfl rfl rfl ?_
  refine AL.ln good (d := 16) (m := a0.length) rfl rfl rfl rfl rfl rfl (r_st_GInst_length _) ?_
  refine AL.v good (d := 17) (v := .bool (decide (v1_2 < (a0.length : Int)))) rfl rfl rfl rfl ?_
  refine AW.if rfl (fun h45 => ?_) (fun h45 => ?_)
  ·replace hr := cnd_t h45 hr
   refine AW.skip ?_
   refine AW.block ?_
   refine AW.seq ?_
   refine AW.rg ?_
   refine AL.v good (d := 18) (v := .sl .ro 7 (r_st_GInst a0)) rfl rfl rfl rfl ?_
   refine AL.v good (d := 19) (v := .int .i64 v1_2) rfl rfl rfl rfl ?_
   obtain ⟨h48, hr⟩ := grd hr
   obtain ⟨x46, h47, hr⟩ := bnd1 hr
   refine AL.ix good (d := 20) (r := [.str x46.f0, .int .i64 x46.f1.kind, .int .i64 x46.f1.i, .bool x46.f1.b, .str x46.f1.s, .sl .ro 5 (encs x46.f1.t), .int .i64 x46.f2]) rfl rfl rfl rfl rfl rfl rfl h48 (r_st_GInst_get h47) ?_
   refine AL.v good (d := 21) (v := .agg [.str x46.f0, .int .i64 x46.f1.kind, .int .i64 x46.f1.i, .bool x46.f1.b, .str x46.f1.s, .sl .ro 5 (encs x46.f1.t), .int .i64 x46.f2]) rfl rfl rfl rfl ?_
   obtain ⟨q49, h50, hr⟩ := bnd1 hr
   refine AL.cw good (d := 22) (xs := [.agg [.str x46.f0, .int .i64 x46.f1.kind, .int .i64 x46.f1.i, .bool x46.f1.b, .str x46.f1.s, .sl .ro 5 (encs x46.f1.t), .int .i64 x46.f2]]) (res := .int .i64 q49) rfl rfl rfl rfl rfl rfl rfl (w_f74 _ _ _ h50) ⟨(Wv.refl _), trivial⟩ (by simp [pureA, pureL, pureR, inA, inL, inR, inO, idsIn, encs_pure, valC_pure, r_st_GInst_pure]) ?_
   refine AL.v good (d := 9) (v := .int .i64 q49) rfl rfl rfl rfl ?_
   refine AW.seq ?_
   refine AW.rg ?_
   refine AL.lit good (d := 23) (rows := []) rfl rfl rfl rfl rfl rfl rfl rfl rfl 3 rfl ?_
   refine AL.v good (d := 24) (v := .sl (.own 1) 5 (encs v1_1)) rfl rfl rfl rfl ?_
   refine AL.v good (d := 25) (v := .sl (.own 1) 5 (encs v1_1)) rfl rfl rfl rfl ?_
   refine AL.ln good (d := 26) (m := v1_1.length) rfl rfl rfl rfl rfl rfl (encs_length _) ?_
   refine AL.v good (d := 27) (v := .int .i64 q49) rfl rfl rfl rfl ?_
   refine AL.v good (d := 28) (v := .int .i64 (IntKind.i64.wrap ((v1_1.length : Int) - q49))) rfl rfl rfl rfl ?_
   obtain ⟨h51, hr⟩ := grd hr
   refine AL.sc good (d := 29) (rows := encs v1_1) (rows2 := encs (v1_1.drop ((IntKind.i64.wrap ((v1_1.length : Int) - q49)).toNat))) (m := v1_1.length) (l := (IntKind.i64.wrap ((v1_1.length : Int) - q49)).toNat) (h := v1_1.length) rfl rfl rfl rfl rfl rfl rfl (encs_length _) rfl (bndS rfl h51.1 h51.2) (by simp only [encs_map]; exact rowF_drop _ _ _) ?_
   obtain ⟨h52, hr⟩ := grd hr
   refine AL.aw2 good (d := 30) (rows := encs []) (news := encs (v1_1.drop ((IntKind.i64.wrap ((v1_1.length : Int) - q49)).toNat))) (rows2 := encs (v1_1.drop ((IntKind.i64.wrap ((v1_1.length : Int) - q49)).toNat))) rfl rfl rfl rfl rfl rfl rfl rfl rfl (by simp) rfl rfl rfl (WvR.refl _) (by simp [encs_map]) (by rw [encs_length]; exact h52) rfl ?_
   refine AL.v good (d := 10) (v := .sl (.own 3) 5 (encs (v1_1.drop ((IntKind.i64.wrap ((v1_1.length : Int) - q49)).toNat)))) rfl rfl rfl rfl ?_
   refine AW.seq ?_
   refine AW.rg ?_
   refine AL.lit good (d := 31) (rows := []) rfl rfl rfl rfl rfl rfl rfl rfl rfl 4 rfl ?_
   refine AL.v good (d := 32) (v := .sl (.own 1) 5 (encs v1_1)) rfl rfl rfl rfl ?_
   refine AL.v good (d := 33) (v := .sl (.own 1) 5 (encs v1_1)) rfl rfl rfl rfl ?_
   refine AL.ln good (d := 34) (m := v1_1.length) rfl rfl rfl rfl rfl rfl (encs_length _) ?_
   refine AL.v good (d := 35) (v := .int .i64 q49) rfl rfl rfl rfl ?_
   refine AL.v good (d := 36) (v := .int .i64 (IntKind.i64.wrap ((v1_1.length : Int) - q49))) rfl rfl rfl rfl ?_
   obtain ⟨h53, hr⟩ := grd hr
   refine AL.sc good (d := 37) (rows := encs v1_1) (rows2 := encs (v1_1.take ((IntKind.i64.wrap ((v1_1.length : Int) - q49)).toNat))) (m := v1_1.length) (l := 0) (h := (IntKind.i64.wrap ((v1_1.length : Int) - q49)).toNat) rfl rfl rfl rfl rfl rfl rfl (encs_length _) (bndS rfl h53.1 h53.2) rfl (by simp only [encs_map]; exact rowF_take _ _ _) ?_
   obtain ⟨h54, hr⟩ := grd hr
   refine AL.aw2 good (d := 38) (rows := encs []) (news := encs (v1_1.take ((IntKind.i64.wrap ((v1_1.length : Int) - q49)).toNat))) (rows2 := encs (v1_1.take ((IntKind.i64.wrap ((v1_1.length : Int) - q49)).toNat))) rfl rfl rfl rfl rfl rfl rfl rfl rfl (by simp) rfl rfl rfl (WvR.refl _) (by simp [encs_map]) (by rw [encs_length]; exact h54) rfl ?_
   refine AL.v good (d := 6) (v := .sl (.own 4) 5 (encs (v1_1.take ((IntKind.i64.wrap ((v1_1.length : Int) - q49)).toNat)))) rfl rfl rfl rfl ?_
   refine AW.ren 4 1 6 rfl rfl [(0, .sl .ro 7 (r_st_GInst a0)), (3, .ptr 0 0), (7, .sl (.own 2) 5 (encs v1_3)), (8, .int .i64 v1_2), (10, .sl (.own 3) 5 (encs (v1_1.drop ((IntKind.i64.wrap ((v1_1.length : Int) - q49)).toNat))))] [(0, .box 33 [.int .i64 a1.kind, .int .i64 a1.i, .bool a1.b, .str a1.s, .sl .ro 5 (encs a1.t)]), (2, .row 33 5 (encs v1_3).length), (3, .row 33 5 (encs (v1_1.drop ((IntKind.i64.wrap ((v1_1.length : Int) - q49)).toNat))).length)] (fmc ⟨⟨rfl, (by simp [pureA, pureL, pureR, inA, inL, inR, inO, idsIn, encs_pure, valC_pure, r_st_GInst_pure])⟩, fmc ⟨⟨rfl, (by simp [pureA, pureL, pureR, inA, inL, inR, inO, idsIn, encs_pure, valC_pure, r_st_GInst_pure])⟩, fmc ⟨⟨rfl, (by simp [pureA, pureL, pureR, inA, inL, inR, inO, idsIn, encs_pure, valC_pure, r_st_GInst_pure])⟩, fmc ⟨⟨rfl, (by simp [pureA, pureL, pureR, inA, inL, inR, inO, idsIn, encs_pure, valC_pure, r_st_GInst_pure])⟩, fmc ⟨⟨rfl, (by simp [pureA, pureL, pureR, inA, inL, inR, inO, idsIn, encs_pure, valC_pure, r_st_GInst_pure])⟩, (fun _ h => by cases h)⟩⟩⟩⟩⟩) (fmc ⟨⟨rfl, (by simp [pureA, pureL, pureR, inA, inL, inR, inO, idsIn, encs_pure, valC_pure, r_st_GInst_pure])⟩, fmc ⟨⟨rfl, (by simp [pureA, pureL, pureR, inA, inL, inR, inO, idsIn, encs_pure, valC_pure, r_st_GInst_pure])⟩, fmc ⟨⟨rfl, (by simp [pureA, pureL, pureR, inA, inL, inR, inO, idsIn, encs_pure, valC_pure, r_st_GInst_pure])⟩, (fun _ h => by cases h)⟩⟩⟩) rfl rfl (fun _ h => by cases h) (encs_pure _ _) ?_
   refine AW.seq ?_
   refine AW.rg ?_
   refine AL.v good (d := 39) (v := .int .i64 v1_2) rfl rfl rfl rfl ?_
   refine AL.v good (d := 40) (v := .int .i64 (IntKind.i64.wrap (v1_2 + 1))) rfl rfl rfl rfl ?_
   refine AL.v good (d := 11) (v := .int .i64 (IntKind.i64.wrap (v1_2 + 1))) rfl rfl rfl rfl ?_
   refine AW.seq ?_
   refine AW.seq ?_
   refine AW.rg ?_
   refine AL.v good (d := 41) (v := .sl .ro 7 (r_st_GInst a0)) rfl rfl rfl rfl ?_
   refine AL.v good (d := 42) (v := .int .i64 v1_2) rfl rfl rfl rfl ?_
   obtain ⟨h57, hr⟩ := grd hr
   obtain ⟨x55, h56, hr⟩ := bnd1 hr
   refine AL.ix good (d := 43) (r := [.str x55.f0, .int .i64 x55.f1.kind, .int .i64 x55.f1.i, .bool x55.f1.b, .str x55.f1.s, .sl .ro 5 (encs x55.f1.t), .int .i64 x55.f2]) rfl rfl rfl rfl rfl rfl rfl h57 (r_st_GInst_get h56) ?_
   refine AL.v good (d := 44) (v := .ep [.str x55.f0, .int .i64 x55.f1.kind, .int .i64 x55.f1.i, .bool x55.f1.b, .str x55.f1.s, .sl .ro 5 (encs x55.f1.t), .int .i64 x55.f2]) rfl rfl rfl rfl ?_
   refine AL.v good (d := 45) (v := .str x55.f0) rfl rfl rfl rfl ?_
   refine AW.block ?_
   refine AW.seq ?_
   refine AW.rg ?_
   refine AL.sb good (d := 69) (b := (x55.f0.data.toList == [112, 117, 115, 104])) rfl rfl rfl rfl rfl rfl rfl ?_
   refine AL.v good (d := 68) (v := .bool (x55.f0.data.toList == [112, 117, 115, 104])) rfl rfl rfl rfl ?_
   refine AW.if rfl (fun h58 => ?_) (fun h58 => ?_)
   ·replace hr := cnd_t h58 hr
    refine AW.rg ?_
    refine AL.v good (d := 70) (v := .sl (.own 1) 5 (encs (v1_1.take ((IntKind.i64.wrap ((v1_1.length : Int) - q49)).toNat)))) rfl rfl rfl rfl ?_
    refine AL.v good (d := 71) (v := .sl .ro 7 (r_st_GInst a0)) rfl rfl rfl rfl ?_
    refine AL.v good (d := 72) (v := .int .i64 v1_2) rfl rfl rfl rfl ?_
    obtain ⟨h61, hr⟩ := grd hr
    obtain ⟨x59, h60, hr⟩ := bnd1 hr
    refine AL.ix good (d := 73) (r := [.str x59.f0, .int .i64 x59.f1.kind, .int .i64 x59.f1.i, .bool x59.f1.b, .str x59.f1.s, .sl .ro 5 (encs x59.f1.t), .int .i64 x59.f2]) rfl rfl rfl rfl rfl rfl rfl h61 (r_st_GInst_get h60) ?_
    refine AL.v good (d := 74) (v := .ep [.int .i64 x59.f1.kind, .int .i64 x59.f1.i, .bool x59.f1.b, .str x59.f1.s, .sl .ro 5 (encs x59.f1.t), .int .i64 x59.f2]) rfl rfl rfl rfl ?_
    refine AL.v good (d := 75) (v := .agg [.int .i64 x59.f1.kind, .int .i64 x59.f1.i, .bool x59.f1.b, .str x59.f1.s, .sl .ro 5 (encs x59.f1.t)]) rfl rfl rfl rfl ?_
    refine AL.lit good (d := 76) (rows := [[.int .i64 x59.f1.kind, .int .i64 x59.f1.i, .bool x59.f1.b, .str x59.f1.s, .sl .ro 5 (encs x59.f1.t)]]) rfl rfl rfl rfl rfl rfl rfl rfl rfl 5 rfl ?_
    obtain ⟨h62, hr⟩ := grd hr
    refine AL.aw2 good (d := 77) (rows := encs (v1_1.take ((IntKind.i64.wrap ((v1_1.length : Int) - q49)).toNat))) (news := [(valC x59.f1)]) (rows2 := encs ((v1_1.take ((IntKind.i64.wrap ((v1_1.length : Int) - q49)).toNat)) ++ [x59.f1])) rfl rfl rfl rfl rfl rfl rfl rfl rfl (by simp) rfl rfl rfl ⟨⟨Wv.refl _, Wv.refl _, Wv.refl _, Wv.refl _, Wv.refl _, trivial⟩, trivial⟩ (by simp [encs_map]) (by rw [encs_length, List.length_append]; exact h62) rfl ?_
    refine AL.v good (d := 6) (v := .sl (.own 1) 5 (encs ((v1_1.take ((IntKind.i64.wrap ((v1_1.length : Int) - q49)).toNat)) ++ [x59.f1]))) rfl rfl rfl rfl ?_
    refine AW.rg ?_
    refine AL.v good (d := 111) (v := .int .i64 (IntKind.i64.wrap (v1_2 + 1))) rfl rfl rfl rfl ?_
    refine AL.v good (d := 8) (v := .int .i64 (IntKind.i64.wrap (v1_2 + 1))) rfl rfl rfl rfl ?_
    exact ⟨(m, ((v1_1.take ((IntKind.i64.wrap ((v1_1.length : Int) - q49)).toNat)) ++ [x59.f1]), (IntKind.i64.wrap (v1_2 + 1)), v1_3), _, _, rfl, ⟨(fun _ h => by cases h), fmc ⟨⟨⟨_, rfl, Wv.refl _⟩, (by simp [pureA, pureL, pureR, inA, inL, inR, inO, idsIn, encs_pure, valC_pure, r_st_GInst_pure])⟩, fmc ⟨⟨⟨_, rfl, Wv.refl _⟩, (by simp [pureA, pureL, pureR, inA, inL, inR, inO, idsIn, encs_pure, valC_pure, r_st_GInst_pure])⟩, fmc ⟨⟨⟨_, rfl, Wv.refl _⟩, (by simp [pureA, pureL, pureR, inA, inL, inR, inO, idsIn, encs_pure, valC_pure, r_st_GInst_pure])⟩, fmc ⟨⟨⟨_, rfl, Wv.refl _⟩, (by simp [pureA, pureL, pureR, inA, inL, inR, inO, idsIn, encs_pure, valC_pure, r_st_GInst_pure])⟩, fmc ⟨⟨⟨_, rfl, Wv.refl _⟩, (by simp [pureA, pureL, pureR, inA, inL, inR, inO, idsIn, encs_pure, valC_pure, r_st_GInst_pure])⟩, (fun _ h => by cases h)⟩⟩⟩⟩⟩, fmc ⟨⟨⟨_, rfl, ⟨rfl, ⟨Wv.refl _, Wv.refl _, Wv.refl _, Wv.refl _, Wv.refl _, trivial⟩⟩⟩, (by simp [pureA, pureL, pureR, inA, inL, inR, inO, idsIn, encs_pure, valC_pure, r_st_GInst_pure])⟩, fmc ⟨⟨⟨_, rfl, ⟨rfl, rfl, rfl⟩⟩, (by simp [pureA, pureL, pureR, inA, inL, inR, inO, idsIn, encs_pure, valC_pure, r_st_GInst_pure])⟩, fmc ⟨⟨⟨_, rfl, ⟨rfl, rfl, rfl⟩⟩, (by simp [pureA, pureL, pureR, inA, inL, inR, inO, idsIn, encs_pure, valC_pure, r_st_GInst_pure])⟩, (fun _ h => by cases h)⟩⟩⟩⟩, ⟨hr, Nat.le_of_succ_le hm⟩, Nat.lt_succ_self _⟩
   ·replace hr := cnd_f h58 hr
    refine AW.seq ?_
    refine AW.rg ?_
    refine AL.sb good (d := 79) (b := (x55.f0.data.toList == [120])) rfl rfl rfl rfl rfl rfl rfl ?_
    refine AL.v good (d := 78) (v := .bool (x55.f0.data.toList == [120])) rfl rfl rfl rfl ?_
    refine AW.if rfl (fun h63 => ?_) (fun h63 => ?_)
    ·replace hr := cnd_t h63 hr
     refine AW.rg ?_
     refine AL.v good (d := 80) (v := .sl (.own 1) 5 (encs (v1_1.take ((IntKind.i64.wrap ((v1_1.length : Int) - q49)).toNat)))) rfl rfl rfl rfl ?_
     refine AL.v good (d := 81) (v := .agg [.int .i64 a1.kind, .int .i64 a1.i, .bool a1.b, .str a1.s, .sl .ro 5 (encs a1.t)]) rfl rfl rfl rfl ?_
     refine AL.lit good (d := 82) (rows := [[.int .i64 a1.kind, .int .i64 a1.i, .bool a1.b, .str a1.s, .sl .ro 5 (encs a1.t)]]) rfl rfl rfl rfl rfl rfl rfl rfl rfl 5 rfl ?_
     obtain ⟨h64, hr⟩ := grd hr
     refine AL.aw2 good (d := 83) (rows := encs (v1_1.take ((IntKind.i64.wrap ((v1_1.length : Int) - q49)).toNat))) (news := [(valC a1)]) (rows2 := encs ((v1_1.take ((IntKind.i64.wrap ((v1_1.length : Int) - q49)).toNat)) ++ [a1])) rfl rfl rfl rfl rfl rfl rfl rfl rfl (by simp) rfl rfl rfl ⟨⟨Wv.refl _, Wv.refl _, Wv.refl _, Wv.refl _, Wv.refl _, trivial⟩, trivial⟩ (by simp [encs_map]) (by rw [encs_length, List.length_append]; exact h64) rfl ?_
     refine AL.v good (d := 6) (v := .sl (.own 1) 5 (encs ((v1_1.take ((IntKind.i64.wrap ((v1_1.length : Int) - q49)).toNat)) ++ [a1]))) rfl rfl rfl rfl ?_
     refine AW.rg ?_
     refine AL.v good (d := 111) (v := .int .i64 (IntKind.i64.wrap (v1_2 + 1))) rfl rfl rfl rfl ?_
     refine AL.v good (d := 8) (v := .int .i64 (IntKind.i64.wrap (v1_2 + 1))) rfl rfl rfl rfl ?_
     exact ⟨(m, ((v1_1.take ((IntKind.i64.wrap ((v1_1.length : Int) - q49)).toNat)) ++ [a1]), (IntKind.i64.wrap (v1_2 + 1)), v1_3), _, _, rfl, ⟨(fun _ h => by cases h), fmc ⟨⟨⟨_, rfl, Wv.refl _⟩, (by simp [pureA, pureL, pureR, inA, inL, inR, inO, idsIn, encs_pure, valC_pure, r_st_GInst_pure])⟩, fmc ⟨⟨⟨_, rfl, Wv.refl _⟩, (by simp [pureA, pureL, pureR, inA, inL, inR, inO, idsIn, encs_pure, valC_pure, r_st_GInst_pure])⟩, fmc ⟨⟨⟨_, rfl, Wv.refl _⟩, (by simp [pureA, pureL, pureR, inA, inL, inR, inO, idsIn, encs_pure, valC_pure, r_st_GInst_pure])⟩, fmc ⟨⟨⟨_, rfl, Wv.refl _⟩, (by simp [pureA, pureL, pureR, inA, inL, inR, inO, idsIn, encs_pure, valC_pure, r_st_GInst_pure])⟩, fmc ⟨⟨⟨_, rfl, Wv.refl _⟩, (by simp [pureA, pureL, pureR, inA, inL, inR, inO, idsIn, encs_pure, valC_pure, r_st_GInst_pure])⟩, (fun _ h => by cases h)⟩⟩⟩⟩⟩, fmc ⟨⟨⟨_, rfl, ⟨rfl, ⟨Wv.refl _, Wv.refl _, Wv.refl _, Wv.refl _, Wv.refl _, trivial⟩⟩⟩, (by simp [pureA, pureL, pureR, inA, inL, inR, inO, idsIn, encs_pure, valC_pure, r_st_GInst_pure])⟩, fmc ⟨⟨⟨_, rfl, ⟨rfl, rfl, rfl⟩⟩, (by simp [pureA, pureL, pureR, inA, inL, inR, inO, idsIn, encs_pure, valC_pure, r_st_GInst_pure])⟩, fmc ⟨⟨⟨_, rfl, ⟨rfl, rfl, rfl⟩⟩, (by simp [pureA, pureL, pureR, inA, inL, inR, inO, idsIn, encs_pure, valC_pure, r_st_GInst_pure])⟩, (fun _ h => by cases h)⟩⟩⟩⟩, ⟨hr, Nat.le_of_succ_le hm⟩, Nat.lt_succ_self _⟩
    ·replace hr := cnd_f h63 hr
     refine AW.seq ?_
     refine AW.rg ?_
     refine AL.sb good (d := 85) (b := (x55.f0.data.toList == [106, 109, 112])) rfl rfl rfl rfl rfl rfl rfl ?_
     refine AL.v good (d := 84) (v := .bool (x55.f0.data.toList == [106, 109, 112])) rfl rfl rfl rfl ?_
     refine AW.if rfl (fun h65 => ?_) (fun h65 => ?_)
     ·replace hr := cnd_t h65 hr
      refine AW.rg ?_
      refine AL.v good (d := 86) (v := .sl .ro 7 (r_st_GInst a0)) rfl rfl rfl rfl ?_
      refine AL.v good (d := 87) (v := .int .i64 v1_2) rfl rfl rfl rfl ?_
      obtain ⟨h68, hr⟩ := grd hr
      obtain ⟨x66, h67, hr⟩ := bnd1 hr
      refine AL.ix good (d := 88) (r := [.str x66.f0, .int .i64 x66.f1.kind, .int .i64 x66.f1.i, .bool x66.f1.b, .str x66.f1.s, .sl .ro 5 (encs x66.f1.t), .int .i64 x66.f2]) rfl rfl rfl rfl rfl rfl rfl h68 (r_st_GInst_get h67) ?_
      refine AL.v good (d := 89) (v := .ep [.int .i64 x66.f2]) rfl rfl rfl rfl ?_
      refine AL.v good (d := 90) (v := .int .i64 x66.f2) rfl rfl rfl rfl ?_
      refine AL.v good (d := 11) (v := .int .i64 x66.f2) rfl rfl rfl rfl ?_
      refine AW.rg ?_
      refine AL.v good (d := 111) (v := .int .i64 x66.f2) rfl rfl rfl rfl ?_
      refine AL.v good (d := 8) (v := .int .i64 x66.f2) rfl rfl rfl rfl ?_
      exact ⟨(m, (v1_1.take ((IntKind.i64.wrap ((v1_1.length : Int) - q49)).toNat)), x66.f2, v1_3), _, _, rfl, ⟨(fun _ h => by cases h), fmc ⟨⟨⟨_, rfl, Wv.refl _⟩, (by simp [pureA, pureL, pureR, inA, inL, inR, inO, idsIn, encs_pure, valC_pure, r_st_GInst_pure])⟩, fmc ⟨⟨⟨_, rfl, Wv.refl _⟩, (by simp [pureA, pureL, pureR, inA, inL, inR, inO, idsIn, encs_pure, valC_pure, r_st_GInst_pure])⟩, fmc ⟨⟨⟨_, rfl, Wv.refl _⟩, (by simp [pureA, pureL, pureR, inA, inL, inR, inO, idsIn, encs_pure, valC_pure, r_st_GInst_pure])⟩, fmc ⟨⟨⟨_, rfl, Wv.refl _⟩, (by simp [pureA, pureL, pureR, inA, inL, inR, inO, idsIn, encs_pure, valC_pure, r_st_GInst_pure])⟩, fmc ⟨⟨⟨_, rfl, Wv.refl _⟩, (by simp [pureA, pureL, pureR, inA, inL, inR, inO, idsIn, encs_pure, valC_pure, r_st_GInst_pure])⟩, (fun _ h => by cases h)⟩⟩⟩⟩⟩, fmc ⟨⟨⟨_, rfl, ⟨rfl, ⟨Wv.refl _, Wv.refl _, Wv.refl _, Wv.refl _, Wv.refl _, trivial⟩⟩⟩, (by simp [pureA, pureL, pureR, inA, inL, inR, inO, idsIn, encs_pure, valC_pure, r_st_GInst_pure])⟩, fmc ⟨⟨⟨_, rfl, ⟨rfl, rfl, rfl⟩⟩, (by simp [pureA, pureL, pureR, inA, inL, inR, inO, idsIn, encs_pure, valC_pure, r_st_GInst_pure])⟩, fmc ⟨⟨⟨_, rfl, ⟨rfl, rfl, rfl⟩⟩, (by simp [pureA, pureL, pureR, inA, inL, inR, inO, idsIn, encs_pure, valC_pure, r_st_GInst_pure])⟩, (fun _ h => by cases h)⟩⟩⟩⟩, ⟨hr, Nat.le_of_succ_le hm⟩, Nat.lt_succ_self _⟩
     ·replace hr := cnd_f h65 hr
      refine AW.seq ?_
      refine AW.rg ?_
      refine AL.sb good (d := 92) (b := (x55.f0.data.toList == [106, 102])) rfl rfl rfl rfl rfl rfl rfl ?_
      refine AL.v good (d := 91) (v := .bool (x55.f0.data.toList == [106, 102])) rfl rfl rfl rfl ?_
      refine AW.if rfl (fun h69 => ?_) (fun h69 => ?_)
      ·replace hr := cnd_t h69 hr
       refine AW.seq ?_
       refine AW.rg ?_
       refine AL.v good (d := 93) (v := .sl (.own 3) 5 (encs (v1_1.drop ((IntKind.i64.wrap ((v1_1.length : Int) - q49)).toNat)))) rfl rfl rfl rfl ?_
       obtain ⟨x70, h71, hr⟩ := bnd1 hr
       refine AL.ix good (d := 94) (r := [.int .i64 x70.kind, .int .i64 x70.i, .bool x70.b, .str x70.s, .sl .ro 5 (encs x70.t)]) rfl rfl rfl rfl rfl rfl rfl (by decide) (encs_get h71) ?_
       refine AL.v good (d := 95) (v := .ep [.bool x70.b, .str x70.s, .sl .ro 5 (encs x70.t)]) rfl rfl rfl rfl ?_
       refine AL.v good (d := 96) (v := .bool x70.b) rfl rfl rfl rfl ?_
       refine AL.v good (d := 97) (v := .bool (!x70.b)) rfl rfl rfl rfl ?_
       refine AW.if rfl (fun h72 => ?_) (fun h72 => ?_)
       ·replace hr := cnd_t h72 hr
        refine AW.rg ?_
        refine AL.v good (d := 98) (v := .sl .ro 7 (r_st_GInst a0)) rfl rfl rfl rfl ?_
        refine AL.v good (d := 99) (v := .int .i64 v1_2) rfl rfl rfl rfl ?_
        obtain ⟨h75, hr⟩ := grd hr
        obtain ⟨x73, h74, hr⟩ := bnd1 hr
        refine AL.ix good (d := 100) (r := [.str x73.f0, .int .i64 x73.f1.kind, .int .i64 x73.f1.i, .bool x73.f1.b, .str x73.f1.s, .sl .ro 5 (encs x73.f1.t), .int .i64 x73.f2]) rfl rfl rfl rfl rfl rfl rfl h75 (r_st_GInst_get h74) ?_
        refine AL.v good (d := 101) (v := .ep [.int .i64 x73.f2]) rfl rfl rfl rfl ?_
        refine AL.v good (d := 102) (v := .int .i64 x73.f2) rfl rfl rfl rfl ?_
        refine AL.v good (d := 11) (v := .int .i64 x73.f2) rfl rfl rfl rfl ?_
        refine AW.rg ?_
        refine AL.v good (d := 111) (v := .int .i64 x73.f2) rfl rfl rfl rfl ?_
        refine AL.v good (d := 8) (v := .int .i64 x73.f2) rfl rfl rfl rfl ?_
        exact ⟨(m, (v1_1.take ((IntKind.i64.wrap ((v1_1.length : Int) - q49)).toNat)), x73.f2, v1_3), _, _, rfl, ⟨(fun _ h => by cases h), fmc ⟨⟨⟨_, rfl, Wv.refl _⟩, (by simp [pureA, pureL, pureR, inA, inL, inR, inO, idsIn, encs_pure, valC_pure, r_st_GInst_pure])⟩, fmc ⟨⟨⟨_, rfl, Wv.refl _⟩, (by simp [pureA, pureL, pureR, inA, inL, inR, inO, idsIn, encs_pure, valC_pure, r_st_GInst_pure])⟩, fmc ⟨⟨⟨_, rfl, Wv.refl _⟩, (by simp [pureA, pureL, pureR, inA, inL, inR, inO, idsIn, encs_pure, valC_pure, r_st_GInst_pure])⟩, fmc ⟨⟨⟨_, rfl, Wv.refl _⟩, (by simp [pureA, pureL, pureR, inA, inL, inR, inO, idsIn, encs_pure, valC_pure, r_st_GInst_pure])⟩, fmc ⟨⟨⟨_, rfl, Wv.refl _⟩, (by simp [pureA, pureL, pureR, inA, inL, inR, inO, idsIn, encs_pure, valC_pure, r_st_GInst_pure])⟩, (fun _ h => by cases h)⟩⟩⟩⟩⟩, fmc ⟨⟨⟨_, rfl, ⟨rfl, ⟨Wv.refl _, Wv.refl _, Wv.refl _, Wv.refl _, Wv.refl _, trivial⟩⟩⟩, (by simp [pureA, pureL, pureR, inA, inL, inR, inO, idsIn, encs_pure, valC_pure, r_st_GInst_pure])⟩, fmc ⟨⟨⟨_, rfl, ⟨rfl, rfl, rfl⟩⟩, (by simp [pureA, pureL, pureR, inA, inL, inR, inO, idsIn, encs_pure, valC_pure, r_st_GInst_pure])⟩, fmc ⟨⟨⟨_, rfl, ⟨rfl, rfl, rfl⟩⟩, (by simp [pureA, pureL, pureR, inA, inL, inR, inO, idsIn, encs_pure, valC_pure, r_st_GInst_pure])⟩, (fun _ h => by cases h)⟩⟩⟩⟩, ⟨hr, Nat.le_of_succ_le hm⟩, Nat.lt_succ_self _⟩
       ·replace hr := cnd_f h72 hr
        refine AW.skip ?_
        refine AW.rg ?_
        refine AL.v good (d := 111) (v := .int .i64 (IntKind.i64.wrap (v1_2 + 1))) rfl rfl rfl rfl ?_
        refine AL.v good (d := 8) (v := .int .i64 (IntKind.i64.wrap (v1_2 + 1))) rfl rfl rfl rfl ?_
        exact ⟨(m, (v1_1.take ((IntKind.i64.wrap ((v1_1.length : Int) - q49)).toNat)), (IntKind.i64.wrap (v1_2 + 1)), v1_3), _, _, rfl, ⟨(fun _ h => by cases h), fmc ⟨⟨⟨_, rfl, Wv.refl _⟩, (by simp [pureA, pureL, pureR, inA, inL, inR, inO, idsIn, encs_pure, valC_pure, r_st_GInst_pure])⟩, fmc ⟨⟨⟨_, rfl, Wv.refl _⟩, (by simp [pureA, pureL, pureR, inA, inL, inR, inO, idsIn, encs_pure, valC_pure, r_st_GInst_pure])⟩, fmc ⟨⟨⟨_, rfl, Wv.refl _⟩, (by simp [pureA, pureL, pureR, inA, inL, inR, inO, idsIn, encs_pure, valC_pure, r_st_GInst_pure])⟩, fmc ⟨⟨⟨_, rfl, Wv.refl _⟩, (by simp [pureA, pureL, pureR, inA, inL, inR, inO, idsIn, encs_pure, valC_pure, r_st_GInst_pure])⟩, fmc ⟨⟨⟨_, rfl, Wv.refl _⟩, (by simp [pureA, pureL, pureR, inA, inL, inR, inO, idsIn, encs_pure, valC_pure, r_st_GInst_pure])⟩, (fun _ h => by cases h)⟩⟩⟩⟩⟩, fmc ⟨⟨⟨_, rfl, ⟨rfl, ⟨Wv.refl _, Wv.refl _, Wv.refl _, Wv.refl _, Wv.refl _, trivial⟩⟩⟩, (by simp [pureA, pureL, pureR, inA, inL, inR, inO, idsIn, encs_pure, valC_pure, r_st_GInst_pure])⟩, fmc ⟨⟨⟨_, rfl, ⟨rfl, rfl, rfl⟩⟩, (by simp [pureA, pureL, pureR, inA, inL, inR, inO, idsIn, encs_pure, valC_pure, r_st_GInst_pure])⟩, fmc ⟨⟨⟨_, rfl, ⟨rfl, rfl, rfl⟩⟩, (by simp [pureA, pureL, pureR, inA, inL, inR, inO, idsIn, encs_pure, valC_pure, r_st_GInst_pure])⟩, (fun _ h => by cases h)⟩⟩⟩⟩, ⟨hr, Nat.le_of_succ_le hm⟩, Nat.lt_succ_self _⟩
      ·replace hr := cnd_f h69 hr
       refine AW.seq ?_
       refine AW.rg ?_
       refine AL.sb good (d := 104) (b := (x55.f0.data.toList == [101, 109, 105, 116])) rfl rfl rfl rfl rfl rfl rfl ?_
       refine AL.v good (d := 103) (v := .bool (x55.f0.data.toList == [101, 109, 105, 116])) rfl rfl rfl rfl ?_
       refine AW.if rfl (fun h76 => ?_) (fun h76 => ?_)
       ·replace hr := cnd_t h76 hr
        refine AW.rg ?_
        refine AL.v good (d := 105) (v := .sl (.own 2) 5 (encs v1_3)) rfl rfl rfl rfl ?_
        refine AL.v good (d := 106) (v := .sl (.own 3) 5 (encs (v1_1.drop ((IntKind.i64.wrap ((v1_1.length : Int) - q49)).toNat)))) rfl rfl rfl rfl ?_
        obtain ⟨h77, hr⟩ := grd hr
        refine AL.aw2 good (d := 107) (rows := encs v1_3) (news := encs (v1_1.drop ((IntKind.i64.wrap ((v1_1.length : Int) - q49)).toNat))) (rows2 := encs (v1_3 ++ (v1_1.drop ((IntKind.i64.wrap ((v1_1.length : Int) - q49)).toNat)))) rfl rfl rfl rfl rfl rfl rfl rfl rfl (by simp) rfl rfl rfl (WvR.refl _) (by simp [encs_map]) (by rw [encs_length, List.length_append]; exact h77) rfl ?_
        refine AL.v good (d := 7) (v := .sl (.own 2) 5 (encs (v1_3 ++ (v1_1.drop ((IntKind.i64.wrap ((v1_1.length : Int) - q49)).toNat))))) rfl rfl rfl rfl ?_
        refine AW.rg ?_
        refine AL.v good (d := 111) (v := .int .i64 (IntKind.i64.wrap (v1_2 + 1))) rfl rfl rfl rfl ?_
        refine AL.v good (d := 8) (v := .int .i64 (IntKind.i64.wrap (v1_2 + 1))) rfl rfl rfl rfl ?_
        exact ⟨(m, (v1_1.take ((IntKind.i64.wrap ((v1_1.length : Int) - q49)).toNat)), (IntKind.i64.wrap (v1_2 + 1)), (v1_3 ++ (v1_1.drop ((IntKind.i64.wrap ((v1_1.length : Int) - q49)).toNat)))), _, _, rfl, ⟨(fun _ h => by cases h), fmc ⟨⟨⟨_, rfl, Wv.refl _⟩, (by simp [pureA, pureL, pureR, inA, inL, inR, inO, idsIn, encs_pure, valC_pure, r_st_GInst_pure])⟩, fmc ⟨⟨⟨_, rfl, Wv.refl _⟩, (by simp [pureA, pureL, pureR, inA, inL, inR, inO, idsIn, encs_pure, valC_pure, r_st_GInst_pure])⟩, fmc ⟨⟨⟨_, rfl, Wv.refl _⟩, (by simp [pureA, pureL, pureR, inA, inL, inR, inO, idsIn, encs_pure, valC_pure, r_st_GInst_pure])⟩, fmc ⟨⟨⟨_, rfl, Wv.refl _⟩, (by simp [pureA, pureL, pureR, inA, inL, inR, inO, idsIn, encs_pure, valC_pure, r_st_GInst_pure])⟩, fmc ⟨⟨⟨_, rfl, Wv.refl _⟩, (by simp [pureA, pureL, pureR, inA, inL, inR, inO, idsIn, encs_pure, valC_pure, r_st_GInst_pure])⟩, (fun _ h => by cases h)⟩⟩⟩⟩⟩, fmc ⟨⟨⟨_, rfl, ⟨rfl, ⟨Wv.refl _, Wv.refl _, Wv.refl _, Wv.refl _, Wv.refl _, trivial⟩⟩⟩, (by simp [pureA, pureL, pureR, inA, inL, inR, inO, idsIn, encs_pure, valC_pure, r_st_GInst_pure])⟩, fmc ⟨⟨⟨_, rfl, ⟨rfl, rfl, rfl⟩⟩, (by simp [pureA, pureL, pureR, inA, inL, inR, inO, idsIn, encs_pure, valC_pure, r_st_GInst_pure])⟩, fmc ⟨⟨⟨_, rfl, ⟨rfl, rfl, rfl⟩⟩, (by simp [pureA, pureL, pureR, inA, inL, inR, inO, idsIn, encs_pure, valC_pure, r_st_GInst_pure])⟩, (fun _ h => by cases h)⟩⟩⟩⟩, ⟨hr, Nat.le_of_succ_le hm⟩, Nat.lt_succ_self _⟩
       ·replace hr := cnd_f h76 hr
        refine AW.seq ?_
        refine AW.rg ?_
        refine AL.sb good (d := 109) (b := (x55.f0.data.toList == [114, 101, 116])) rfl rfl rfl rfl rfl rfl rfl ?_
        refine AL.v good (d := 108) (v := .bool (x55.f0.data.toList == [114, 101, 116])) rfl rfl rfl rfl ?_
        refine AW.if rfl (fun h78 => ?_) (fun h78 => ?_)
        ·replace hr := cnd_t h78 hr
         refine AW.seq ?_
         refine AW.rg ?_
         refine AL.v good (d := 110) (v := .sl (.own 2) 5 (encs v1_3)) rfl rfl rfl rfl ?_
         refine AL.v good (d := 4) (v := .sl (.own 2) 5 (encs v1_3)) rfl rfl rfl rfl ?_
         refine AL.v good (d := 5) (v := .int .i64 0) rfl rfl rfl rfl ?_
         refine AW.ret ?_
         obtain rfl := Option.some.inj hr
         exact RetQ.w good (.inr rfl) rfl rfl ⟨⟨.inr rfl, WvR.refl _, .inl rfl⟩, Wv.refl _, trivial⟩ (by simp [pureA, pureL, pureR, inA, inL, inR, inO, idsIn, encs_pure, valC_pure, r_st_GInst_pure])
        ·replace hr := cnd_f h78 hr
         refine AW.seq ?_
         refine AW.drawc (M := fun i => ⟨Nat.beq i 16, bif Nat.beq i 4 then some { ids := [] } else bif Nat.beq i 9 then some { ids := [] } else bif Nat.beq i 15 then some { ids := [5] } else bif Nat.beq i 16 then some { ids := [5] } else none⟩) good.wide (by kernel_rfl) ?_
         refine AL.v (nc := ⟨rfl⟩) good (d := 47) (v := .sl .ro 7 (r_st_GInst a0)) rfl rfl rfl rfl ?_
         refine AL.v (nc := ⟨rfl⟩) good (d := 48) (v := .int .i64 v1_2) rfl rfl rfl rfl ?_
         obtain ⟨h81, hr⟩ := grd hr
         obtain ⟨x79, h80, hr⟩ := bnd1 hr
         refine AL.ix (nc := ⟨rfl⟩) good (d := 49) (r := [.str x79.f0, .int .i64 x79.f1.kind, .int .i64 x79.f1.i, .bool x79.f1.b, .str x79.f1.s, .sl .ro 5 (encs x79.f1.t), .int .i64 x79.f2]) rfl rfl rfl rfl rfl rfl rfl h81 (r_st_GInst_get h80) ?_
         refine AL.v (nc := ⟨rfl⟩) good (d := 50) (v := .ep [.str x79.f0, .int .i64 x79.f1.kind, .int .i64 x79.f1.i, .bool x79.f1.b, .str x79.f1.s, .sl .ro 5 (encs x79.f1.t), .int .i64 x79.f2]) rfl rfl rfl rfl ?_
         refine AL.vc good (d := 51) (v := .str x79.f0) rfl rfl rfl rfl rfl rfl (fun _ h => by cases h) ?_
         refine AL.v (nc := ⟨rfl⟩) good (d := 52) (v := .sl .ro 7 (r_st_GInst a0)) rfl rfl rfl rfl ?_
         refine AL.v (nc := ⟨rfl⟩) good (d := 53) (v := .int .i64 v1_2) rfl rfl rfl rfl ?_
         obtain ⟨h84, hr⟩ := grd hr
         obtain ⟨x82, h83, hr⟩ := bnd1 hr
         refine AL.ix (nc := ⟨rfl⟩) good (d := 54) (r := [.str x82.f0, .int .i64 x82.f1.kind, .int .i64 x82.f1.i, .bool x82.f1.b, .str x82.f1.s, .sl .ro 5 (encs x82.f1.t), .int .i64 x82.f2]) rfl rfl rfl rfl rfl rfl rfl h84 (r_st_GInst_get h83) ?_
         refine AL.v (nc := ⟨rfl⟩) good (d := 55) (v := .ep [.int .i64 x82.f2]) rfl rfl rfl rfl ?_
         refine AL.vc good (d := 56) (v := .int .i64 x82.f2) rfl rfl rfl rfl rfl rfl (fun _ h => by cases h) ?_
         refine AL.v (nc := ⟨rfl⟩) good (d := 57) (v := .sl (.own 3) 5 (encs (v1_1.drop ((IntKind.i64.wrap ((v1_1.length : Int) - q49)).toNat)))) rfl rfl rfl rfl ?_
         obtain ⟨q85, h86, hr⟩ := bnd1 hr
         refine AL.cw (nc := ⟨rfl⟩) good (d := 58) (xs := [.str x79.f0, .int .i64 x82.f2, .sl .ro 5 (encs (v1_1.drop ((IntKind.i64.wrap ((v1_1.length : Int) - q49)).toNat)))]) (res := .tup [.agg [.int .i64 q85.1.kind, .int .i64 q85.1.i, .bool q85.1.b, .str q85.1.s, .sl .ro 5 (encs q85.1.t)], .int .i64 q85.2]) rfl rfl rfl rfl rfl rfl rfl (w_f63 _ _ _ _ _ h86) ⟨(Wv.refl _), (Wv.refl _), ⟨.inr rfl, WvR.refl _, .inl rfl⟩, trivial⟩ (by simp [pureA, pureL, pureR, inA, inL, inR, inO, idsIn, encs_pure, valC_pure, r_st_GInst_pure]) ?_
         refine AL.v (nc := ⟨rfl⟩) good (d := 46) (v := .tup [.agg [.int .i64 q85.1.kind, .int .i64 q85.1.i, .bool q85.1.b, .str q85.1.s, .sl .ro 5 (encs q85.1.t)], .int .i64 q85.2]) rfl rfl rfl rfl ?_
         refine AL.v (nc := ⟨rfl⟩) good (d := 59) (v := .agg [.int .i64 q85.1.kind, .int .i64 q85.1.i, .bool q85.1.b, .str q85.1.s, .sl .ro 5 (encs q85.1.t)]) rfl rfl rfl rfl ?_
         refine AL.v (nc := ⟨rfl⟩) good (d := 60) (v := .int .i64 q85.2) rfl rfl rfl rfl ?_
         refine AL.alcC good (d := 12) rfl rfl rfl rfl rfl 5 rfl (ColN.mk rfl rfl (fun _ h => by cases h) (fmc ⟨.head _, (fun _ h => by cases h)⟩) (fun _ h => by cases h)) ?_
         refine AL.st2c good (c2 := [.int .i64 q85.1.kind, .int .i64 q85.1.i, .bool q85.1.b, .str q85.1.s, .sl .ro 5 (encs q85.1.t)]) rfl rfl rfl rfl rfl rfl rfl rfl rfl rfl rfl rfl rfl ?_
         refine AL.v (nc := ⟨rfl⟩) good (d := 13) (v := .int .i64 q85.2) rfl rfl rfl rfl ?_
         refine AW.seq ?_
         refine AW.seq ?_
         refine AW.rg ?_
         refine AL.v good (d := 61) (v := .int .i64 q85.2) rfl rfl rfl rfl ?_
         refine AL.v good (d := 62) (v := .bool (q85.2 != 0)) rfl rfl rfl rfl ?_
         refine AW.if rfl (fun h87 => ?_) (fun h87 => ?_)
         ·replace hr := cnd_t h87 hr
          refine AW.seq ?_
          refine AW.rg ?_
          refine AL.v good (d := 63) (v := .int .i64 q85.2) rfl rfl rfl rfl ?_
          refine AL.v good (d := 4) (v := .sl .nil 0 []) rfl rfl rfl rfl ?_
          refine AL.v good (d := 5) (v := .int .i64 q85.2) rfl rfl rfl rfl ?_
          refine AW.ret ?_
          obtain rfl := Option.some.inj hr
          exact RetQ.w good (.inr rfl) rfl rfl ⟨⟨.inr rfl, trivial, .inr rfl⟩, Wv.refl _, trivial⟩ (by simp [pureA, pureL, pureR, inA, inL, inR, inO, idsIn, encs_pure, valC_pure, r_st_GInst_pure])
         ·replace hr := cnd_f h87 hr
          refine AW.skip ?_
          refine AW.rg ?_
          refine AL.v good (d := 64) (v := .sl (.own 1) 5 (encs (v1_1.take ((IntKind.i64.wrap ((v1_1.length : Int) - q49)).toNat)))) rfl rfl rfl rfl ?_
          refine AL.v good (d := 65) (v := .agg [.int .i64 q85.1.kind, .int .i64 q85.1.i, .bool q85.1.b, .str q85.1.s, .sl .ro 5 (encs q85.1.t)]) rfl rfl rfl rfl ?_
          refine AL.lit good (d := 66) (rows := [[.int .i64 q85.1.kind, .int .i64 q85.1.i, .bool q85.1.b, .str q85.1.s, .sl .ro 5 (encs q85.1.t)]]) rfl rfl rfl rfl rfl rfl rfl rfl rfl 6 rfl ?_
          obtain ⟨h88, hr⟩ := grd hr
          refine AL.aw2 good (d := 67) (rows := encs (v1_1.take ((IntKind.i64.wrap ((v1_1.length : Int) - q49)).toNat))) (news := [(valC q85.1)]) (rows2 := encs ((v1_1.take ((IntKind.i64.wrap ((v1_1.length : Int) - q49)).toNat)) ++ [q85.1])) rfl rfl rfl rfl rfl rfl rfl rfl rfl (by simp) rfl rfl rfl ⟨⟨Wv.refl _, Wv.refl _, Wv.refl _, Wv.refl _, Wv.refl _, trivial⟩, trivial⟩ (by simp [encs_map]) (by rw [encs_length, List.length_append]; exact h88) rfl ?_
          refine AL.v good (d := 6) (v := .sl (.own 1) 5 (encs ((v1_1.take ((IntKind.i64.wrap ((v1_1.length : Int) - q49)).toNat)) ++ [q85.1]))) rfl rfl rfl rfl ?_
          refine AW.rg ?_
          refine AL.v good (d := 111) (v := .int .i64 (IntKind.i64.wrap (v1_2 + 1))) rfl rfl rfl rfl ?_
          refine AL.v good (d := 8) (v := .int .i64 (IntKind.i64.wrap (v1_2 + 1))) rfl rfl rfl rfl ?_
          exact ⟨(m, ((v1_1.take ((IntKind.i64.wrap ((v1_1.length : Int) - q49)).toNat)) ++ [q85.1]), (IntKind.i64.wrap (v1_2 + 1)), v1_3), _, _, rfl, ⟨(fun _ h => by cases h), fmc ⟨⟨⟨_, rfl, Wv.refl _⟩, (by simp [pureA, pureL, pureR, inA, inL, inR, inO, idsIn, encs_pure, valC_pure, r_st_GInst_pure])⟩, fmc ⟨⟨⟨_, rfl, Wv.refl _⟩, (by simp [pureA, pureL, pureR, inA, inL, inR, inO, idsIn, encs_pure, valC_pure, r_st_GInst_pure])⟩, fmc ⟨⟨⟨_, rfl, Wv.refl _⟩, (by simp [pureA, pureL, pureR, inA, inL, inR, inO, idsIn, encs_pure, valC_pure, r_st_GInst_pure])⟩, fmc ⟨⟨⟨_, rfl, Wv.refl _⟩, (by simp [pureA, pureL, pureR, inA, inL, inR, inO, idsIn, encs_pure, valC_pure, r_st_GInst_pure])⟩, fmc ⟨⟨⟨_, rfl, Wv.refl _⟩, (by simp [pureA, pureL, pureR, inA, inL, inR, inO, idsIn, encs_pure, valC_pure, r_st_GInst_pure])⟩, (fun _ h => by cases h)⟩⟩⟩⟩⟩, fmc ⟨⟨⟨_, rfl, ⟨rfl, ⟨Wv.refl _, Wv.refl _, Wv.refl _, Wv.refl _, Wv.refl _, trivial⟩⟩⟩, (by simp [pureA, pureL, pureR, inA, inL, inR, inO, idsIn, encs_pure, valC_pure, r_st_GInst_pure])⟩, fmc ⟨⟨⟨_, rfl, ⟨rfl, rfl, rfl⟩⟩, (by simp [pureA, pureL, pureR, inA, inL, inR, inO, idsIn, encs_pure, valC_pure, r_st_GInst_pure])⟩, fmc ⟨⟨⟨_, rfl, ⟨rfl, rfl, rfl⟩⟩, (by simp [pureA, pureL, pureR, inA, inL, inR, inO, idsIn, encs_pure, valC_pure, r_st_GInst_pure])⟩, (fun _ h => by cases h)⟩⟩⟩⟩, ⟨hr, Nat.le_of_succ_le hm⟩, Nat.lt_succ_self _⟩
  ·replace hr := cnd_f h45 hr
   refine AW.exit ?_
   refine AW.seq ?_
   refine AW.rg ?_
   refine AL.v good (d := 112) (v := .sl (.own 2) 5 (encs v1_3)) rfl rfl rfl rfl ?_
   refine AL.v good (d := 4) (v := .sl (.own 2) 5 (encs v1_3)) rfl rfl rfl rfl ?_
   refine AL.v good (d := 5) (v := .int .i64 0) rfl rfl rfl rfl ?_
   refine AW.ret ?_
   obtain rfl := Option.some.inj hr
   exact RetQ.w good (.inr rfl) rfl rfl ⟨⟨.inr rfl, WvR.refl _, .inl rfl⟩, Wv.refl _, trivial⟩ (by simp [pureA, pureL, pureR, inA, inL, inR, inO, idsIn, encs_pure, valC_pure, r_st_GInst_pure])

end Go.Proofs.Ytbcjcekoonebiaa.Tl

set_option linter.unusedVariables false
set_option linter.unusedSimpArgs false
namespace Go.Proofs.Ytbcjcekoonebiaa.Tl
open Go Go.RowKit
def s_f8 (n : Nat) (a0 : List GInst) (a1 : Val) : Option Bool :=
  ((s_f36 n).bind fun q1 => (bif (!q1) then some false else ((s_f37 n a0).bind fun q4 => (bif (!q4) then some true else ((s_f18 n a1).bind fun q7 => (bif (!q7) then some true else ((s_f38 n a0).bind fun q10 => ((s_f22 n a1).bind fun q12 => ((s_f21 n q12).bind fun q14 => ((s_f39 n q10 q14).bind fun q16 => (bif (q16.2.2 != 0) then some true else ((s_f40 n a0 a1).bind fun q19 => ((s_f22 n a1).bind fun q21 => ((s_f41 n q10 q21).bind fun q23 => (bif (q19.2 == q23.2) then ((s_f42 n q19.1 q23.1).bind fun q26 => some q26) else some false)))))))))))))))

theorem w_f8 (n : Nat) (a0 : List GInst) (a1 : Val) (r : Bool) (hr : s_f8 n a0 a1 = some r) : ACall Try.prog 8 [.sl .ro 7 (r_st_GInst a0), .agg (valC a1)] (.bool r) := by
 refine ACall.go [(0, .sl .ro 7 (r_st_GInst a0)), (1, .agg (valC a1))] Try.func8 rfl Try.ntmps8 rfl rfl (by simp [pureA, pureL, pureR, inA, inL, inR, inO, idsIn, encs_pure, enys_pure, valC_pure, tyC_pure, r_st_GInst_pure]) ?_
 rw [s_f8] at hr
 refine AW.seq ?_
 refine AW.rg ?_
 refine AL.bx good (d := 3) (l := [.int .i64 a1.kind, .int .i64 a1.i, .bool a1.b, .str a1.s, .sl .ro 5 (encs a1.t)]) rfl rfl rfl rfl rfl rfl 0 rfl ?_
 refine AL.v good (d := 4) (v := .bool false) rfl rfl rfl rfl ?_
 refine AW.seq ?_
 refine AW.seq ?_
 refine AW.rg ?_
 obtain ⟨q1, h2, hr⟩ := bnd1 hr
 refine AL.cw good (d := 13) (xs := []) (res := .bool q1) rfl rfl rfl rfl rfl rfl rfl (w_f36 _ _ h2) trivial (by simp [pureA, pureL, pureR, inA, inL, inR, inO, idsIn, encs_pure, enys_pure, valC_pure, tyC_pure, r_st_GInst_pure]) ?_
 refine AL.v good (d := 14) (v := .bool (!q1)) rfl rfl rfl rfl ?_
 refine AW.if rfl (fun h3 => ?_) (fun h3 => ?_)
 ·replace hr := cnd_t h3 hr
  refine AW.seq ?_
  refine AW.rg ?_
  refine AL.v good (d := 4) (v := .bool false) rfl rfl rfl rfl ?_
  refine AW.ret ?_
  obtain rfl := Option.some.inj hr
  exact RetQ.w good (.inr rfl) rfl rfl (Wv.refl _) (by simp [pureA, pureL, pureR, inA, inL, inR, inO, idsIn, encs_pure, enys_pure, valC_pure, tyC_pure, r_st_GInst_pure])
 ·replace hr := cnd_f h3 hr
  refine AW.skip ?_
  refine AW.seq ?_
  refine AW.seq ?_
  refine AW.rg ?_
  refine AL.v good (d := 15) (v := .sl .ro 7 (r_st_GInst a0)) rfl rfl rfl rfl ?_
  obtain ⟨q4, h5, hr⟩ := bnd1 hr
  refine AL.cw good (d := 16) (xs := [.sl .ro 7 (r_st_GInst a0)]) (res := .bool q4) rfl rfl rfl rfl rfl rfl rfl (w_f37 _ _ _ h5) ⟨(Wv.refl _), trivial⟩ (by simp [pureA, pureL, pureR, inA, inL, inR, inO, idsIn, encs_pure, enys_pure, valC_pure, tyC_pure, r_st_GInst_pure]) ?_
  refine AL.v good (d := 17) (v := .bool (!q4)) rfl rfl rfl rfl ?_
  refine AL.v good (d := 18) (v := .bool (!q4)) rfl rfl rfl rfl ?_
  refine AL.cs 18 rfl (fun h6 => ?_) (fun h6 => ?_)
  ·replace hr := cnd_t h6 hr
   refine AL.sk good (d := 19) rfl rfl rfl ?_
   refine AL.sk good (d := 20) rfl rfl rfl ?_
   refine AL.sk good (d := 21) rfl rfl rfl ?_
   refine AL.v good (d := 22) (v := .bool true) rfl rfl rfl rfl ?_
   refine AW.if rfl (fun h => ?_) (fun h => by cases h)
   refine AW.seq ?_
   refine AW.rg ?_
   refine AL.v good (d := 4) (v := .bool true) rfl rfl rfl rfl ?_
   refine AW.ret ?_
   obtain rfl := Option.some.inj hr
   exact RetQ.w good (.inr rfl) rfl rfl (Wv.refl _) (by simp [pureA, pureL, pureR, inA, inL, inR, inO, idsIn, encs_pure, enys_pure, valC_pure, tyC_pure, r_st_GInst_pure])
  ·replace hr := cnd_f h6 hr
   refine AL.v good (d := 19) (v := .agg [.int .i64 a1.kind, .int .i64 a1.i, .bool a1.b, .str a1.s, .sl .ro 5 (encs a1.t)]) rfl rfl rfl rfl ?_
   obtain ⟨q7, h8, hr⟩ := bnd1 hr
   refine AL.cw good (d := 20) (xs := [.agg (valC a1)]) (res := .bool q7) rfl rfl rfl rfl rfl rfl rfl (w_f18 _ _ _ h8) ⟨(Wv.refl _), trivial⟩ (by simp [pureA, pureL, pureR, inA, inL, inR, inO, idsIn, encs_pure, enys_pure, valC_pure, tyC_pure, r_st_GInst_pure]) ?_
   refine AL.v good (d := 21) (v := .bool (!q7)) rfl rfl rfl rfl ?_
   refine AL.v good (d := 22) (v := .bool (!q7)) rfl rfl rfl rfl ?_
   refine AW.if rfl (fun h9 => ?_) (fun h9 => ?_)
   ·replace hr := cnd_t h9 hr
    refine AW.seq ?_
    refine AW.rg ?_
    refine AL.v good (d := 4) (v := .bool true) rfl rfl rfl rfl ?_
    refine AW.ret ?_
    obtain rfl := Option.some.inj hr
    exact RetQ.w good (.inr rfl) rfl rfl (Wv.refl _) (by simp [pureA, pureL, pureR, inA, inL, inR, inO, idsIn, encs_pure, enys_pure, valC_pure, tyC_pure, r_st_GInst_pure])
   ·replace hr := cnd_f h9 hr
    refine AW.skip ?_
    refine AW.seq ?_
    refine AW.rg ?_
    refine AL.v good (d := 23) (v := .sl .ro 7 (r_st_GInst a0)) rfl rfl rfl rfl ?_
    obtain ⟨q10, h11, hr⟩ := bnd1 hr
    refine AL.cw good (d := 24) (xs := [.sl .ro 7 (r_st_GInst a0)]) (res := .sl .ro 7 (r_st_GInst q10)) rfl rfl rfl rfl rfl rfl rfl (w_f38 _ _ _ h11) ⟨(Wv.refl _), trivial⟩ (by simp [pureA, pureL, pureR, inA, inL, inR, inO, idsIn, encs_pure, enys_pure, valC_pure, tyC_pure, r_st_GInst_pure]) ?_
    refine AL.v good (d := 5) (v := .sl .ro 7 (r_st_GInst q10)) rfl rfl rfl rfl ?_
    refine AW.seq ?_
    refine AW.rg ?_
    refine AL.v good (d := 26) (v := .sl .ro 7 (r_st_GInst q10)) rfl rfl rfl rfl ?_
    refine AL.v good (d := 27) (v := .agg [.int .i64 a1.kind, .int .i64 a1.i, .bool a1.b, .str a1.s, .sl .ro 5 (encs a1.t)]) rfl rfl rfl rfl ?_
    obtain ⟨q12, h13, hr⟩ := bnd1 hr
    refine AL.cw good (d := 28) (xs := [.agg (valC a1)]) (res := .agg [.int .i64 q12.kind, .int .i64 q12.i, .bool q12.b, .str q12.s, .sl .ro 5 (encs q12.t)]) rfl rfl rfl rfl rfl rfl rfl (w_f22 _ _ _ h13) ⟨(Wv.refl _), trivial⟩ (by simp [pureA, pureL, pureR, inA, inL, inR, inO, idsIn, encs_pure, enys_pure, valC_pure, tyC_pure, r_st_GInst_pure]) ?_
    obtain ⟨q14, h15, hr⟩ := bnd1 hr
    refine AL.cw good (d := 29) (xs := [.agg (valC q12)]) (res := .agg [.int .i64 q14.kind, .sl .ro 2 (enys q14.of)]) rfl rfl rfl rfl rfl rfl rfl (w_f21 _ _ _ h15) ⟨(Wv.refl _), trivial⟩ (by simp [pureA, pureL, pureR, inA, inL, inR, inO, idsIn, encs_pure, enys_pure, valC_pure, tyC_pure, r_st_GInst_pure]) ?_
    obtain ⟨q16, h17, hr⟩ := bnd1 hr
    refine AL.cw good (d := 30) (xs := [.sl .ro 7 (r_st_GInst q10), .agg (tyC q14)]) (res := .tup [.agg [.int .i64 q16.1.kind, .sl .ro 2 (enys q16.1.of)], .int .i64 q16.2.1, .int .i64 q16.2.2]) rfl rfl rfl rfl rfl rfl rfl (w_f39 _ _ _ _ h17) ⟨(Wv.refl _), (Wv.refl _), trivial⟩ (by simp [pureA, pureL, pureR, inA, inL, inR, inO, idsIn, encs_pure, enys_pure, valC_pure, tyC_pure, r_st_GInst_pure]) ?_
    refine AL.v good (d := 25) (v := .tup [.agg [.int .i64 q16.1.kind, .sl .ro 2 (enys q16.1.of)], .int .i64 q16.2.1, .int .i64 q16.2.2]) rfl rfl rfl rfl ?_
    refine AL.v good (d := 31) (v := .agg [.int .i64 q16.1.kind, .sl .ro 2 (enys q16.1.of)]) rfl rfl rfl rfl ?_
    refine AL.v good (d := 32) (v := .int .i64 q16.2.1) rfl rfl rfl rfl ?_
    refine AL.v good (d := 33) (v := .int .i64 q16.2.2) rfl rfl rfl rfl ?_
    refine AL.alc good (d := 6) rfl rfl rfl rfl rfl 1 rfl ?_
    refine AL.st2 good (c2 := [.int .i64 q16.1.kind, .sl .ro 2 (enys q16.1.of)]) rfl rfl rfl rfl rfl rfl rfl rfl rfl rfl rfl rfl ?_
    refine AL.v good (d := 7) (v := .int .i64 q16.2.1) rfl rfl rfl rfl ?_
    refine AL.v good (d := 8) (v := .int .i64 q16.2.2) rfl rfl rfl rfl ?_
    refine AW.seq ?_
    refine AW.seq ?_
    refine AW.rg ?_
    refine AL.v good (d := 34) (v := .int .i64 q16.2.2) rfl rfl rfl rfl ?_
    refine AL.v good (d := 35) (v := .bool (q16.2.2 != 0)) rfl rfl rfl rfl ?_
    refine AW.if rfl (fun h18 => ?_) (fun h18 => ?_)
    ·replace hr := cnd_t h18 hr
     refine AW.seq ?_
     refine AW.rg ?_
     refine AL.v good (d := 4) (v := .bool true) rfl rfl rfl rfl ?_
     refine AW.ret ?_
     obtain rfl := Option.some.inj hr
     exact RetQ.w good (.inr rfl) rfl rfl (Wv.refl _) (by simp [pureA, pureL, pureR, inA, inL, inR, inO, idsIn, encs_pure, enys_pure, valC_pure, tyC_pure, r_st_GInst_pure])
    ·replace hr := cnd_f h18 hr
     refine AW.skip ?_
     refine AW.seq ?_
     refine AW.rg ?_
     refine AL.v good (d := 37) (v := .sl .ro 7 (r_st_GInst a0)) rfl rfl rfl rfl ?_
     refine AL.v good (d := 38) (v := .agg [.int .i64 a1.kind, .int .i64 a1.i, .bool a1.b, .str a1.s, .sl .ro 5 (encs a1.t)]) rfl rfl rfl rfl ?_
     obtain ⟨q19, h20, hr⟩ := bnd1 hr
     refine AL.cw good (d := 39) (xs := [.sl .ro 7 (r_st_GInst a0), .agg (valC a1)]) (res := .tup [.sl .ro 5 (encs q19.1), .int .i64 q19.2]) rfl rfl rfl rfl rfl rfl rfl (w_f40 _ _ _ _ h20) ⟨(Wv.refl _), (Wv.refl _), trivial⟩ (by simp [pureA, pureL, pureR, inA, inL, inR, inO, idsIn, encs_pure, enys_pure, valC_pure, tyC_pure, r_st_GInst_pure]) ?_
     refine AL.v good (d := 36) (v := .tup [.sl .ro 5 (encs q19.1), .int .i64 q19.2]) rfl rfl rfl rfl ?_
     refine AL.v good (d := 40) (v := .sl .ro 5 (encs q19.1)) rfl rfl rfl rfl ?_
     refine AL.v good (d := 41) (v := .int .i64 q19.2) rfl rfl rfl rfl ?_
     refine AL.v good (d := 9) (v := .sl .ro 5 (encs q19.1)) rfl rfl rfl rfl ?_
     refine AL.v good (d := 10) (v := .int .i64 q19.2) rfl rfl rfl rfl ?_
     refine AW.seq ?_
     refine AW.rg ?_
     refine AL.v good (d := 43) (v := .sl .ro 7 (r_st_GInst q10)) rfl rfl rfl rfl ?_
     refine AL.v good (d := 44) (v := .agg [.int .i64 a1.kind, .int .i64 a1.i, .bool a1.b, .str a1.s, .sl .ro 5 (encs a1.t)]) rfl rfl rfl rfl ?_
     obtain ⟨q21, h22, hr⟩ := bnd1 hr
     refine AL.cw good (d := 45) (xs := [.agg (valC a1)]) (res := .agg [.int .i64 q21.kind, .int .i64 q21.i, .bool q21.b, .str q21.s, .sl .ro 5 (encs q21.t)]) rfl rfl rfl rfl rfl rfl rfl (w_f22 _ _ _ h22) ⟨(Wv.refl _), trivial⟩ (by simp [pureA, pureL, pureR, inA, inL, inR, inO, idsIn, encs_pure, enys_pure, valC_pure, tyC_pure, r_st_GInst_pure]) ?_
     obtain ⟨q23, h24, hr⟩ := bnd1 hr
     refine AL.cw good (d := 46) (xs := [.sl .ro 7 (r_st_GInst q10), .agg (valC q21)]) (res := .tup [.sl .ro 5 (encs q23.1), .int .i64 q23.2]) rfl rfl rfl rfl rfl rfl rfl (w_f41 _ _ _ _ h24) ⟨(Wv.refl _), (Wv.refl _), trivial⟩ (by simp [pureA, pureL, pureR, inA, inL, inR, inO, idsIn, encs_pure, enys_pure, valC_pure, tyC_pure, r_st_GInst_pure]) ?_
     refine AL.v good (d := 42) (v := .tup [.sl .ro 5 (encs q23.1), .int .i64 q23.2]) rfl rfl rfl rfl ?_
     refine AL.v good (d := 47) (v := .sl .ro 5 (encs q23.1)) rfl rfl rfl rfl ?_
     refine AL.v good (d := 48) (v := .int .i64 q23.2) rfl rfl rfl rfl ?_
     refine AL.v good (d := 11) (v := .sl .ro 5 (encs q23.1)) rfl rfl rfl rfl ?_
     refine AL.v good (d := 12) (v := .int .i64 q23.2) rfl rfl rfl rfl ?_
     refine AW.seq ?_
     refine AW.rg ?_
     refine AL.v good (d := 49) (v := .int .i64 q19.2) rfl rfl rfl rfl ?_
     refine AL.v good (d := 50) (v := .int .i64 q23.2) rfl rfl rfl rfl ?_
     refine AL.v good (d := 51) (v := .bool (q19.2 == q23.2)) rfl rfl rfl rfl ?_
     refine AL.v good (d := 52) (v := .bool (q19.2 == q23.2)) rfl rfl rfl rfl ?_
     refine AL.cs 52 rfl (fun h25 => ?_) (fun h25 => ?_)
     ·replace hr := cnd_t h25 hr
      refine AL.v good (d := 53) (v := .sl .ro 5 (encs q19.1)) rfl rfl rfl rfl ?_
      refine AL.v good (d := 54) (v := .sl .ro 5 (encs q23.1)) rfl rfl rfl rfl ?_
      obtain ⟨q26, h27, hr⟩ := bnd1 hr
      refine AL.cw good (d := 55) (xs := [.sl .ro 5 (encs q19.1), .sl .ro 5 (encs q23.1)]) (res := .bool q26) rfl rfl rfl rfl rfl rfl rfl (w_f42 _ _ _ _ h27) ⟨(Wv.refl _), (Wv.refl _), trivial⟩ (by simp [pureA, pureL, pureR, inA, inL, inR, inO, idsIn, encs_pure, enys_pure, valC_pure, tyC_pure, r_st_GInst_pure]) ?_
      refine AL.v good (d := 56) (v := .bool q26) rfl rfl rfl rfl ?_
      refine AL.v good (d := 4) (v := .bool q26) rfl rfl rfl rfl ?_
      refine AW.ret ?_
      obtain rfl := Option.some.inj hr
      exact RetQ.w good (.inr rfl) rfl rfl (Wv.refl _) (by simp [pureA, pureL, pureR, inA, inL, inR, inO, idsIn, encs_pure, enys_pure, valC_pure, tyC_pure, r_st_GInst_pure])
     ·replace hr := cnd_f h25 hr
      refine AL.sk good (d := 53) rfl rfl rfl ?_
      refine AL.sk good (d := 54) rfl rfl rfl ?_
      refine AL.sk good (d := 55) rfl rfl rfl ?_
      refine AL.v good (d := 56) (v := .bool false) rfl rfl rfl rfl ?_
      refine AL.v good (d := 4) (v := .bool false) rfl rfl rfl rfl ?_
      refine AW.ret ?_
      obtain rfl := Option.some.inj hr
      exact RetQ.w good (.inr rfl) rfl rfl (Wv.refl _) (by simp [pureA, pureL, pureR, inA, inL, inR, inO, idsIn, encs_pure, enys_pure, valC_pure, tyC_pure, r_st_GInst_pure])

end Go.Proofs.Ytbcjcekoonebiaa.Tl

set_option linter.unusedVariables false
namespace Go.Proofs.Ytbcjcekoonebiaa.Tl
open Go Go.RowKit
def Ev {α : Type} (f : Nat → Option α) (a : α) : Prop := ∃ N, ∀ n, N ≤ n → f n = some a
theorem Ev.mk {α : Type} (a : α) : Ev (fun _ => some a) a := ⟨0, fun _ _ => rfl⟩
theorem Ev.succ {α : Type} {f : Nat → Option α} {a : α} (h : Ev (fun n => f (n + 1)) a) : Ev f a :=
  let ⟨N, h⟩ := h
  ⟨N + 1, fun n hn => by
    cases n with
    | zero => omega
    | succ n => exact h n (by omega)⟩
theorem Ev.bind {α β : Type} {f : Nat → Option α} {g : Nat → α → Option β} {a : α} {b : β} (h : Ev f a) (k : Ev (fun n => g n a) b) : Ev (fun n => (f n).bind (g n)) b :=
  let ⟨N, h⟩ := h
  let ⟨M, k⟩ := k
  ⟨max N M, fun n hn => by
    show (f n).bind (g n) = some b
    rw [h n (by omega), Option.bind_some]
    exact k n (by omega)⟩
theorem Ev.bindc {α β : Type} {x : Option α} {g : Nat → α → Option β} {a : α} {b : β} (h : x = some a) (k : Ev (fun n => g n a) b) : Ev (fun n => x.bind (g n)) b := by
  subst h
  exact k
theorem Ev.t {α : Type} {c : Bool} {f g : Nat → Option α} {a : α} (h : c = true) (k : Ev f a) : Ev (fun n => bif c then f n else g n) a := by subst h; exact k
theorem Ev.f {α : Type} {c : Bool} {f g : Nat → Option α} {a : α} (h : c = false) (k : Ev g a) : Ev (fun n => bif c then f n else g n) a := by subst h; exact k
theorem Ev.g {α : Type} {p : Prop} [Decidable p] {f : Nat → Option α} {a : α} (h : p) (k : Ev f a) : Ev (fun n => if p then f n else none) a := by simp only [h, if_true]; exact k
theorem Ev.get {α : Type} {f : Nat → Option α} {a : α} (h : Ev f a) : ∃ n, f n = some a := let ⟨N, h⟩ := h; ⟨N, h N (Nat.le_refl N)⟩
theorem Ev.if {α : Type} {c : Bool} {f g : Nat → Option α} {a b : α} (h : c = true → Ev f a) (k : c = false → Ev g b) : Ev (fun n => bif c then f n else g n) (bif c then a else b) := by
  cases c
  · exact k rfl
  · exact h rfl
theorem Ev.ifa {α : Type} {p c : Bool} {f g : Nat → Option α} {a b : α} (hp : p = true) (h : c = true → Ev f a) (k : c = false → Ev g b) : Ev (fun n => bif p && c then f n else g n) (bif c then a else b) := by
  subst hp
  exact Ev.if h k
theorem and_f {a b : Bool} (h : a = false) : (a && b) = false := by subst h; rfl
theorem or_f {a b : Bool} (h : (a || b) = false) : a = false ∧ b = false := by cases a <;> cases b <;> simp_all
theorem Ev.congr {α : Type} {f : Nat → Option α} {a b : α} (h : Ev f a) (e : a = b) : Ev f b := e ▸ h
theorem Ev.ret {α β : Type} {f : Nat → Option α} {g : α → β} {a : α} (h : Ev f a) : Ev (fun n => (f n).bind fun q => some (g q)) (g a) := Ev.bind h (Ev.mk _)
end Go.Proofs.Ytbcjcekoonebiaa.Tl
