/- The row of the law VmApply. Conditions: none. -/
import Derived.Test.YtbcjcekoonebiaaGreatRows
import Derived.Test.YtbcjcekoonebiaaGreatTlZVmApply6
import Derived.WalkKit
import Derived.ProofKit
import Derived.OpenShut
import Derived.ShutString
import Derived.ChangeOld
import Derived.Below
import Derived.SizedLaws
import Derived.Carry
namespace Go.Proofs.YtbcjcekoonebiaaGreat.vmApply
open Go.ChangeShapes Go.WideShapes Go.ChangeAt Go.RowKit
open Go.ChangeMaps (open_string shut_string)
set_option linter.unusedVariables false
theorem own : ownKnob Tryz.prog.godebug = none := by kernel_rfl
theorem laidOut : laidOutB Tryz.prog = true := by kernel_rfl
set_option maxRecDepth 100000 in
theorem lifted (os : Os) (started : os.Started) (H : Type) (enc : TypeId × Value → H) :
    ReturnsInHanded {} Tryz.checked os 3 .any (Rows.vmApplySpec.pre6 enc Tryz.prog Tryz.f3 Rows.vmApplyRow.domain false) (Rows.vmApplySpec.post enc Tryz.prog Tryz.f3 false true false false) := by
  refine returnsInHanded_of_change_sized (C := Tryz.checked) own started (by kernel_rfl) Tryz.func3
    (ChangeSpec.witness6 (enc := enc) (C := Tryz.checked) false ⟨#[], #[.agg #[.int .i64 0, .string ByteArray.empty, .int .i64 0, .slice none 0 0, .slice none 0 0, .string ByteArray.empty, .int .i64 0, .int .i64 0, .bool false, .string ByteArray.empty, .slice none 0 0, .int .i64 0, .slice none 0 0, .int .i64 0, .int .i64 0], .agg #[.int .i64 0, .int .i64 0, .bool false, .string ByteArray.empty, .slice none 0 0]], []⟩ 8 (by kernel_rfl) (by kernel_rfl) (by kernel_rfl) (by kernel_rfl)) ?_
  intro W base args ds gs before hval0 hW hcnd hsz0 _
  have hsz : (DataW.weightsEach Tryz.prog (Tryz.f3.params.toList ++ Rows.vmApplySpec.plain.varTypes Tryz.prog) (ds ++ gs)).all (· ≤ reachBytes) = true := hsz0
  have hval : ∀ (j : Nat) t v, Tryz.f3.params[j]? = some t → args[j]? = some v → Value.okWide Tryz.prog W .any base t v := hval0
  have hW' := hW
  obtain ⟨p, q, hA0, hV, rfl, hfz, hnd⟩ := hW
  have hA : DataW.TrodAll enc Tryz.prog W 0 (fun _ => true) true Tryz.f3.params.toList args.toList ds p := hA0
  rw [Tryz.params3] at hA hval hsz
  obtain ⟨v0, vs0, d0, ds0, p0, q0, hargs, rfl, rfl, h0, r0⟩ := trodAll_cons hA
  obtain ⟨v1, vs1, d1, ds1, p1, q1, rfl, rfl, rfl, h1, r1⟩ := trodAll_cons r0
  obtain ⟨rfl, rfl, rfl⟩ := trodAll_nil r1
  obtain rfl : args = #[v0, v1] := by cases args; simp_all
  obtain ⟨rfl, rfl⟩ := trodVars_none hV
  have hlt0 : ∀ x ∈ p0, x.block < W.heap.size := fun x hx => by obtain ⟨f, hf⟩ := h0; exact DataW.trod_lt _ _ _ _ hf x hx
  have hk0 := h0
  obtain ⟨cs0, ev0⟩ := Tl.ok_struct Tryz.underlying32 (hval 0 32 v0 rfl rfl)
  obtain ⟨fu0, hh0⟩ := h0
  obtain ⟨a0, ra0, oa0, g0⟩ := Tl.open_O _ _ _ hh0
  have rv0 := Tl.rd_struct ev0 ra0 oa0
  have hlt1 : ∀ x ∈ p1, x.block < W.heap.size := fun x hx => by obtain ⟨f, hf⟩ := h1; exact DataW.trod_lt _ _ _ _ hf x hx
  have hk1 := h1
  obtain ⟨cs1, ev1⟩ := Tl.ok_struct Tryz.underlying28 (hval 1 28 v1 rfl rfl)
  obtain ⟨fu1, hh1⟩ := h1
  obtain ⟨a1, ra1, oa1, g1⟩ := Tl.open_V _ _ _ hh1
  have rv1 := Tl.rd_struct ev1 ra1 oa1
  clear hA0 hval0 hsz0 hsz
  refine (Tl.vmApply_walk a0 a1 W v0 v1 rv0 rv1).mono fun e W' ⟨he, bel⟩ => ?_
  subst he
  exact ⟨_, rfl, _, _, _, [], _, [], hW', trodAll_mk1 (shut_bool Tryz.underlying4 _), (trodAll_cons_mk ((fun b (bel : Below W.heap.size W b) => Below.trod laidOut (by kernel_rfl) (of_decide_eq_true (by kernel_rfl)) hk0 bel hlt0) _ bel) (trodAll_cons_mk ((fun b (bel : Below W.heap.size W b) => Below.trod laidOut (by kernel_rfl) (of_decide_eq_true (by kernel_rfl)) hk1 bel hlt1) _ bel) trodAll_mk0)), rfl, bel.frame _, fun h => by cases h⟩
theorem over : Rows.vmApplyRow.holds Tryz.pinned (OpenSpec.ofChange Rows.vmApplySpec) :=
  OpenClaim.holds_of_wide 3 Tryz.f3 rfl rfl rfl rfl rfl rfl rfl ⟨rfl, rfl, rfl, rfl, rfl⟩ rfl rfl rfl rfl rfl (by kernel_rfl) Tryz.func3 (by kernel_rfl)
    (of_decide_eq_true (by kernel_rfl)) (by unfold Func.isWrapper; first | (rw [if_pos (by decide +kernel)]; kernel_rfl) | (rw [if_neg (by decide +kernel)]; exact ⟨rfl, rfl⟩))
    (fun os started H enc _ => lifted os started H enc)
theorem proved : Rows.VmApplySaid := over
#print axioms proved
end Go.Proofs.YtbcjcekoonebiaaGreat.vmApply
namespace Go.Proofs.YtbcjcekoonebiaaGreat
/-- The row, under a short name, for the claim. -/
theorem vmApply_holds : Rows.VmApplySaid := vmApply.proved
end Go.Proofs.YtbcjcekoonebiaaGreat
