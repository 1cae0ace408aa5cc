/- The laws of bytes, whatever their arguments. Conditions: none. -/
import Derived.Test.YtbcjcekoonebiaaTlBd
import Derived.Test.YtbcjcekoonebiaaTlQA
import Derived.Test.YtbcjcekoonebiaaTlWi
set_option linter.unusedVariables false
namespace Go.Proofs.Ytbcjcekoonebiaa.Tl
open Go Go.RowKit

theorem wireValues_walk (a0 : Val) (a1 : List Int) (w : World) (v0 v1 : Value) (g0 : RgV a0) (r0 : Rd (Pw w) (.agg (valC a0)) v0) (r1 : Rd (Pw w) (.sl .ro 1 (a1.map fun x => [.int .u8 x])) v1) : Calls Try.prog 10 #[v0, v1] w fun e w' => e = .returned (.bool true) ∧ Below w.heap.size w w' :=
  let ⟨n, hn⟩ := (s10 a0 g0 a1).get
  (w_f10 n a0 a1 true hn).law w _ ⟨r0, r1, trivial⟩
theorem wireApart_walk (a0 a1 : Val) (w : World) (v0 v1 : Value) (g0 : RgV a0) (g1 : RgV a1) (r0 : Rd (Pw w) (.agg (valC a0)) v0) (r1 : Rd (Pw w) (.agg (valC a1)) v1) : Calls Try.prog 11 #[v0, v1] w fun e w' => e = .returned (.bool true) ∧ Below w.heap.size w w' :=
  let ⟨n, hn⟩ := (s11 a0 a1 g0 g1).get
  (w_f11 n a0 a1 true hn).law w _ ⟨r0, r1, trivial⟩
theorem wireCut_walk (a0 : Val) (a1 : Int) (w : World) (v0 : Value) (g0 : RgV a0) (w1 : (Lit.int .u16 a1).wf = true) (r0 : Rd (Pw w) (.agg (valC a0)) v0) : Calls Try.prog 12 #[v0, .int .u16 a1] w fun e w' => e = .returned (.bool true) ∧ Below w.heap.size w w' := by
  have h : 0 ≤ a1 ∧ a1 ≤ 65535 := by
    simp only [Lit.wf, Bool.and_eq_true, decide_eq_true_eq] at w1
    exact w1
  obtain ⟨n, hn⟩ := (s12 a0 g0 a1 h.1 h.2).get
  exact (w_f12 n a0 a1 true hn).law w _ ⟨r0, by simp [Rd], trivial⟩
theorem wireSizes_walk (a0 : Int) (w0 : (Lit.int .i64 a0).wf = true) (w : World) : Calls Try.prog 13 #[.int .i64 a0] w fun e w' => e = .returned (.bool true) ∧ Below w.heap.size w w' :=
  let ⟨n, hn⟩ := (s13 (in64_of w0)).get
  (w_f13 n a0 true hn).law w _ ⟨by simp [Rd], trivial⟩
end Go.Proofs.Ytbcjcekoonebiaa.Tl
