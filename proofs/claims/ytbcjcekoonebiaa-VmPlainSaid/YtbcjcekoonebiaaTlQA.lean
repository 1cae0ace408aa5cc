/- How the arguments of this seat's laws are opened. Conditions: none. -/
import Derived.Test.YtbcjcekoonebiaaTlQ
import Derived.Test.YtbcjcekoonebiaaTlTblA
import Derived.KernelRfl
set_option linter.unusedVariables false
namespace Go.Proofs.Ytbcjcekoonebiaa.Tl
open Go Go.RowKit
section
variable {H : Type} {enc : TypeId × Value → H} {w : World} {base : Nat} {sp : Nat → Bool} {hd : Bool}
theorem open_V : ∀ (fuel : Nat) (cs : List Value) (x : DataW H × List MemPlace), DataW.trod enc Try.prog w base sp hd fuel 24 cs = some x → ∃ v : Val, RdL (Pw w) (valC v) cs ∧ ones cs ∧ RgV v := by
  intro fuel
  induction fuel using Nat.strongRecOn with
  | _ fuel ih =>
    intro cs x h
    obtain ⟨n, rfl, hl, hf⟩ := open_st Try.underlying24 h
    rw [show Try.prog.cellsOf 24 = 5 by kernel_rfl] at hl
    rcases cs with _ | ⟨c0, _ | ⟨c1, _ | ⟨c2, _ | ⟨c3, _ | ⟨c4, _ | ⟨c5, cs⟩⟩⟩⟩⟩⟩ <;> simp at hl
    obtain ⟨y0, g0⟩ := open_fd hf 0 rfl 3 0 1 rfl rfl (by kernel_rfl) (cs' := [c0]) rfl
    obtain ⟨y1, g1⟩ := open_fd hf 1 rfl 2 1 1 rfl rfl (by kernel_rfl) (cs' := [c1]) rfl
    obtain ⟨y2, g2⟩ := open_fd hf 2 rfl 4 2 1 rfl rfl (by kernel_rfl) (cs' := [c2]) rfl
    obtain ⟨y3, g3⟩ := open_fd hf 3 rfl 9 3 1 rfl rfl (by kernel_rfl) (cs' := [c3]) rfl
    obtain ⟨y4, g4⟩ := open_fd hf 4 rfl 22 4 1 rfl rfl (by kernel_rfl) (cs' := [c4]) rfl
    obtain ⟨k, e0, w0⟩ := open_i Try.underlying3 g0
    obtain ⟨i, e1, w1⟩ := open_i Try.underlying2 g1
    obtain ⟨b, e2⟩ := open_b Try.underlying4 g2
    obtain ⟨s, e3, _⟩ := open_s Try.underlying9 g3
    obtain ⟨l, u, e4, r4, o4, p4⟩ := open_sl Try.underlying22 valC RgV 5 (by kernel_rfl) (by decide) (fun _ => rfl) (fun m hm cs x hx => ih m (by omega) cs x hx) g4
    simp only [List.cons.injEq, and_true] at e0 e1 e2 e3 e4
    subst e0 e1 e2 e3 e4
    refine ⟨.mk k i b s l, ?_, ?_, in64_of w0, in64_of w1, RgVs_of p4⟩
    · rw [← encs_map] at r4
      simp only [RdL, Val.kind, Val.i, Val.b, Val.s, Val.t]
      exact ⟨by simp [Rd], by simp [Rd], by simp [Rd], by simp [Rd], r4, trivial⟩
    · intro u hu
      simp only [List.mem_cons, List.not_mem_nil, or_false] at hu
      rcases hu with rfl | rfl | rfl | rfl | rfl <;> first | rfl | exact o4
theorem open_slV (fuel : Nat) (cs : List Value) (x : DataW H × List MemPlace) (h : DataW.trod enc Try.prog w base sp hd fuel 22 cs = some x) : ∃ (l : List Val) (u : Value), cs = [u] ∧ Rd (Pw w) (.sl .ro 5 (encs l)) u ∧ u.oneCell' = true ∧ RgVs l := by
  obtain ⟨l, u, e4, r4, o4, p4⟩ := open_sl Try.underlying22 valC RgV 5 (by kernel_rfl) (by decide) (fun _ => rfl) (fun m hm cs x hx => open_V m cs x hx) h
  rw [← encs_map] at r4
  exact ⟨l, u, e4, r4, o4, RgVs_of p4⟩
theorem open_X : ∀ (fuel : Nat) (cs : List Value) (x : DataW H × List MemPlace), DataW.trod enc Try.prog w base sp hd fuel 27 cs = some x → ∃ v : Ex, RdL (Pw w) (exC v) cs ∧ ones cs ∧ RgE v := by
  intro fuel
  induction fuel using Nat.strongRecOn with
  | _ fuel ih =>
    intro cs x h
    obtain ⟨n, rfl, hl, hf⟩ := open_st Try.underlying27 h
    rw [show Try.prog.cellsOf 27 = 8 by kernel_rfl] at hl
    rcases cs with _ | ⟨c0, _ | ⟨c1, _ | ⟨c2, _ | ⟨c3, _ | ⟨c4, _ | ⟨c5, _ | ⟨c6, _ | ⟨c7, _ | ⟨c8, cs⟩⟩⟩⟩⟩⟩⟩⟩⟩ <;> simp at hl
    obtain ⟨y0, g0⟩ := open_fd hf 0 rfl 9 0 1 rfl rfl (by kernel_rfl) (cs' := [c0]) rfl
    obtain ⟨y1, g1⟩ := open_fd hf 1 rfl 24 1 5 rfl rfl (by kernel_rfl) (cs' := [c1, c2, c3, c4, c5]) rfl
    obtain ⟨y2, g2⟩ := open_fd hf 2 rfl 3 6 1 rfl rfl (by kernel_rfl) (cs' := [c6]) rfl
    obtain ⟨y3, g3⟩ := open_fd hf 3 rfl 25 7 1 rfl rfl (by kernel_rfl) (cs' := [c7]) rfl
    obtain ⟨s, e0, _⟩ := open_s Try.underlying9 g0
    obtain ⟨v, r1, o1, p1⟩ := open_V _ _ _ g1
    obtain ⟨i, e2, w2⟩ := open_i Try.underlying3 g2
    obtain ⟨l, u, e3, r3, o3, p3⟩ := open_sl Try.underlying25 exC RgE 8 (by kernel_rfl) (by decide) (fun _ => rfl) (fun m hm cs x hx => ih m (by omega) cs x hx) g3
    simp only [List.cons.injEq, and_true] at e0 e2 e3
    subst e0 e2 e3
    refine ⟨.mk s v i l, ?_, ?_, p1, in64_of w2, RgEs_of p3⟩
    · rw [← enxs_map] at r3
      simp only [RdL] at r1
      simp only [RdL, Ex.op, Ex.v, Ex.n, Ex.a]
      exact ⟨by simp [Rd], r1.1, r1.2.1, r1.2.2.1, r1.2.2.2.1, r1.2.2.2.2.1, by simp [Rd], r3, trivial⟩
    · intro u hu
      simp only [List.mem_cons, List.not_mem_nil, or_false] at hu
      rcases hu with rfl | rfl | rfl | rfl | rfl | rfl | rfl | rfl <;> first | rfl | exact o3 | (exact o1 _ (by simp))
theorem open_slB (fuel : Nat) (cs : List Value) (x : DataW H × List MemPlace) (h : DataW.trod enc Try.prog w base sp hd fuel 95 cs = some x) : ∃ (l : List Int) (u : Value), cs = [u] ∧ Rd (Pw w) (.sl .ro 1 (l.map fun x => [.int .u8 x])) u ∧ u.oneCell' = true ∧ ∀ n ∈ l, (Lit.int .u8 n).wf = true := by
  refine open_sl Try.underlying95 (fun x => [.int .u8 x]) (fun n => (Lit.int .u8 n).wf = true) 1 (by kernel_rfl) (by decide) (fun _ => rfl) (fun m hm cs x hx => ?_) h
  obtain ⟨n, rfl, wn⟩ := open_i Try.underlying5 hx
  refine ⟨n, by simp [RdL, Rd], ?_, wn⟩
  intro u hu
  simp only [List.mem_cons, List.not_mem_nil, or_false] at hu
  subst hu
  rfl
end
end Go.Proofs.Ytbcjcekoonebiaa.Tl
