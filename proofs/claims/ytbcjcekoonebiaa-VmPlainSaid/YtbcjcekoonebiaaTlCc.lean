/- What is known of machines. Conditions: none. -/
import Derived.Test.YtbcjcekoonebiaaTlCb
set_option linter.unusedVariables false
set_option linter.unusedSimpArgs false
namespace Go.Proofs.Ytbcjcekoonebiaa.Tl
open Go Go.RowKit
abbrev v0' : Val := .mk 0 0 false ⟨#[]⟩ []
abbrev iV (i : Int) : Val := .mk 1 i false ⟨#[]⟩ []
abbrev iX : GInst := ⟨⟨#[120]⟩, v0', 0⟩
abbrev iPush (v : Val) : GInst := ⟨⟨#[112, 117, 115, 104]⟩, v, 0⟩
abbrev iDiv : GInst := ⟨⟨#[100, 105, 118]⟩, v0', 0⟩
abbrev iEmit (n : Int) : GInst := ⟨⟨#[101, 109, 105, 116]⟩, v0', n⟩
abbrev iRet : GInst := ⟨⟨#[114, 101, 116]⟩, v0', 0⟩
theorem kn1 : Ev (fun n => s_f40 n [iX, iX, iEmit 2, iRet] (iV 3)) ([iV 3, iV 3], 0) :=
  e40 (run_step rfl rfl rfl rfl (st' := [iV 3]) (out' := []) rfl (by decide) (by decide) (by decide) (run_step rfl rfl rfl rfl (st' := [iV 3, iV 3]) (out' := []) rfl (by decide) (by decide) (by decide) (run_step rfl rfl rfl rfl (st' := []) (out' := [iV 3, iV 3]) rfl (by decide) (by decide) (by decide) (run_ret rfl rfl _ _))) 0)
abbrev kq : List GInst := [iPush (iV 6), iX, iDiv, iEmit 1, iRet]
theorem kn2 : Ev (fun n => s_f40 n kq (iV 3)) ([iV 2], 0) :=
  e40 (run_step rfl rfl rfl rfl (st' := [iV 6]) (out' := []) rfl (by decide) (by decide) (by decide) (run_step rfl rfl rfl rfl (st' := [iV 6, iV 3]) (out' := []) rfl (by decide) (by decide) (by decide) (run_step rfl rfl rfl rfl (st' := [iV 2]) (out' := []) rfl (by decide) (by decide) (by decide) (run_step rfl rfl rfl rfl (st' := []) (out' := [iV 2]) rfl (by decide) (by decide) (by decide) (run_ret rfl rfl _ _)))) 0)
theorem kn3 : Ev (fun n => s_f40 n kq (iV 0)) ([], 8) :=
  e40 (run_step rfl rfl rfl rfl (st' := [iV 6]) (out' := []) rfl (by decide) (by decide) (by decide) (run_step rfl rfl rfl rfl (st' := [iV 6, iV 0]) (out' := []) rfl (by decide) (by decide) (by decide) (run_err rfl rfl rfl rfl (st' := []) (out' := []) rfl (by decide) (by decide) (by decide))) 0)
theorem kn4 : Ev (fun n => s_f44 n [[iX, iX, iEmit 2, iRet], kq] (iV 3)) ([iV 2, iV 2], []) := by
  have a : ChE [[iX, iX, iEmit 2, iRet], kq] 1 (iV 3) [iV 2] [] := ch_run rfl (by decide) kn2 ⟨[iV 2], [], [], [], rfl, rfl, ch_end _ _, rfl, rfl⟩
  exact e44 (ch_run rfl (by decide) kn1 ⟨[iV 2], [], [iV 2], [], rfl, rfl, a, [iV 2], [], [], [], rfl, rfl, a, rfl, rfl⟩) (by decide) (by decide)
theorem kn5 : Ev (fun n => s_f44 n [kq] (iV 0)) ([], [⟨0, iV 0⟩]) :=
  e44 (ch_run (k := 0) rfl (by decide) kn3 (o := []) (m := []) ⟨rfl, rfl⟩) (by decide) (by decide)
theorem e36 : Ev (fun n => s_f36 n) true := by
  unfold s_f36
  exact Ev.bind kn1 (Ev.bind kn4 (Ev.bind kn5 (Ev.bind kn3 (Ev.t rfl (Ev.t rfl (Ev.t rfl (Ev.bindc rfl (Ev.t rfl (Ev.t rfl (Ev.t rfl (Ev.bindc rfl (Ev.t rfl (Ev.bindc rfl (Ev.t rfl (Ev.mk _)))))))))))))))
end Go.Proofs.Ytbcjcekoonebiaa.Tl
