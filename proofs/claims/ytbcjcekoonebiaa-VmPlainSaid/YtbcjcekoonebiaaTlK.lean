/- The tree logic, part K: the rules that a printed walk uses. Conditions: none. -/
import Derived.Test.YtbcjcekoonebiaaTlJ
set_option linter.unusedVariables false
set_option linter.unusedSimpArgs false
set_option linter.unusedSectionVars false
namespace Go.Proofs.Ytbcjcekoonebiaa.Tl
open Go Go.RowKit

/-- One result, out of a state. -/
def resV (T : TI) (E : List (Nat × AV)) (H : List (Nat × AObj)) : ResultVar → Option AV
  | .tmp t => lk E t
  | .cell p ty => match gt T.lay ty, lk E p with
    | some (g, n), some (.ptr id off) => match lk H id with
      | some (.box _ cells) => valA g n (cells.drop off)
      | _ => none
    | _, _ => none
def resL (T : TI) (E : List (Nat × AV)) (H : List (Nat × AObj)) : List ResultVar → Option (List AV)
  | [] => some []
  | r :: rs => match resV T E H r, resL T E H rs with
    | some x, some l => some (x :: l)
    | _, _ => none
theorem resV_ok {P : Program} {T : TI} (hT : T.Good P) {n : Nat} {E : List (Nat × AV)} {H : List (Nat × AObj)} {r : ResultVar} {x : AV} (h : resV T E H r = some x) : Res1 P r (mkS n E H) x := by
  cases r with
  | tmp t => exact Res1.tmp h
  | cell p ty =>
    simp only [resV] at h
    split at h
    · rename_i g m id off h1 h2
      split at h
      · rename_i t cells h3
        exact Res1.cell h2 h3 (hT.lay h1) h
      · cases h
    · cases h
theorem resL_ok {P : Program} {T : TI} (hT : T.Good P) {n : Nat} {E : List (Nat × AV)} {H : List (Nat × AObj)} : ∀ {rs : List ResultVar} {xs : List AV}, resL T E H rs = some xs →
    xs.length = rs.length ∧ ∀ (i : Nat) (rv : ResultVar) (x : AV), rs[i]? = some rv → xs[i]? = some x → Res1 P rv (mkS n E H) x
  | [], xs, h => by simp only [resL] at h; injection h with h; subst h; simp
  | r :: rs, xs, h => by
    simp only [resL] at h
    split at h
    · rename_i x l h1 h2
      injection h with h
      subst h
      obtain ⟨k1, k2⟩ := resL_ok hT (n := n) h2
      refine ⟨by simp [k1], fun i rv y h3 h4 => ?_⟩
      cases i with
      | zero => simp at h3 h4; subst h3 h4; exact resV_ok hT h1
      | succ i => exact k2 i rv y (by simpa using h3) (by simpa using h4)
    · cases h

theorem ResA.of {P : Program} {T : TI} (hT : T.Good P) {fn : Func} {rs : List ResultVar} {n : Nat} {E : List (Nat × AV)} {H : List (Nat × AObj)} {xs : List AV} (hr : fn.results.toList = rs) (h : resL T E H rs = some xs) : ResA P fn (mkS n E H) (tupA xs) :=
  let ⟨k1, k2⟩ := resL_ok hT (n := n) h
  ResA.mk hr k1 k2

theorem RetQ.mk {P : Program} {T : TI} (hT : T.Good P) {fn : Func} {e : Exit} {rs : List ResultVar} {n : Nat} {E : List (Nat × AV)} {H : List (Nat × AObj)} {xs : List AV} {res : AV} (he : e = .normal ∨ e = .ret) (hr : fn.results.toList = rs) (h : resL T E H rs = some xs) (hp : Wk (fz (lk H) (tupA xs)) res) :
    RetQ P fn res e (mkS n E H) := ⟨he, _, ResA.of hT hr h, hp⟩

/-- A function's body, from its arguments. -/
theorem ACall.go {P : Program} {f : FuncId} {fn : Func} {c : Code} {args : List AV} {res : AV} {n : Nat} (E : List (Nat × AV)) (hf : P.funcs[f]? = some fn) (hb : fn.body = some c) (hn : fn.ntmps = n) (hE : (List.range args.length).zip args = E) (hl : Nat.ble args.length n = true) (hp : pureA res = true)
    (h : AW P (fun _ => false) c (RetQ P fn res) (mkS n E [])) : ACall P f args res := by
  subst hn hE
  refine ACall.body hf hb (Nat.le_of_ble_eq_true hl) hp ?_
  rw [argE_lk]
  exact h

/-- A guard, or a truth, is told apart. -/
theorem AL.cs {P : Program} {ops : Array Oper} {M : Nat → Mk} {l : List Oper} {i n : Nat} {E : List (Nat × AV)} {H : List (Nat × AObj)} {Q : St → Prop} (d : Nat) {c : Bool} (hd : lk E d = some (.bool c))
    (h1 : c = true → AL P ops M l i (mkS n ((d, .bool true) :: E) H) Q) (h0 : c = false → AL P ops M l i (mkS n ((d, .bool false) :: E) H) Q) : AL P ops M l i (mkS n E H) Q := by
  have key : lk ((d, .bool c) :: E) = lk E := by
    rw [lk_cons]
    funext k
    simp only [upd]
    split
    · rename_i h; rw [h, hd]
    · rfl
  unfold mkS at *
  cases c with
  | true => have := h1 rfl; rw [key] at this; exact this
  | false => have := h0 rfl; rw [key] at this; exact this

section
variable {P : Program} {T : TI} (hT : T.Good P) {ops : Array Oper} {M : Nat → Mk} {o : Oper} {rest : List Oper} {i n : Nat} [nc : NC M i] {E : List (Nat × AV)} {H : List (Nat × AObj)} {Q : St → Prop}
include hT

/-- An element's place. -/
theorem AL.ix {d : Nat} (hd : o.dst = some d) (hn : Nat.blt d n = true) (hg : gdec ops (lk E) o = some true) {ty : TypeId} {x j : Operand} (ho : o.op = .indexAddr ty x j) {e sz : Nat} (he : gt T.elm ty = some (e, sz)) {tag : Tag} {rows : List (List AV)} (hx : evE E x = some (.sl tag sz rows))
    {kd : IntKind} {m : Int} (hj : evE E j = some (.int kd m)) (h0 : 0 ≤ m) {r : List AV} (hr : rows[m.toNat]? = some r)
    (k : AL P ops M rest (i + 1) (mkS n ((d, .ep r) :: E) H) Q) : AL P ops M (o :: rest) i (mkS n E H) Q := by
  refine AL.v hT hd hn hg (v := .ep r) (rd := []) ?_ k
  rw [ho]
  simp only [aval, he, hx, hj]
  rw [if_pos h0, hr]
  simp
end

theorem AW.if {P : Program} {S : Nat → Bool} {Q : Exit → St → Prop} {c : Operand} {x y : Code} {n : Nat} {E : List (Nat × AV)} {H : List (Nat × AObj)} {b : Bool} (hc : evE E c = some (.bool b)) (h1 : b = true → AW P S x Q (mkS n E H)) (h0 : b = false → AW P S y Q (mkS n E H)) : AW P S (.cond c x y) Q (mkS n E H) :=
  AW.cond (by rw [ev_lk]; exact hc) h1 h0

end Go.Proofs.Ytbcjcekoonebiaa.Tl
