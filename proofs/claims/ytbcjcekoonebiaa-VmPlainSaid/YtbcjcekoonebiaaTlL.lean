/- The tree logic, part L: pure values, calls with them, loops over list states, numbers. Conditions: none. -/
import Derived.Test.YtbcjcekoonebiaaTlK
set_option linter.unusedVariables false
set_option linter.unusedSimpArgs false
set_option linter.unusedSectionVars false
namespace Go.Proofs.Ytbcjcekoonebiaa.Tl
open Go Go.RowKit

mutual
theorem pu_pure : ∀ x : AV, pureA x = true → pu x = x
  | .undef, _ => rfl
  | .bool _, _ => rfl
  | .int _ _, _ => rfl
  | .str _, _ => rfl
  | .nilp, _ => rfl
  | .ptr _ _, _ => rfl
  | .nilf, _ => rfl
  | .ep cells, h => by simp only [pureA, inA] at h; simp only [pu, puL_pure cells h]
  | .sl tag sz rows, h => by
    simp only [pureA, inA, Bool.and_eq_true] at h
    simp only [pu, puR_pure rows h.2]
    cases tag <;> simp_all
  | .func f a b, h => by simp only [pureA, inA, Bool.and_eq_true] at h; simp only [pu, puL_pure a h.1, puL_pure b h.2]
  | .agg cells, h => by simp only [pureA, inA] at h; simp only [pu, puL_pure cells h]
  | .tup vs, h => by simp only [pureA, inA] at h; simp only [pu, puL_pure vs h]
theorem puL_pure : ∀ l : List AV, pureL l = true → puL l = l
  | [], _ => rfl
  | x :: xs, h => by simp only [pureL, inL, Bool.and_eq_true] at h; simp only [puL, pu_pure x h.1, puL_pure xs h.2]
theorem puR_pure : ∀ l : List (List AV), pureR l = true → puR l = l
  | [], _ => rfl
  | x :: xs, h => by simp only [pureR, inR, Bool.and_eq_true] at h; simp only [puR, puL_pure x h.1, puR_pure xs h.2]
end

mutual
theorem Wk.refl : ∀ x : AV, Wk x x
  | .int _ _ => ⟨rfl, rfl⟩
  | .bool _ => rfl
  | .str _ => rfl
  | .undef => rfl
  | .nilp => rfl
  | .nilf => rfl
  | .ptr _ _ => rfl
  | .mv _ _ _ => rfl
  | .ep _ => rfl
  | .func _ _ _ => rfl
  | .sl _ _ _ => ⟨.inl rfl, rfl, .inl rfl⟩
  | .agg l => WkL.refl l
  | .tup l => WkL.refl l
theorem WkL.refl : ∀ l : List AV, WkL l l
  | [] => trivial
  | x :: xs => ⟨Wk.refl x, WkL.refl xs⟩
end
mutual
theorem fz_pure (H : Nat → Option AObj) : ∀ x : AV, pureA x = true → fz H x = x
  | .undef, _ => rfl
  | .bool _, _ => rfl
  | .int _ _, _ => rfl
  | .str _, _ => rfl
  | .nilp, _ => rfl
  | .nilf, _ => rfl
  | .ptr _ _, h => by simp [pureA, inA] at h
  | .mv _ _ _, h => by simp [pureA, inA] at h
  | .ep cells, h => by simp only [pureA, inA] at h; simp only [fz, fzL_pure H cells h]
  | .sl tag sz rows, h => by
    simp only [pureA, inA, Bool.and_eq_true] at h
    simp only [fz, fzR_pure H rows h.2]
    cases tag <;> simp_all
  | .func f a b, h => by simp only [pureA, inA, Bool.and_eq_true] at h; simp only [fz, fzL_pure H a h.1, fzL_pure H b h.2]
  | .agg cells, h => by simp only [pureA, inA] at h; simp only [fz, fzL_pure H cells h]
  | .tup vs, h => by simp only [pureA, inA] at h; simp only [fz, fzL_pure H vs h]
theorem fzL_pure (H : Nat → Option AObj) : ∀ l : List AV, pureL l = true → fzL H l = l
  | [], _ => rfl
  | x :: xs, h => by simp only [pureL, inL, Bool.and_eq_true] at h; simp only [fzL, fz_pure H x h.1, fzL_pure H xs h.2]
theorem fzR_pure (H : Nat → Option AObj) : ∀ l : List (List AV), pureR l = true → fzR H l = l
  | [], _ => rfl
  | x :: xs, h => by simp only [pureR, inR, Bool.and_eq_true] at h; simp only [fzR, fzL_pure H x h.1, fzR_pure H xs h.2]
end

section
variable {P : Program} {T : TI} (hT : T.Good P) {ops : Array Oper} {M : Nat → Mk} {o : Oper} {rest : List Oper} {i n : Nat} [nc : NC M i] {E : List (Nat × AV)} {H : List (Nat × AObj)} {Q : St → Prop}
include hT
/-- A call with pure arguments. -/
theorem AL.clp {d : Nat} (hd : o.dst = some d) (hn : Nat.blt d n = true) (hg : gdec ops (lk E) o = some true) {cf : Operand} {args : Array Operand} {tys : Array TypeId} (ho : o.op = .call { callee := .value cf, args := args, argTypes := tys }) {f : FuncId} {first caps : List AV}
    (hf : evE E cf = some (.func f first caps)) (hc : gt T.fns f = some true) {as : List AV} (ha : listA (evE E) args.toList = some as) {res : AV} (h : ACall P f (first ++ as ++ caps) res) (hp : pureL (first ++ as ++ caps) = true)
    (k : AL P ops M rest (i + 1) (mkS n ((d, res) :: E) H) Q) : AL P ops M (o :: rest) i (mkS n E H) Q :=
  AL.cl hT hd hn hg ho hf hc ha (puL_pure _ hp) hp h k
/-- A call with arguments of the call's own. -/
theorem AL.clo {d : Nat} (hd : o.dst = some d) (hn : Nat.blt d n = true) (hg : gdec ops (lk E) o = some true) {cf : Operand} {args : Array Operand} {tys : Array TypeId} (ho : o.op = .call { callee := .value cf, args := args, argTypes := tys }) {f : FuncId} {first caps : List AV}
    (hf : evE E cf = some (.func f first caps)) (hc : gt T.fns f = some true) {as : List AV} (ha : listA (evE E) args.toList = some as) {xs : List AV} {res : AV} (h : ACall P f xs res) (hx : puL (first ++ as ++ caps) = xs) (hp : pureL xs = true)
    (k : AL P ops M rest (i + 1) (mkS n ((d, res) :: E) H) Q) : AL P ops M (o :: rest) i (mkS n E H) Q :=
  AL.cl hT hd hn hg ho hf hc ha hx hp h k
end

/-- What of a state is kept. -/
def Trims (S : Nat → Bool) (E : List (Nat × AV)) (H : List (Nat × AObj)) (E' : List (Nat × AV)) (H' : List (Nat × AObj)) : Prop :=
  (∀ id, S id = true → idsIn H' id = true) ∧ (∀ p ∈ E', lk E p.1 = some p.2 ∧ inA (idsIn H') p.2 = true) ∧ (∀ p ∈ H', lk H p.1 = some p.2 ∧ inO (idsIn H') p.2 = true)

/-- A loop over list states. -/
theorem AW.lp {P : Program} {S : Nat → Bool} {Q : Exit → St → Prop} {c : Code} {n : Nat} {E : List (Nat × AV)} {H : List (Nat × AObj)} {α : Type} (E' : α → List (Nat × AV)) (H' : α → List (Nat × AObj)) (φ : α → Prop) (μ : α → Nat) (x0 : α)
    (h0 : Trims S E H (E' x0) (H' x0)) (hφ : φ x0)
    (round : ∀ x, φ x → AW P S c (AThen (fun s' => ∃ y E2 H2, s' = mkS n E2 H2 ∧ Trims S E2 H2 (E' y) (H' y) ∧ φ y ∧ μ y < μ x) Q) (mkS n (E' x) (H' x))) : AW P S (.loop c) Q (mkS n E H) := by
  refine AW.loop (fun x s => ∃ E2 H2, s = mkS n E2 H2 ∧ Trims S E2 H2 (E' x) (H' x) ∧ φ x) μ x0 ⟨E, H, rfl, h0, hφ⟩ ?_
  rintro x s ⟨E2, H2, rfl, ht, hx⟩
  refine AW.trim (E' x) (H' x) ht.1 ht.2.1 ht.2.2 ?_
  refine AW.mono (round x hx) ?_
  rintro e s h
  cases e with
  | normal =>
    obtain ⟨y, E3, H3, h1, h2, h3, h4⟩ := h
    exact ⟨y, ⟨E3, H3, h1, h2, h3⟩, h4⟩
  | _ => exact h

theorem wrap64 {a : Int} (h1 : -9223372036854775808 ≤ a) (h2 : a ≤ 9223372036854775807) : IntKind.i64.wrap a = a := by
  rw [IntKind.wrap_i64]; omega

end Go.Proofs.Ytbcjcekoonebiaa.Tl
