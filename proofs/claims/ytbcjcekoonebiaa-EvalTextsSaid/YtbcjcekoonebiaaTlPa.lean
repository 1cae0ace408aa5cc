/- The plain laws EvalNums and EvalTexts. Conditions: none. -/
import Derived.Test.YtbcjcekoonebiaaTlXn
set_option linter.unusedVariables false
set_option linter.unusedSimpArgs false
namespace Go.Proofs.Ytbcjcekoonebiaa.Tl
open Go Go.RowKit

theorem W64_shift (x k : Int) : W64 (x + 18446744073709551616 * k) = W64 x := by
  simp only [W64, IntKind.wrap_i64]; omega
theorem W64_ex (x : Int) : ∃ k, W64 x = x + 18446744073709551616 * k := by
  refine ⟨-((x + 9223372036854775808) / 18446744073709551616), ?_⟩
  simp only [W64, IntKind.wrap_i64]; omega
theorem W64_add_left (x y : Int) : W64 (W64 x + y) = W64 (x + y) := by
  obtain ⟨k, hk⟩ := W64_ex x
  rw [hk, show x + 18446744073709551616 * k + y = x + y + 18446744073709551616 * k by omega, W64_shift]
theorem W64_mul_left (x y : Int) : W64 (W64 x * y) = W64 (x * y) := by
  obtain ⟨k, hk⟩ := W64_ex x
  rw [hk, show (x + 18446744073709551616 * k) * y = x * y + 18446744073709551616 * (k * y) by rw [Int.add_mul, Int.mul_assoc], W64_shift]
theorem W64_divmod (a b : Int) (h1 : -9223372036854775808 ≤ a) (h2 : a ≤ 9223372036854775807) : W64 (W64 (W64 (a.tdiv b) * b) + a.tmod b) = a := by
  rw [W64_mul_left, W64_add_left, Int.mul_comm, Int.mul_tdiv_add_tmod]
  exact wrap64 h1 h2
theorem cmpI_self (a : Int) : cmpI a a = 0 := by simp [cmpI]
theorem cmpL_self : ∀ l : List UInt8, Lib.compareBytes l l = 0
  | [] => rfl
  | x :: l => by
    have hx : ¬ x < x := fun h => by simp at h
    simp [Lib.compareBytes, cmpL_self l, hx]
theorem cmpB_self (a : ByteArray) : cmpB a a = 0 := cmpL_self _
theorem cmpV_int (a b : Int) : cmpV (intV a) (intV b) = cmpI a b := by
  have h1 : cmpI 1 1 = 0 := rfl
  have h2 : cmpI (bI false) (bI false) = 0 := rfl
  have h3 : cmpB ⟨#[]⟩ ⟨#[]⟩ = 0 := rfl
  simp only [intV, cmpV, Val.kind, Val.i, Val.b, Val.s, Val.t, h1, h2, h3, orI, if_true, cmpVs]
  split <;> simp_all
theorem cmpV_str (a b : ByteArray) : cmpV (strV a) (strV b) = cmpB a b := by
  have h1 : cmpI 3 3 = 0 := rfl
  have h2 : cmpI (bI false) (bI false) = 0 := rfl
  have h3 : cmpI 0 0 = 0 := rfl
  simp only [strV, cmpV, Val.kind, Val.i, Val.b, Val.s, Val.t, h1, h2, h3, orI, if_true, cmpVs]
  by_cases h : cmpB a b = 0 <;> simp [h]
theorem cmpI_lt (a b : Int) : decide (cmpI a b < 0) = decide (a < b) := by
  unfold cmpI
  by_cases h : a < b
  · simp [h]
  · simp only [h, if_false]
    split <;> simp
theorem cmpL_lt : ∀ a b : List UInt8, decide (Lib.compareBytes a b < 0) = Op.bytesLess a b
  | [], [] => rfl
  | [], _ :: _ => rfl
  | _ :: _, [] => rfl
  | x :: a, y :: b => by
    have ih := cmpL_lt a b
    rcases Nat.lt_trichotomy x.toNat y.toNat with h | h | h
    · have h1 : x < y := h
      simp [Lib.compareBytes, Op.bytesLess, h1]
    · have h1 : x = y := UInt8.toNat_inj.1 h
      subst h1
      have hx : ¬ x < x := fun h => by simp at h
      simp [Lib.compareBytes, Op.bytesLess, hx]
      simpa using ih
    · have h1 : y < x := h
      have h2 : ¬ x < y := fun q => by have q : x.toNat < y.toNat := q; omega
      have h3 : ¬ x = y := fun q => by subst q; omega
      simp [Lib.compareBytes, Op.bytesLess, h1, h2, h3]
theorem cmpL_eq0 : ∀ a b : List UInt8, (Lib.compareBytes a b == 0) = (a == b)
  | [], [] => rfl
  | [], _ :: _ => rfl
  | _ :: _, [] => rfl
  | x :: a, y :: b => by
    have ih := cmpL_eq0 a b
    rcases Nat.lt_trichotomy x.toNat y.toNat with h | h | h
    · have h1 : x < y := h
      have h3 : ¬ x = y := fun q => by subst q; omega
      simp [Lib.compareBytes, h1, h3]
    · have h1 : x = y := UInt8.toNat_inj.1 h
      subst h1
      have hx : ¬ x < x := fun h => by simp at h
      simp [Lib.compareBytes, hx]
      simpa using ih
    · have h1 : y < x := h
      have h2 : ¬ x < y := fun q => by have q : x.toNat < y.toNat := q; omega
      have h3 : ¬ x = y := fun q => by subst q; omega
      simp [Lib.compareBytes, h1, h2, h3]
theorem tmod_sign (a b : Int) (h : a.tmod b ≠ 0) : decide (a.tmod b < 0) = decide (a < 0) := by
  rcases Int.lt_or_le a 0 with ha | ha
  · have h1 : a.tmod b ≤ 0 := by
      have := Int.tmod_nonneg (a := -a) b (by omega)
      rw [Int.neg_tmod] at this
      omega
    simp [ha, show a.tmod b < 0 by omega]
  · have := Int.tmod_nonneg (a := a) b ha
    simp [show ¬ a < 0 by omega, show ¬ a.tmod b < 0 by omega]

abbrev atE (n : Int) : Ex := .mk ⟨#[97, 116]⟩ zeroV n [xE]
abbrev two (a b : Int) : Val := tupV [intV a, intV b]
abbrev twoS (a b : ByteArray) : Val := tupV [strV a, strV b]
theorem ev_add (a b : Int) : evalS (opE ⟨#[97, 100, 100]⟩ [atE 0, atE 1]) (two a b) = some (intV (W64 (a + b)), 0) := rfl
theorem ev_sub (a b : Int) : evalS (opE ⟨#[115, 117, 98]⟩ [atE 0, atE 1]) (two a b) = some (intV (W64 (a - b)), 0) := rfl
theorem ev_mul (a b : Int) : evalS (opE ⟨#[109, 117, 108]⟩ [atE 0, atE 1]) (two a b) = some (intV (W64 (a * b)), 0) := rfl
theorem ev_neg (a b : Int) : evalS (opE ⟨#[110, 101, 103]⟩ [atE 0]) (two a b) = some (intV (W64 (0 - a)), 0) := rfl
theorem ev_div (a b : Int) : evalS (opE ⟨#[100, 105, 118]⟩ [atE 0, atE 1]) (two a b) = if b = 0 then some (zeroV, 8) else some (intV (W64 (a.tdiv b)), 0) := rfl
theorem ev_rem (a b : Int) : evalS (opE ⟨#[114, 101, 109]⟩ [atE 0, atE 1]) (two a b) = if b = 0 then some (zeroV, 8) else some (intV (a.tmod b), 0) := rfl
theorem ev_lt (a b : Int) : evalS (opE ⟨#[108, 116]⟩ [atE 0, atE 1]) (two a b) = some (boolV (decide (cmpV (intV a) (intV b) < 0)), 0) := rfl

theorem s4 (a b : Int) (h1 : -9223372036854775808 ≤ a) (h2 : a ≤ 9223372036854775807) : s_f4 0 a b = some true := by
  unfold s_f4
  rw [show tupS [Val.mk 1 a false ⟨#[]⟩ [], Val.mk 1 b false ⟨#[]⟩ []] = some (two a b) from rfl]
  simp only [Option.bind_some]
  rw [ev_add, ev_sub, ev_mul, ev_neg, ev_div, ev_rem, ev_lt]
  have h0 : IntKind.i64.wrap 0 = 0 := rfl
  by_cases hb : b = 0
  · subst hb
    simp [Val.i, Val.b, cmpV_int, cmpI_lt, h0]
  · simp only [if_neg hb, Option.bind_some]
    have hd := W64_divmod a b h1 h2
    simp [Val.i, Val.b, cmpV_int, cmpI_lt, h0, hb]
    have hd' : IntKind.i64.wrap (IntKind.i64.wrap (W64 (a.tdiv b) * b) + a.tmod b) = a := hd
    rw [hd', show (b == 0) = false by simpa using hb]
    by_cases hm : a.tmod b = 0
    · simp [hm]
    · have q : (a.tmod b < 0) ↔ (a < 0) := by simpa using tmod_sign a b hm
      simp [q]

theorem evt_cat (a b : ByteArray) : evalS (opE ⟨#[99, 97, 116]⟩ [atE 0, atE 1]) (twoS a b) = if a.size + b.size ≤ 9223372036854775807 then (if 255 < a.size + b.size then some (zeroV, 4) else some (strV (a ++ b), 0)) else none := rfl
theorem evt_len (a b : ByteArray) : evalS (opE ⟨#[108, 101, 110]⟩ [atE 0]) (twoS a b) = some (intV a.size, 0) := rfl
theorem evt_lt (a b : ByteArray) : evalS (opE ⟨#[108, 116]⟩ [atE 0, atE 1]) (twoS a b) = some (boolV (decide (cmpV (strV a) (strV b) < 0)), 0) := rfl
theorem evt_eq (a b : ByteArray) : evalS (opE ⟨#[101, 113]⟩ [atE 0, atE 1]) (twoS a b) = some (boolV (cmpV (strV a) (strV b) == 0), 0) := rfl
theorem s6 (a b : ByteArray) : s_f6 0 a b = some true := by
  unfold s_f6
  rw [show tupS [Val.mk 3 0 false a [], Val.mk 3 0 false b []] = some (twoS a b) from rfl]
  simp only [Option.bind_some]
  rw [evt_cat, evt_len, evt_lt, evt_eq]
  have h0 : IntKind.i64.wrap 0 = 0 := rfl
  have h9 : evalS (Ex.mk ⟨#[108, 101, 110]⟩ (Val.mk 0 0 false ⟨#[]⟩ []) 0 [atE 0]) (twoS a b) = some (intV a.size, 0) := rfl
  by_cases hl : a.size > 255 ∨ b.size > 255
  · have hq : (decide ((a.size : Int) > 255) || decide ((b.size : Int) > 255)) = true := by simp; omega
    rw [hq]
    rfl
  · have hs : a.size + b.size ≤ 9223372036854775807 := by omega
    have hw : IntKind.i64.wrap ((a.size : Int) + (b.size : Int)) = (a.size : Int) + (b.size : Int) := wrap64 (by omega) (by omega)
    rw [if_pos hs]
    have hq : (decide ((a.size : Int) > 255) || decide ((b.size : Int) > 255)) = false := by simp; omega
    rw [hq]
    simp only [cond_false]
    by_cases hb : 255 < a.size + b.size
    · rw [if_pos hb]
      simp only [Option.bind_some, Bool.not_true, cond_false, Val.i, Val.b, Val.s, cmpV_str, cmpL_lt, cmpL_eq0, hw]
      rw [show decide ((a.size : Int) + (b.size : Int) > 255) = true by simp; omega]
      simp [h0]
    · rw [if_neg hb]
      simp only [Option.bind_some, Bool.not_true, cond_false, Val.i, Val.b, Val.s, cmpV_str, cmpL_lt, cmpL_eq0, hw]
      rw [show decide ((a.size : Int) + (b.size : Int) > 255) = false by simp; omega]
      simp [h0]
      omega

end Go.Proofs.Ytbcjcekoonebiaa.Tl
