/- Values in bytes, and back, as plain functions. Conditions: none. -/
import Derived.Test.YtbcjcekoonebiaaTlBa
import Derived.Test.YtbcjcekoonebiaaTlQ
set_option linter.unusedVariables false
set_option linter.unusedSimpArgs false
namespace Go.Proofs.Ytbcjcekoonebiaa.Tl
open Go Go.RowKit

/-! ### signed numbers -/
def zz (i : Int) : Nat := if i < 0 then (-2 * i - 1).toNat else (2 * i).toNat
theorem zz_lt {i : Int} (h : in64 i) : zz i < 18446744073709551616 := by unfold zz; split <;> omega
theorem xorM {a : Nat} (h : a < 18446744073709551616) : bits .xor .u64 (a : Int) 18446744073709551615 = ((18446744073709551615 - a : Nat) : Int) := by
  have h1 : (BitVec.ofInt 64 (a : Int)).toNat = a := by
    rw [BitVec.ofInt_natCast, BitVec.toNat_ofNat]; exact Nat.mod_eq_of_lt (by omega)
  show IntKind.u64.wrap ((BitVec.ofInt 64 (a : Int) ^^^ BitVec.ofInt 64 18446744073709551615).toNat : Int) = _
  rw [show BitVec.ofInt 64 18446744073709551615 = BitVec.allOnes 64 by decide, BitVec.xor_allOnes, BitVec.toNat_not, h1, IntKind.wrap_u64]
  omega
theorem xorM' {a : Nat} (h : a < 18446744073709551616) : bits .xor .u64 18446744073709551615 (a : Int) = ((18446744073709551615 - a : Nat) : Int) := by
  rw [← xorM h]
  show IntKind.u64.wrap ((BitVec.ofInt 64 18446744073709551615 ^^^ BitVec.ofInt 64 (a : Int)).toNat : Int) = IntKind.u64.wrap ((BitVec.ofInt 64 (a : Int) ^^^ BitVec.ofInt 64 18446744073709551615).toNat : Int)
  rw [BitVec.xor_comm]
theorem xor0 {a : Nat} (h : a < 18446744073709551616) : bits .xor .u64 (a : Int) 0 = (a : Int) := by
  have := bits_xor_u64_nat a 0 h (by decide)
  rw [Nat.xor_zero] at this
  exact this
theorem sh1 {i : Int} (h : in64 i) : IntKind.u64.wrap ((IntKind.u64.wrap i) * 2 ^ 1) = if i < 0 then ((18446744073709551616 + 2 * i).toNat : Int) else ((2 * i).toNat : Int) := by
  rw [IntKind.wrap_u64, IntKind.wrap_u64, show (2 : Int) ^ 1 = 2 from rfl]
  split <;> omega
theorem zz46 {i : Int} (h : in64 i) : bits .xor .u64 (IntKind.u64.wrap ((IntKind.u64.wrap i) * 2 ^ 1)) (IntKind.u64.wrap (i.fdiv (2 ^ 63))) = (zz i : Int) := by
  rw [sh1 h, show (2 : Int) ^ 63 = 9223372036854775808 from rfl, Int.fdiv_eq_ediv_of_nonneg _ (by decide)]
  unfold zz
  split
  · rw [show IntKind.u64.wrap (i / 9223372036854775808) = 18446744073709551615 by rw [IntKind.wrap_u64]; omega, xorM (by omega)]
    omega
  · rw [show IntKind.u64.wrap (i / 9223372036854775808) = 0 by rw [IntKind.wrap_u64]; omega, xor0 (by omega)]
theorem zzn {i : Int} (h : in64 i) (hi : i < 0) : bits .xor .u64 (if IntKind.u64.signed then -1 else IntKind.u64.max) (IntKind.u64.wrap ((IntKind.u64.wrap i) * 2 ^ 1)) = (zz i : Int) := by
  rw [sh1 h, if_pos hi, show (if IntKind.u64.signed then -1 else IntKind.u64.max) = 18446744073709551615 from rfl, xorM' (by omega)]
  unfold zz
  rw [if_pos hi]
  omega
theorem zzp {i : Int} (h : in64 i) (hi : ¬ i < 0) : IntKind.u64.wrap ((IntKind.u64.wrap i) * 2 ^ 1) = (zz i : Int) := by
  rw [sh1 h, if_neg hi]
  unfold zz
  rw [if_neg hi]
theorem xori {a : Nat} (h : a < 9223372036854775808) : bits .xor .i64 (a : Int) 0 = (a : Int) := by
  have h1 : (BitVec.ofInt 64 (a : Int)).toNat = a := by
    rw [BitVec.ofInt_natCast, BitVec.toNat_ofNat]; exact Nat.mod_eq_of_lt (by omega)
  show IntKind.i64.wrap ((BitVec.ofInt 64 (a : Int) ^^^ BitVec.ofInt 64 0).toNat : Int) = _
  rw [show BitVec.ofInt 64 0 = 0#64 by decide, BitVec.xor_zero, h1, wrap64 (by omega) (by omega)]
theorem xorn {a : Nat} (h : a < 9223372036854775808) : bits .xor .i64 (a : Int) (-1) = -1 - (a : Int) := by
  have h1 : (BitVec.ofInt 64 (a : Int)).toNat = a := by
    rw [BitVec.ofInt_natCast, BitVec.toNat_ofNat]; exact Nat.mod_eq_of_lt (by omega)
  show IntKind.i64.wrap ((BitVec.ofInt 64 (a : Int) ^^^ BitVec.ofInt 64 (-1)).toNat : Int) = _
  rw [show BitVec.ofInt 64 (-1) = BitVec.allOnes 64 by decide, BitVec.xor_allOnes, BitVec.toNat_not, h1, IntKind.wrap_i64]
  omega
theorem unzz {i : Int} (h : in64 i) : bits .xor .i64 (IntKind.i64.wrap (((zz i : Nat) : Int).fdiv (2 ^ 1))) (IntKind.i64.wrap (0 - (IntKind.i64.wrap (bits .and .u64 ((zz i : Nat) : Int) 1)))) = i := by
  have ha : bits .and .u64 ((zz i : Nat) : Int) 1 = ((zz i % 2 : Nat) : Int) := by
    have := bits_and_u64_nat (zz i) 1 (zz_lt h) (by decide)
    rw [Nat.and_one_is_mod] at this
    exact this
  rw [ha, show (2 : Int) ^ 1 = 2 from rfl, Int.fdiv_eq_ediv_of_nonneg _ (by decide), wrap64 (a := ((zz i % 2 : Nat) : Int)) (by omega) (by omega)]
  by_cases hi : i < 0
  · have e : zz i = (-2 * i - 1).toNat := by unfold zz; rw [if_pos hi]
    rw [show 0 - ((zz i % 2 : Nat) : Int) = -1 by omega, show (((zz i : Nat) : Int) / 2) = (((-i - 1).toNat : Nat) : Int) by omega, wrap64 (by omega) (by omega), show IntKind.i64.wrap (-1) = -1 from rfl, xorn (by omega)]
    omega
  · have e : zz i = (2 * i).toNat := by unfold zz; rw [if_neg hi]
    rw [show 0 - ((zz i % 2 : Nat) : Int) = 0 by omega, show (((zz i : Nat) : Int) / 2) = ((i.toNat : Nat) : Int) by omega, wrap64 (by omega) (by omega), show IntKind.i64.wrap 0 = 0 from rfl, xori (by omega)]
    omega

/-! ### the bytes of a value -/
mutual
def bV : Val → List Int
  | .mk k i b s t => IntKind.u8.wrap k :: (bif k == 1 then vi (zz i) else bif k == 2 then [bif b then 1 else 0] else bif k == 3 then vi s.size ++ bI8 s else IntKind.u8.wrap (t.length : Int) :: bVs t)
def bVs : List Val → List Int
  | [] => []
  | x :: r => bV x ++ bVs r
end
mutual
theorem bV_len : ∀ (v : Val) (d l : Int), RgV v → 0 < bgV v d l → (bV v).length + 320 * bgV v d l ≤ 320 * l
  | .mk k i b s t, d, l, hr, h => by
    simp only [bgV] at h ⊢
    cases hc : (((decide (l ≤ 0)) || (decide (d ≤ 0))) || (decide ((t.length : Int) > 20))) || (decide ((s.size : Int) > 300)) with
    | true => rw [hc] at h; simp at h
    | false =>
      rw [hc] at h
      simp only [cond_false] at h ⊢
      have ht := bVs_len t (d - 1) (l - 1) hr.2.2 h
      simp only [Bool.or_eq_false_iff, decide_eq_false_iff_not] at hc
      have h1 := vi_len64 (zz_lt hr.2.1)
      have h2 := vi_len64 (z := s.size) (by omega)
      simp only [bV, List.length_cons]
      cases k == 1
      · cases k == 2
        · cases k == 3
          · simp only [cond_false, List.length_cons]; omega
          · simp only [cond_false, cond_true, List.length_append, bI8_length]; omega
        · simp only [cond_false, cond_true, List.length_cons, List.length_nil]; omega
      · simp only [cond_true]; omega
theorem bVs_len : ∀ (r : List Val) (d l : Int), RgVs r → 0 < bgVs r d l → (bVs r).length + 320 * bgVs r d l ≤ 320 * l
  | [], d, l, hr, h => by simp only [bgVs, bVs, List.length_nil]; omega
  | x :: r, d, l, hr, h => by
    simp only [bgVs] at h ⊢
    cases hc : decide (l > 0) with
    | true =>
      rw [hc] at h
      simp only [cond_true] at h ⊢
      have h2 := bVs_len r d _ hr.2 h
      have h4 := bgV_le x d l (by simp at hc; omega)
      have h5 := bgVs_le r d (bgV x d l) h4.1
      have h1 := bV_len x d l hr.1 (by omega)
      simp only [bVs, List.length_append]
      omega
    | false =>
      rw [hc] at h
      simp only [cond_false] at h
      simp at hc
      omega
end
theorem e80 (s : ByteArray) (acc : List Int) (h : s.size ≤ 1000000) (hl : acc.length + (vi s.size ++ bI8 s).length ≤ 1000000) : Ev (fun n => s_f80 n acc s) (acc ++ (vi s.size ++ bI8 s)) := by
  simp only [List.length_append, bI8_length] at hl
  unfold s_f80
  rw [wu64 (n := (s.size : Int)) (by omega) (by omega)]
  exact (Ev.bind (e49 s.size acc (by omega) (by omega)) (Ev.g (by rw [List.length_append]; omega) (Ev.mk _))).congr (by simp)
theorem e82 (s : ByteArray) (acc : List Int) (h : s.size ≤ 1000000) (hl : acc.length + (vi s.size ++ bI8 s).length ≤ 1000000) : Ev (fun n => s_f82 n acc s) (acc ++ (vi s.size ++ bI8 s)) := by
  simp only [List.length_append, bI8_length] at hl
  unfold s_f82
  rw [wu64 (n := (s.size : Int)) (by omega) (by omega)]
  exact (Ev.bind (e81 s.size acc (by omega) (by omega)) (Ev.g (by rw [List.length_append]; omega) (Ev.mk _))).congr (by simp)
mutual
theorem e46 : ∀ (v : Val) (acc : List Int), RgV v → acc.length + (bV v).length ≤ 1000000 → Ev (fun n => s_f46 n acc v) (acc ++ bV v)
  | .mk k i b s t, acc, hr, hl => by
    refine Ev.succ ?_
    simp only [bV, List.length_cons] at hl
    simp only [s_f46, bV, Val.kind, Val.i, Val.b, Val.s, Val.t]
    refine Ev.g (by omega) ?_
    cases h1 : k == 1 with
    | true =>
      rw [h1] at hl
      simp only [cond_true] at hl ⊢
      rw [zz46 hr.2.1]
      exact (Ev.ret (g := id) (e49 (zz i) (acc ++ [IntKind.u8.wrap k]) (zz_lt hr.2.1) (by simp; omega))).congr (by simp)
    | false =>
      rw [h1] at hl
      simp only [cond_false] at hl ⊢
      cases h2 : k == 2 with
      | true =>
        rw [h2] at hl
        simp only [cond_true, List.length_cons, List.length_nil] at hl ⊢
        cases b
        · exact Ev.f rfl (Ev.g (by simp; omega) ((Ev.mk _).congr (by simp)))
        · exact Ev.t rfl (Ev.g (by simp; omega) ((Ev.mk _).congr (by simp)))
      | false =>
        rw [h2] at hl
        simp only [cond_false] at hl ⊢
        cases h3 : k == 3 with
        | true =>
          rw [h3] at hl
          simp only [cond_true, List.length_append, bI8_length] at hl ⊢
          exact (Ev.ret (g := id) (e80 s (acc ++ [IntKind.u8.wrap k]) (by omega) (by simp [bI8_length]; omega))).congr (by simp)
        | false =>
          rw [h3] at hl
          simp only [cond_false, List.length_cons] at hl ⊢
          refine Ev.g (by simp; omega) ((e46s t k i b s t 0 ((acc ++ [IntKind.u8.wrap k]) ++ [IntKind.u8.wrap (t.length : Int)]) rfl hr.2.2 (by simp; omega)).congr (by simp))
theorem e46s : ∀ (r : List Val) (k i : Int) (b : Bool) (s : ByteArray) (t : List Val) (j : Nat) (acc : List Int), t.drop j = r → RgVs r → acc.length + (bVs r).length ≤ 1000000 → Ev (fun n => s_f46_l1 n (.mk k i b s t) acc j) (acc ++ bVs r)
  | [], k, i, b, s, t, j, acc, h, hr, hl => by
    refine Ev.succ ?_
    simp only [s_f46_l1, bVs, Val.t, List.append_nil]
    exact Ev.f (cj_f (drop_n h)) (Ev.mk _)
  | x :: r, k, i, b, s, t, j, acc, h, hr, hl => by
    obtain ⟨hj, hx, h2⟩ := drop_c h
    simp only [bVs, List.length_append] at hl
    refine Ev.succ ?_
    simp only [s_f46_l1, bVs, Val.t]
    exact Ev.t (cj_t hj) (Ev.bindc hx (Ev.bind (e46 x acc hr.1 (by omega)) ((e46s r k i b s t (j + 1) (acc ++ bV x) h2 hr.2 (by simp; omega)).congr (by simp))))
end
mutual
theorem e47 : ∀ (v : Val) (acc : List Int), RgV v → acc.length + (bV v).length ≤ 1000000 → Ev (fun n => s_f47 n acc v) (acc ++ bV v)
  | .mk k i b s t, acc, hr, hl => by
    refine Ev.succ ?_
    simp only [bV, List.length_cons] at hl
    simp only [s_f47, bV, Val.kind, Val.i, Val.b, Val.s, Val.t]
    refine Ev.g (by omega) ?_
    cases h1 : k == 1 with
    | true =>
      rw [h1] at hl
      simp only [cond_true] at hl ⊢
      by_cases hi : i < 0
      · refine Ev.t (decide_eq_true hi) ?_
        rw [zzn hr.2.1 hi]
        exact (Ev.ret (g := id) (e81 (zz i) (acc ++ [IntKind.u8.wrap k]) (zz_lt hr.2.1) (by simp; omega))).congr (by simp)
      · refine Ev.f (decide_eq_false hi) ?_
        rw [zzp hr.2.1 hi]
        exact (Ev.ret (g := id) (e81 (zz i) (acc ++ [IntKind.u8.wrap k]) (zz_lt hr.2.1) (by simp; omega))).congr (by simp)
    | false =>
      rw [h1] at hl
      simp only [cond_false] at hl ⊢
      cases h2 : k == 2 with
      | true =>
        rw [h2] at hl
        simp only [cond_true, List.length_cons, List.length_nil] at hl ⊢
        cases b
        · exact Ev.f rfl (Ev.g (by simp; omega) ((Ev.mk _).congr (by simp)))
        · exact Ev.t rfl (Ev.g (by simp; omega) ((Ev.mk _).congr (by simp)))
      | false =>
        rw [h2] at hl
        simp only [cond_false] at hl ⊢
        cases h3 : k == 3 with
        | true =>
          rw [h3] at hl
          simp only [cond_true, List.length_append, bI8_length] at hl ⊢
          exact (Ev.ret (g := id) (e82 s (acc ++ [IntKind.u8.wrap k]) (by omega) (by simp [bI8_length]; omega))).congr (by simp)
        | false =>
          rw [h3] at hl
          simp only [cond_false, List.length_cons] at hl ⊢
          refine Ev.g (by simp; omega) ((e47s t k i b s t 0 ((acc ++ [IntKind.u8.wrap k]) ++ [IntKind.u8.wrap (t.length : Int)]) rfl hr.2.2 (by simp; omega)).congr (by simp))
theorem e47s : ∀ (r : List Val) (k i : Int) (b : Bool) (s : ByteArray) (t : List Val) (j : Nat) (acc : List Int), t.drop j = r → RgVs r → acc.length + (bVs r).length ≤ 1000000 → Ev (fun n => s_f47_l1 n (.mk k i b s t) acc j) (acc ++ bVs r)
  | [], k, i, b, s, t, j, acc, h, hr, hl => by
    refine Ev.succ ?_
    simp only [s_f47_l1, bVs, Val.t, List.append_nil]
    exact Ev.f (cj_f (drop_n h)) (Ev.mk _)
  | x :: r, k, i, b, s, t, j, acc, h, hr, hl => by
    obtain ⟨hj, hx, h2⟩ := drop_c h
    simp only [bVs, List.length_append] at hl
    refine Ev.succ ?_
    simp only [s_f47_l1, bVs, Val.t]
    exact Ev.t (cj_t hj) (Ev.bindc hx (Ev.bind (e47 x acc hr.1 (by omega)) ((e47s r k i b s t (j + 1) (acc ++ bV x) h2 hr.2 (by simp; omega)).congr (by simp))))
end
end Go.Proofs.Ytbcjcekoonebiaa.Tl
