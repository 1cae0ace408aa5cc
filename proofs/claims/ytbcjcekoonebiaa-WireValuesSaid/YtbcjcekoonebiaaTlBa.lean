/- Numbers in bytes, and back, as plain functions. Conditions: none. -/
import Derived.Test.YtbcjcekoonebiaaTlYh
import Derived.Test.YtbcjcekoonebiaaTlPk
import Derived.Laws.Bits64b
import Derived.Laws.BitsLemmas
set_option linter.unusedVariables false
set_option linter.unusedSimpArgs false
namespace Go.Proofs.Ytbcjcekoonebiaa.Tl
open Go Go.RowKit

theorem wu64 {n : Int} (h0 : 0 ≤ n) (h1 : n < 18446744073709551616) : IntKind.u64.wrap n = n := by rw [IntKind.wrap_u64]; omega
theorem or128 : ∀ x : Fin 256, bits .or .u8 ((x.val : Nat) : Int) 128 = ((x.val % 128 + 128 : Nat) : Int) := by decide +kernel
theorem and127 : ∀ x : Fin 256, bits .and .u8 ((x.val : Nat) : Int) 127 = ((x.val % 128 : Nat) : Int) := by decide +kernel
theorem fd128 (z : Nat) : (z : Int).fdiv (2 ^ 7) = ((z / 128 : Nat) : Int) := by
  rw [show (2 : Int) ^ 7 = 128 from rfl, Int.fdiv_eq_ediv_of_nonneg _ (by decide)]
  omega

/-- A number in bytes, seven bits each. -/
def vi (z : Nat) : List Int := if h : 128 ≤ z then ((z % 128 + 128 : Nat) : Int) :: vi (z / 128) else [(z : Int)]
termination_by z
theorem vi_t {z : Nat} (h : 128 ≤ z) : vi z = ((z % 128 + 128 : Nat) : Int) :: vi (z / 128) := by rw [vi, dif_pos h]
theorem vi_f {z : Nat} (h : z < 128) : vi z = [(z : Int)] := by rw [vi, dif_neg (by omega)]
theorem vi_ne (z : Nat) : vi z ≠ [] := by
  rcases Nat.lt_or_ge z 128 with h | h
  · rw [vi_f h]; simp
  · rw [vi_t h]; simp
theorem vi_len : ∀ (k z : Nat), z < 2 ^ (7 * (k + 1)) → (vi z).length ≤ k + 1
  | 0, z, h => by rw [vi_f h]; simp
  | k + 1, z, h => by
    rcases Nat.lt_or_ge z 128 with h1 | h1
    · rw [vi_f h1]; simp
    · rw [vi_t h1]
      have e : 2 ^ (7 * (k + 1 + 1)) = 2 ^ (7 * (k + 1)) * 128 := by rw [Nat.mul_add 7 (k + 1) 1, Nat.pow_add]
      have := vi_len k (z / 128) (Nat.div_lt_of_lt_mul (by rw [Nat.mul_comm, ← e]; exact h))
      simp only [List.length_cons]
      omega
theorem vi_len64 {z : Nat} (h : z < 18446744073709551616) : (vi z).length ≤ 10 := vi_len 9 z (Nat.lt_of_lt_of_le h (by decide))

/-- A proper front. -/
def PP (x b : List Int) : Prop := ∃ c, c ≠ [] ∧ x ++ c = b
theorem PP.split {x a b : List Int} (h : PP x (a ++ b)) : PP x a ∨ ∃ y, x = a ++ y ∧ PP y b := by
  obtain ⟨c, hc, h⟩ := h
  rcases List.append_eq_append_iff.1 h with ⟨a', h1, h2⟩ | ⟨c', h1, h2⟩
  · by_cases e : a' = []
    · subst e
      exact .inr ⟨[], by simpa using h1.symm, c, hc, by simpa using h2⟩
    · exact .inl ⟨a', e, h1.symm⟩
  · exact .inr ⟨c', h1, c, hc, h2.symm⟩
theorem PP.nil {x : List Int} (h : PP x []) : False := by
  obtain ⟨c, hc, h⟩ := h
  exact hc (List.append_eq_nil_iff.1 h).2
theorem PP.one {x : List Int} {a : Int} (h : PP x [a]) : x = [] := by
  obtain ⟨c, hc, h⟩ := h
  cases x with
  | nil => rfl
  | cons b x => simp at h; exact absurd h.2.2 hc
theorem PP.cons {x : List Int} {a : Int} {b : List Int} (h : PP x (a :: b)) : x = [] ∨ ∃ y, x = a :: y ∧ PP y b := by
  obtain ⟨c, hc, h⟩ := h
  cases x with
  | nil => exact .inl rfl
  | cons d x =>
    simp at h
    exact .inr ⟨x, by rw [h.1], c, hc, h.2⟩

theorem b8or (z : Nat) : bits .or .u8 (IntKind.u8.wrap (z : Int)) 128 = ((z % 128 + 128 : Nat) : Int) := by
  have h := or128 ⟨z % 256, Nat.mod_lt _ (by decide)⟩
  simp only at h
  rw [show IntKind.u8.wrap (z : Int) = ((z % 256 : Nat) : Int) by rw [IntKind.wrap_u8]; omega, h]
  omega
theorem e49_1 : ∀ (z : Nat) (acc : List Int), z < 18446744073709551616 → acc.length + (vi z).length ≤ 1000000 → Ev (fun n => s_f49_l1 n acc (z : Int)) (acc ++ vi z) := by
  intro z
  induction z using Nat.strongRecOn with
  | _ z ih =>
    intro acc h hl
    refine Ev.succ ?_
    simp only [s_f49_l1]
    rcases Nat.lt_or_ge z 128 with h1 | h1
    · rw [vi_f h1] at hl ⊢
      refine Ev.f (decide_eq_false (by omega)) (Ev.g hl ((Ev.mk _).congr ?_))
      rw [show IntKind.u8.wrap (z : Int) = z by rw [IntKind.wrap_u8]; omega]
    · rw [vi_t h1] at hl ⊢
      simp only [List.length_cons] at hl
      refine Ev.t (decide_eq_true (by omega)) (Ev.g (by omega) ?_)
      rw [b8or, fd128]
      exact (ih (z / 128) (by omega) (acc ++ [((z % 128 + 128 : Nat) : Int)]) (by omega) (by simp; omega)).congr (by simp)
theorem e49 (z : Nat) (acc : List Int) (h : z < 18446744073709551616) (hl : acc.length + (vi z).length ≤ 1000000) : Ev (fun n => s_f49 n acc (z : Int)) (acc ++ vi z) := e49_1 z acc h hl
theorem e81_1 : ∀ (z : Nat) (acc : List Int), z < 18446744073709551616 → acc.length + (vi z).length ≤ 1000000 → Ev (fun n => s_f81_l1 n acc (z : Int)) (acc ++ vi z) := by
  intro z
  induction z using Nat.strongRecOn with
  | _ z ih =>
    intro acc h hl
    refine Ev.succ ?_
    simp only [s_f81_l1]
    rcases Nat.lt_or_ge z 128 with h1 | h1
    · rw [vi_f h1] at hl ⊢
      refine Ev.f (decide_eq_false (by omega)) (Ev.g hl ((Ev.mk _).congr ?_))
      rw [show IntKind.u8.wrap (z : Int) = z by rw [IntKind.wrap_u8]; omega]
    · rw [vi_t h1] at hl ⊢
      simp only [List.length_cons] at hl
      refine Ev.t (decide_eq_true (by omega)) (Ev.g (by omega) ?_)
      rw [b8or, fd128]
      exact (ih (z / 128) (by omega) (acc ++ [((z % 128 + 128 : Nat) : Int)]) (by omega) (by simp; omega)).congr (by simp)
theorem e81 (z : Nat) (acc : List Int) (h : z < 18446744073709551616) (hl : acc.length + (vi z).length ≤ 1000000) : Ev (fun n => s_f81 n acc (z : Int)) (acc ++ vi z) := e81_1 z acc h hl

/-! ### read again -/
theorem step78 {z0 y j : Nat} (h0 : z0 < 2 ^ (7 * j)) (hy : y < 256) (h1 : (y % 128) * 2 ^ (7 * j) < 18446744073709551616) (h2 : z0 < 18446744073709551616) (hj : j ≤ 9) :
    bits .or .u64 (z0 : Int) (IntKind.u64.wrap ((IntKind.u64.wrap ((bits .and .u8 (y : Int) 127))) * 2 ^ (min (IntKind.i64.wrap (7 * (j : Int))).toNat 64))) = ((z0 + (y % 128) * 2 ^ (7 * j) : Nat) : Int) := by
  have h := and127 ⟨y, hy⟩
  simp only at h
  rw [h, wrap64 (by omega) (by omega), wu64 (n := ((y % 128 : Nat) : Int)) (by omega) (by omega), show (7 * (j : Int)).toNat = 7 * j by omega, Nat.min_eq_left (by omega)]
  have e : (((y % 128 : Nat) : Int) * 2 ^ (7 * j)) = (((y % 128) * 2 ^ (7 * j) : Nat) : Int) := by rw [Int.natCast_mul, Int.natCast_pow]; rfl
  rw [e, wu64 (by omega) (by omega), bits_or_u64_nat _ _ h2 h1, Nat.or_comm, Nat.mul_comm, ← Nat.two_pow_add_eq_or_of_lt h0, Nat.add_comm]
theorem j9 {z j z0 : Nat} (h : z0 + z * 2 ^ (7 * j) < 18446744073709551616) (hz : 0 < j → 0 < z) : j ≤ 9 := by
  rcases Nat.eq_zero_or_pos j with e | e
  · omega
  · have h1 := hz e
    have h2 : 2 ^ (7 * j) ≤ z * 2 ^ (7 * j) := Nat.le_mul_of_pos_left _ h1
    have h3 : 2 ^ (7 * j) < 2 ^ 64 := by omega
    have h4 := (Nat.pow_lt_pow_iff_right (by decide)).1 h3
    omega
theorem e78_1 : ∀ (z j z0 : Nat) (l rest : List Int), l.drop j = vi z ++ rest → z0 < 2 ^ (7 * j) → z0 + z * 2 ^ (7 * j) < 18446744073709551616 → (0 < j → 0 < z) →
    Ev (fun n => s_f78_l1 n l (z0 : Int) j) (((z0 + z * 2 ^ (7 * j) : Nat) : Int), ((j + (vi z).length : Nat) : Int), 0) := by
  intro z
  induction z using Nat.strongRecOn with
  | _ z ih =>
    intro j z0 l rest hd h0 h1 hz
    have hj := j9 h1 hz
    refine Ev.succ ?_
    simp only [s_f78_l1]
    have hm := Nat.div_add_mod z 128
    have hp : z * 2 ^ (7 * j) = 128 * ((z / 128) * 2 ^ (7 * j)) + (z % 128) * 2 ^ (7 * j) := by
      conv => lhs; rw [← hm, Nat.add_mul, Nat.mul_assoc]
    rcases Nat.lt_or_ge z 128 with h | h
    · rw [vi_f h] at hd ⊢
      obtain ⟨hlt, hx, hr⟩ := drop_c hd
      refine Ev.t (cj_t hlt) (Ev.bindc hx (Ev.f ?_ (Ev.g (by rw [wrap64 (by omega) (by omega)]; omega) (Ev.f (decide_eq_false (by omega)) (Ev.f ?_ ((Ev.mk _).congr ?_))))))
      · rcases Nat.lt_or_ge j 9 with h9 | h9
        · rw [show ((j : Int) == 9) = false from beq_false_of_ne (by omega)]; rfl
        · obtain rfl : j = 9 := by omega
          have : z < 2 := by omega
          rw [decide_eq_false (by omega : ¬ ((z : Int) > 1)), Bool.and_false]
      · rcases Nat.eq_zero_or_pos j with h9 | h9
        · rw [decide_eq_false (by omega : ¬ ((j : Int) > 0)), Bool.and_false]
        · have := hz h9
          rw [show ((z : Int) == 0) = false from beq_false_of_ne (by omega)]; rfl
      · rw [step78 h0 (by omega) (by omega) (by omega) hj, Nat.mod_eq_of_lt h, wrap64 (by omega) (by omega)]
        rfl
    · rw [vi_t h] at hd ⊢
      obtain ⟨hlt, hx, hr⟩ := drop_c hd
      refine Ev.t (cj_t hlt) (Ev.bindc hx (Ev.f ?_ (Ev.g (by rw [wrap64 (by omega) (by omega)]; omega) (Ev.t (decide_eq_true (by omega)) ?_))))
      · rcases Nat.lt_or_ge j 9 with h9 | h9
        · rw [show ((j : Int) == 9) = false from beq_false_of_ne (by omega)]; rfl
        · obtain rfl : j = 9 := by omega
          omega
      · have e : 2 ^ (7 * (j + 1)) = 128 * 2 ^ (7 * j) := by rw [Nat.mul_add 7 j 1, Nat.pow_add, Nat.mul_comm]
        have em : (z % 128 + 128) % 128 = z % 128 := by omega
        rw [step78 h0 (by omega) (by rw [em]; omega) (by omega) hj, em]
        have e2 : (z / 128) * 2 ^ (7 * (j + 1)) = 128 * ((z / 128) * 2 ^ (7 * j)) := by rw [e, Nat.mul_left_comm]
        have hb : (z % 128) * 2 ^ (7 * j) ≤ 127 * 2 ^ (7 * j) := Nat.mul_le_mul_right _ (by omega)
        refine (ih (z / 128) (by omega) (j + 1) (z0 + z % 128 * 2 ^ (7 * j)) l rest hr (by omega) (by omega) (fun _ => by omega)).congr ?_
        simp only [List.length_cons]
        rw [e2, Nat.add_assoc, Nat.add_comm ((z % 128) * 2 ^ (7 * j)), ← hp, show j + 1 + (vi (z / 128)).length = j + ((vi (z / 128)).length + 1) by omega]
theorem e78 (z : Nat) (rest : List Int) (h : z < 18446744073709551616) : Ev (fun n => s_f78 n (vi z ++ rest)) ((z : Int), (((vi z).length : Nat) : Int), 0) := by
  have := e78_1 z 0 0 (vi z ++ rest) rest rfl (by decide) (by simpa using h) (fun h => by omega)
  unfold s_f78
  simpa using this
theorem c78_1 : ∀ (z j z0 : Nat) (l x : List Int), l.drop j = x → PP x (vi z) → z0 < 2 ^ (7 * j) → z0 + z * 2 ^ (7 * j) < 18446744073709551616 → (0 < j → 0 < z) →
    Ev (fun n => s_f78_l1 n l (z0 : Int) j) (0, 0, 3) := by
  intro z
  induction z using Nat.strongRecOn with
  | _ z ih =>
    intro j z0 l x hd hpp h0 h1 hz
    have hj := j9 h1 hz
    refine Ev.succ ?_
    simp only [s_f78_l1]
    have hm := Nat.div_add_mod z 128
    have hp : z * 2 ^ (7 * j) = 128 * ((z / 128) * 2 ^ (7 * j)) + (z % 128) * 2 ^ (7 * j) := by
      conv => lhs; rw [← hm, Nat.add_mul, Nat.mul_assoc]
    rcases Nat.lt_or_ge z 128 with h | h
    · rw [vi_f h] at hpp
      obtain rfl := hpp.one
      exact Ev.f (cj_f (drop_n hd)) (Ev.mk _)
    · rw [vi_t h] at hpp
      rcases hpp.cons with rfl | ⟨y, rfl, hy⟩
      · exact Ev.f (cj_f (drop_n hd)) (Ev.mk _)
      · obtain ⟨hlt, hx, hr⟩ := drop_c hd
        refine Ev.t (cj_t hlt) (Ev.bindc hx (Ev.f ?_ (Ev.g (by rw [wrap64 (by omega) (by omega)]; omega) (Ev.t (decide_eq_true (by omega)) ?_))))
        · rcases Nat.lt_or_ge j 9 with h9 | h9
          · rw [show ((j : Int) == 9) = false from beq_false_of_ne (by omega)]; rfl
          · obtain rfl : j = 9 := by omega
            omega
        · have e : 2 ^ (7 * (j + 1)) = 128 * 2 ^ (7 * j) := by rw [Nat.mul_add 7 j 1, Nat.pow_add, Nat.mul_comm]
          have em : (z % 128 + 128) % 128 = z % 128 := by omega
          rw [step78 h0 (by omega) (by rw [em]; omega) (by omega) hj, em]
          have e2 : (z / 128) * 2 ^ (7 * (j + 1)) = 128 * ((z / 128) * 2 ^ (7 * j)) := by rw [e, Nat.mul_left_comm]
          have hb : (z % 128) * 2 ^ (7 * j) ≤ 127 * 2 ^ (7 * j) := Nat.mul_le_mul_right _ (by omega)
          exact ih (z / 128) (by omega) (j + 1) (z0 + z % 128 * 2 ^ (7 * j)) l y hr hy (by omega) (by omega) (fun _ => by omega)
theorem c78 {z : Nat} {x : List Int} (hp : PP x (vi z)) (h : z < 18446744073709551616) : Ev (fun n => s_f78 n x) (0, 0, 3) :=
  c78_1 z 0 0 x x rfl hp (by decide) (by simpa using h) (fun h => by omega)
end Go.Proofs.Ytbcjcekoonebiaa.Tl
