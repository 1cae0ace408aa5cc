/- Values of the document compared, as plain functions. Conditions: none. -/
import Derived.Test.YtbcjcekoonebiaaTlXe
import Derived.Test.YtbcjcekoonebiaaTlPc
set_option linter.unusedVariables false
set_option linter.unusedSimpArgs false
namespace Go.Proofs.Ytbcjcekoonebiaa.Tl
open Go Go.RowKit

/-! ### which value stands first -/
theorem e100 (b : Bool) : Ev (fun n => s_f100 n b) (bif b then -1 else 1) := by
  unfold s_f100
  exact Ev.if (fun _ => Ev.mk _) (fun _ => Ev.mk _)
theorem cmpI_ne {x y : Int} (h : x ≠ y) : cmpI x y = bif decide (x < y) then -1 else 1 := by
  unfold cmpI
  by_cases h1 : x < y
  · simp [h1]
  · have h2 : x > y := by omega
    simp [h1, h2]
theorem cmpI_ne0 {x y : Int} (h : x ≠ y) : cmpI x y ≠ 0 := by
  rw [cmpI_ne h]; cases decide (x < y) <;> simp
theorem cmpI_eq (x : Int) : cmpI x x = 0 := by simp [cmpI]
theorem cmpL_rf : ∀ l : List UInt8, Lib.compareBytes l l = 0
  | [] => rfl
  | x :: l => by
    have hx : ¬ x < x := fun h => by simp at h
    simp [Lib.compareBytes, cmpL_rf l, hx]
theorem cmpL_ne : ∀ a b : List UInt8, a ≠ b → Lib.compareBytes a b = bif Op.bytesLess a b then -1 else 1
  | [], [], h => absurd rfl h
  | [], _ :: _, _ => rfl
  | _ :: _, [], _ => rfl
  | x :: a, y :: b, hne => by
    rcases Nat.lt_trichotomy x.toNat y.toNat with h | h | h
    · have h1 : x < y := h
      simp [Lib.compareBytes, Op.bytesLess, h1]
    · have h1 : x = y := UInt8.toNat_inj.1 h
      subst h1
      have hx : ¬ x < x := fun h => by simp at h
      have ih := cmpL_ne a b (fun q => hne (by rw [q]))
      simp [Lib.compareBytes, Op.bytesLess, hx]
      simpa using ih
    · have h1 : y < x := h
      have h2 : ¬ x < y := fun q => by have q : x.toNat < y.toNat := q; omega
      have h3 : ¬ x = y := fun q => by subst q; omega
      have h4 : (x == y) = false := beq_false_of_ne h3
      simp [Lib.compareBytes, Op.bytesLess, h1, h2, h3, h4]
theorem nil_of {α : Type} {t : List α} (h : decide ((t.length : Int) > 0) = false) : t = [] := List.eq_nil_of_length_eq_zero (by have := of_decide_eq_false h; omega)
theorem bne_t {α : Type} [BEq α] [LawfulBEq α] {a b : α} (h : (a != b) = true) : a ≠ b := by simpa using h
theorem bne_f {α : Type} [BEq α] [LawfulBEq α] {a b : α} (h : (a != b) = false) : a = b := by simpa using h
theorem orI_hd {x : Int} {r : List Int} (h : x ≠ 0) : orI (x :: r) = x := by simp [orI, h]
theorem orI_tl {r : List Int} : orI (0 :: r) = orI r := by simp [orI]
theorem ev100 {p : Prop} [Decidable p] {c : Int} (h : c = bif decide p then -1 else 1) : Ev (fun n => (s_f100 n (decide p)).bind fun q => some q) c := h ▸ Ev.ret (g := id) (e100 _)
theorem cmpV_mk (k i : Int) (b : Bool) (s : ByteArray) (t : List Val) (k' i' : Int) (b' : Bool) (s' : ByteArray) (t' : List Val) : cmpV (.mk k i b s t) (.mk k' i' b' s' t') =
    bif k != k' then cmpI k k' else bif i != i' then cmpI i i' else bif b != b' then cmpI (bI b) (bI b') else bif s.data.toList != s'.data.toList then cmpB s s' else cmpVs t t' := by
  simp only [cmpV, Val.kind, Val.i, Val.b, Val.s, Val.t]
  by_cases h1 : k = k'
  · subst h1
    by_cases h2 : i = i'
    · subst h2
      by_cases h3 : b = b'
      · subst h3
        by_cases h4 : s.data.toList = s'.data.toList
        · have hc : cmpB s s' = 0 := by show Lib.compareBytes _ _ = 0; rw [h4]; exact cmpL_rf _
          simp only [cmpI_eq, orI, if_true, hc, h4, bne_self_eq_false, cond_false]
        · have hc : cmpB s s' = bif Op.bytesLess s.data.toList s'.data.toList then -1 else 1 := cmpL_ne _ _ h4
          have h0 : cmpB s s' ≠ 0 := by rw [hc]; cases Op.bytesLess s.data.toList s'.data.toList <;> simp
          have h5 : (s.data.toList != s'.data.toList) = true := by simpa using h4
          simp only [cmpI_eq, orI, if_true, h0, h5, bne_self_eq_false, cond_false, if_false, cond_true]
      · have hb : bI b ≠ bI b' := fun q => h3 (by revert q; cases b <;> cases b' <;> simp [bI])
        have h0 := cmpI_ne0 hb
        have h5 : (b != b') = true := by simpa using h3
        simp only [cmpI_eq, orI, if_true, h0, h5, bne_self_eq_false, cond_false, if_false, cond_true]
    · have h0 := cmpI_ne0 h2
      have h5 : (i != i') = true := by simpa using h2
      simp only [cmpI_eq, orI, if_true, h0, h5, bne_self_eq_false, cond_false, if_false, cond_true]
  · have h0 := cmpI_ne0 h1
    have h5 : (k != k') = true := by simpa using h1
    simp only [orI, h0, h5, if_false, cond_true]
mutual
theorem e64 : ∀ a b : Val, BdV a → Ev (fun n => s_f64 n a b) (cmpV a b)
  | .mk k i b s t, .mk k' i' b' s' t', hbd => by
    refine Ev.succ ?_
    rw [cmpV_mk]
    simp only [s_f64, Val.kind, Val.i, Val.b, Val.s, Val.t]
    refine Ev.if (fun h => ev100 (cmpI_ne (bne_t h))) (fun h1 => Ev.if (fun h => ev100 (cmpI_ne (bne_t h))) (fun h2 => Ev.if (fun h => ?_) (fun h3 => Ev.if (fun h => ?_) (fun h4 => ?_))))
    · have hv : cmpI (bI b) (bI b') = bif b' then -1 else 1 := by have h := bne_t h; revert h; cases b <;> cases b' <;> simp [bI, cmpI]
      rw [hv]
      exact Ev.ret (g := id) (e100 _)
    · have hc : cmpB s s' = bif Op.bytesLess s.data.toList s'.data.toList then -1 else 1 := cmpL_ne _ _ (bne_t h)
      rw [hc]
      exact Ev.ret (g := id) (e100 _)
    · exact e64s t k i b s t (.mk k' i' b' s' t') 0 rfl (Nat.zero_le _) (Nat.zero_le _) hbd.1 hbd.2
theorem e64s : ∀ (r : List Val) (k i : Int) (b : Bool) (s : ByteArray) (t : List Val) (w : Val) (j : Nat), t.drop j = r → j ≤ t.length → j ≤ w.t.length → t.length ≤ 20 → BdVs r → Ev (fun n => s_f64_l1 n (.mk k i b s t) w j) (cmpVs r (w.t.drop j))
  | [], k, i, b, s, t, w, j, h, h1, h2, hl, hbd => by
    refine Ev.succ ?_
    have hle := drop_n h
    simp only [s_f64_l1, show ∀ k i b s t, (Val.mk k i b s t).t = t from fun _ _ _ _ _ => rfl]
    refine Ev.f (and_f (cj_f hle)) ?_
    cases hw : w.t.drop j with
    | nil =>
      have := drop_n hw
      simp only [cmpVs]
      exact Ev.f (by rw [show t.length = w.t.length by omega]; simp) (Ev.mk _)
    | cons y q =>
      obtain ⟨hj, _, _⟩ := drop_c hw
      simp only [cmpVs]
      refine Ev.t (by simp; omega) (ev100 ?_)
      rw [decide_eq_true (by omega)]
      rfl
  | x :: r, k, i, b, s, t, w, j, h, h1, h2, hl, hbd => by
    obtain ⟨hj, hx, hr⟩ := drop_c h
    refine Ev.succ ?_
    simp only [s_f64_l1, show ∀ k i b s t, (Val.mk k i b s t).t = t from fun _ _ _ _ _ => rfl]
    cases hw : w.t.drop j with
    | nil =>
      have hle := drop_n hw
      simp only [cmpVs]
      refine Ev.f (by rw [cj_f hle, Bool.and_false]) (Ev.t (by simp; omega) (ev100 ?_))
      rw [decide_eq_false (by omega)]
      rfl
    | cons y q =>
      obtain ⟨hj2, hy, hq⟩ := drop_c hw
      simp only [cmpVs]
      refine Ev.t (by rw [cj_t hj, cj_t hj2]; rfl) ?_
      refine Ev.g (Int.natCast_nonneg j) (Ev.bindc (by rw [Int.toNat_natCast]; exact hx) (Ev.g (Int.natCast_nonneg j) (Ev.bindc (by rw [Int.toNat_natCast]; exact hy) (Ev.bind (e64 x y hbd.1) ?_))))
      by_cases hc : cmpV x y = 0
      · rw [if_pos hc]
        refine Ev.f (by simp [hc]) ?_
        have := e64s r k i b s t w (j + 1) hr (by omega) (by omega) hl hbd.2
        rw [hq] at this
        rw [show IntKind.i64.wrap ((j : Int) + 1) = ((j + 1 : Nat) : Int) by rw [wrap64 (by omega) (by omega)]; rfl]
        exact this
      · rw [if_neg hc]
        exact Ev.t (by simpa using hc) (Ev.mk _)
end
theorem e25 (a b : Val) (h : BdV a) : Ev (fun n => s_f25 n a b) (cmpV a b == 0) := by
  unfold s_f25
  exact Ev.ret (e64 a b h)
mutual
theorem cmpV_self : ∀ a : Val, cmpV a a = 0
  | .mk k i b s t => by
    rw [cmpV_mk]
    simp [cmpVs_self t]
theorem cmpVs_self : ∀ a : List Val, cmpVs a a = 0
  | [] => rfl
  | x :: r => by simp only [cmpVs, cmpV_self x, if_true, cmpVs_self r]
end
end Go.Proofs.Ytbcjcekoonebiaa.Tl
