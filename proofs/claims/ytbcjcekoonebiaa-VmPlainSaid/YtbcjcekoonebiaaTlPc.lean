/- Values of the document, as plain functions: what may be, what is few, what is of a type. Conditions: none. -/
import Derived.Test.YtbcjcekoonebiaaTlXa
import Derived.Test.YtbcjcekoonebiaaTlEv
set_option linter.unusedVariables false
set_option linter.unusedSimpArgs false
namespace Go.Proofs.Ytbcjcekoonebiaa.Tl
open Go Go.RowKit

theorem drop_c {α : Type} {t r : List α} {j : Nat} {x : α} (h : t.drop j = x :: r) : j < t.length ∧ t[j]? = some x ∧ t.drop (j + 1) = r := by
  have hlt : j < t.length := by
    rcases Nat.lt_or_ge j t.length with h1 | h1
    · exact h1
    · rw [List.drop_eq_nil_of_le h1] at h; cases h
  rw [List.drop_eq_getElem_cons hlt] at h
  injection h with h1 h2
  exact ⟨hlt, by rw [List.getElem?_eq_getElem hlt, h1], h2⟩
theorem drop_n {α : Type} {t : List α} {j : Nat} (h : t.drop j = []) : t.length ≤ j := List.drop_eq_nil_iff.1 h
theorem cj_t {j m : Nat} (h : j < m) : decide ((j : Int) < (m : Int)) = true := decide_eq_true (by omega)
theorem cj_f {j m : Nat} (h : m ≤ j) : decide ((j : Int) < (m : Int)) = false := decide_eq_false (by omega)
theorem w1 {d : Int} (h0 : -1000000 ≤ d) (h1 : d ≤ 1000000) : IntKind.i64.wrap (d + 1) = d + 1 := wrap64 (by omega) (by omega)
theorem w1m {d : Int} (h0 : -1000000 ≤ d) (h1 : d ≤ 1000000) : IntKind.i64.wrap (d - 1) = d - 1 := wrap64 (by omega) (by omega)

/-! ### what is wrong with a value -/
mutual
def ckV : Val → Int → Int
  | .mk k i b s t, d => bif (decide (k < 1)) || (decide (k > 4)) then 5 else bif ((((k != 1) && (i != 0)) || ((k != 2) && b)) || ((k != 3) && (s.data.toList != []))) || ((k != 4) && (decide ((t.length : Int) > 0))) then 2
    else bif decide ((s.size : Int) > 255) then 4 else bif k != 4 then 0 else bif (t.length : Int) == 0 then 1 else bif decide ((t.length : Int) > 8) then 10 else bif decide (d > 4) then 9 else ckVs t (d + 1)
def ckVs : List Val → Int → Int
  | [], _ => 0
  | x :: r, d => bif ckV x d != 0 then ckV x d else ckVs r d
end
mutual
theorem e68 : ∀ (v : Val) (d : Int), 0 ≤ d → d ≤ 5 → Ev (fun n => s_f68 n v d) (ckV v d)
  | .mk k i b s t, d, h0, h1 => by
    refine Ev.succ ?_
    simp only [s_f68, ckV, Val.kind, Val.i, Val.b, Val.s, Val.t]
    refine Ev.if (fun _ => Ev.mk _) (fun _ => Ev.if (fun _ => Ev.mk _) (fun _ => Ev.if (fun _ => Ev.mk _) (fun _ => Ev.if (fun _ => Ev.mk _) (fun _ => Ev.if (fun _ => Ev.mk _) (fun _ => Ev.if (fun _ => Ev.mk _) (fun _ => Ev.if (fun _ => Ev.mk _) (fun hd => ?_)))))))
    exact e68s t k i b s t 0 d rfl h0 (by simpa using hd)
theorem e68s : ∀ (r : List Val) (k i : Int) (b : Bool) (s : ByteArray) (t : List Val) (j : Nat) (d : Int), t.drop j = r → 0 ≤ d → d ≤ 4 → Ev (fun n => s_f68_l1 n (.mk k i b s t) d j) (ckVs r (d + 1))
  | [], k, i, b, s, t, j, d, h, h0, h1 => by
    refine Ev.succ ?_
    simp only [s_f68_l1, ckVs, Val.t]
    exact Ev.f (cj_f (drop_n h)) (Ev.mk _)
  | x :: r, k, i, b, s, t, j, d, h, h0, h1 => by
    obtain ⟨hj, hx, hr⟩ := drop_c h
    refine Ev.succ ?_
    simp only [s_f68_l1, ckVs, Val.t]
    refine Ev.t (cj_t hj) (Ev.bindc hx (Ev.bind (a := ckV x (d + 1)) ?_ (Ev.if (fun _ => Ev.mk _) (fun _ => e68s r k i b s t (j + 1) d hr h0 h1))))
    rw [w1 (by omega) (by omega)]
    exact e68 x (d + 1) (by omega) (by omega)
end
theorem e34 (v : Val) : Ev (fun n => s_f34 n v) (ckV v 0) := by
  unfold s_f34
  exact Ev.ret (g := id) (e68 v 0 (by omega) (by omega))

/-! ### what is few -/
mutual
def bgV : Val → Int → Int → Int
  | .mk k i b s t, d, l => bif (((decide (l ≤ 0)) || (decide (d ≤ 0))) || (decide ((t.length : Int) > 20))) || (decide ((s.size : Int) > 300)) then 0 else bgVs t (d - 1) (l - 1)
def bgVs : List Val → Int → Int → Int
  | [], _, l => l
  | x :: r, d, l => bif decide (l > 0) then bgVs r d (bgV x d l) else l
end
mutual
theorem bgV_le : ∀ (v : Val) (d l : Int), 0 ≤ l → 0 ≤ bgV v d l ∧ bgV v d l ≤ l
  | .mk k i b s t, d, l, h => by
    simp only [bgV]
    cases hc : (((decide (l ≤ 0)) || (decide (d ≤ 0))) || (decide ((t.length : Int) > 20))) || (decide ((s.size : Int) > 300)) with
    | true => exact ⟨by simp, by simpa using h⟩
    | false =>
      simp only [cond_false]
      simp only [Bool.or_eq_false_iff, decide_eq_false_iff_not] at hc
      have := bgVs_le t (d - 1) (l - 1) (by omega)
      omega
theorem bgVs_le : ∀ (r : List Val) (d l : Int), 0 ≤ l → 0 ≤ bgVs r d l ∧ bgVs r d l ≤ l
  | [], d, l, h => by simp only [bgVs]; omega
  | x :: r, d, l, h => by
    simp only [bgVs]
    cases hc : decide (l > 0) with
    | true =>
      simp only [cond_true]
      have h1 := bgV_le x d l h
      have h2 := bgVs_le r d (bgV x d l) h1.1
      omega
    | false => simp only [cond_false]; omega
end
mutual
theorem e90 : ∀ (v : Val) (d l : Int), -5 ≤ d → d ≤ 30 → -5 ≤ l → l ≤ 1000 → Ev (fun n => s_f90 n v d l) (bgV v d l)
  | .mk k i b s t, d, l, h0, h1, h2, h3 => by
    refine Ev.succ ?_
    simp only [s_f90, bgV, Val.kind, Val.i, Val.b, Val.s, Val.t]
    refine Ev.if (fun _ => Ev.mk _) (fun hc => ?_)
    have c1 := of_decide_eq_false (or_f (or_f (or_f hc).1).1).1
    have c2 := of_decide_eq_false (or_f (or_f (or_f hc).1).1).2
    have c3 := of_decide_eq_false (or_f (or_f hc).1).2
    have c3 : ¬ ((t.length : Int) > 20) := c3
    rw [w1m (by omega) (by omega)]
    exact e90s t k i b s t 0 d (l - 1) rfl (by omega) h1 (by omega) (by omega) (by omega)
theorem e90s : ∀ (r : List Val) (k i : Int) (b : Bool) (s : ByteArray) (t : List Val) (j : Nat) (d l : Int), t.drop j = r → 0 < d → d ≤ 30 → 0 ≤ l → l ≤ 1000 → t.length ≤ 20 → Ev (fun n => s_f90_l1 n (.mk k i b s t) d l j) (bgVs r (d - 1) l)
  | [], k, i, b, s, t, j, d, l, h, h0, h1, h2, h3, h4 => by
    refine Ev.succ ?_
    simp only [s_f90_l1, bgVs, Val.t]
    exact Ev.f (and_f (cj_f (drop_n h))) (Ev.mk _)
  | x :: r, k, i, b, s, t, j, d, l, h, h0, h1, h2, h3, h4 => by
    obtain ⟨hj, hx, hr⟩ := drop_c h
    refine Ev.succ ?_
    simp only [s_f90_l1, bgVs, Val.t]
    refine Ev.ifa (cj_t hj) (fun hl => ?_) (fun hl => Ev.mk _)
    have hb := bgV_le x (d - 1) l h2
    refine Ev.g (Int.natCast_nonneg j) (Ev.bindc (by rw [Int.toNat_natCast]; exact hx) (Ev.bind (a := bgV x (d - 1) l) ?_ ?_))
    · rw [w1m (by omega) (by omega)]
      exact e90 x (d - 1) l (by omega) (by omega) (by omega) (by omega)
    · rw [w1 (by omega) (by omega)]
      exact e90s r k i b s t (j + 1) d _ hr h0 h1 hb.1 (by omega) h4
end
theorem e55 (v : Val) : Ev (fun n => s_f55 n v) (decide (bgV v 12 300 > 0)) := by
  unfold s_f55
  exact Ev.ret (e90 v 12 300 (by omega) (by omega) (by omega) (by omega))

mutual
def BdV : Val → Prop
  | .mk k i b s t => t.length ≤ 20 ∧ BdVs t
def BdVs : List Val → Prop
  | [] => True
  | x :: r => BdV x ∧ BdVs r
end
mutual
theorem bg_bd : ∀ (v : Val) (d l : Int), 0 < bgV v d l → BdV v
  | .mk k i b s t, d, l, h => by
    simp only [bgV] at h
    cases hc : (((decide (l ≤ 0)) || (decide (d ≤ 0))) || (decide ((t.length : Int) > 20))) || (decide ((s.size : Int) > 300)) with
    | true => rw [hc] at h; simp at h
    | false =>
      rw [hc] at h
      simp only [cond_false] at h
      simp only [Bool.or_eq_false_iff, decide_eq_false_iff_not] at hc
      exact ⟨by omega, bg_bds t (d - 1) (l - 1) h⟩
theorem bg_bds : ∀ (r : List Val) (d l : Int), 0 < bgVs r d l → BdVs r
  | [], d, l, h => trivial
  | x :: r, d, l, h => by
    simp only [bgVs] at h
    cases hc : decide (l > 0) with
    | true =>
      rw [hc] at h
      simp only [cond_true] at h
      have h2 := bg_bds r d _ h
      refine ⟨bg_bd x d l ?_, h2⟩
      rcases Int.lt_or_le 0 (bgV x d l) with h3 | h3
      · exact h3
      · have h4 := bgV_le x d l (by simp at hc; omega)
        have h5 := bgVs_le r d (bgV x d l) h4.1
        omega
    | false =>
      rw [hc] at h
      simp only [cond_false] at h
      simp at hc
      omega
end

/-! ### as the document's: the same tree -/
mutual
theorem e22 : ∀ v : Val, BdV v → Ev (fun n => s_f22 n v) v
  | .mk k i b s t, h => by
    refine Ev.succ ?_
    simp only [s_f22]
    exact e22s t k i b s t 0 [] rfl rfl h.1 h.2
theorem e22s : ∀ (r : List Val) (k i : Int) (b : Bool) (s : ByteArray) (t : List Val) (j : Nat) (acc : List Val), acc ++ r = t → acc.length = j → t.length ≤ 20 → BdVs r → Ev (fun n => s_f22_l1 n (.mk k i b s t) j acc) (.mk k i b s t)
  | [], k, i, b, s, t, j, acc, h, hj, hl, hb => by
    refine Ev.succ ?_
    subst hj
    simp only [List.append_nil] at h
    subst h
    simp only [s_f22_l1, Val.kind, Val.i, Val.b, Val.s, Val.t]
    exact Ev.f (cj_f (Nat.le_refl _)) (Ev.mk _)
  | x :: r, k, i, b, s, t, j, acc, h, hj, hl, hb => by
    refine Ev.succ ?_
    have hx : t[j]? = some x := by subst h hj; simp
    have hlt : j < t.length := (List.getElem?_eq_some_iff.1 hx).1
    simp only [s_f22_l1, Val.t]
    exact Ev.t (cj_t hlt) (Ev.bindc hx (Ev.bind (e22 x hb.1) (Ev.g (by omega) (e22s r k i b s t (j + 1) (acc ++ [x]) (by simp [h]) (by simp [hj]) hl hb.2))))
end

/-- Good: it may be, and is few. -/
theorem e18 (v : Val) : (BdV v ∧ ckV v 0 = 0 ∧ Ev (fun n => s_f18 n v) true) ∨ Ev (fun n => s_f18 n v) false := by
  unfold s_f18
  cases hb : decide (bgV v 12 300 > 0) with
  | false => right; exact Ev.bind (hb ▸ e55 v) (Ev.f rfl (Ev.mk _))
  | true =>
    have hbd := bg_bd v 12 300 (of_decide_eq_true hb)
    have h : Ev (fun n => (s_f55 n v).bind fun q1 => bif q1 then (s_f22 n v).bind fun q4 => (s_f34 n q4).bind fun q6 => some (q6 == 0) else some false) (ckV v 0 == 0) :=
      Ev.bind (hb ▸ e55 v) (Ev.t rfl (Ev.bind (e22 v hbd) (Ev.ret (e34 v))))
    by_cases hc : ckV v 0 = 0
    · left; rw [hc] at h; exact ⟨hbd, hc, h⟩
    · right; rw [show (ckV v 0 == 0) = false from beq_false_of_ne hc] at h; exact h
end Go.Proofs.Ytbcjcekoonebiaa.Tl
