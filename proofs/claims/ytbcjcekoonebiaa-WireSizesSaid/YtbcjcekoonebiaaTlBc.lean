/- Bytes read as a value: all of them, or too few. Conditions: none. -/
import Derived.Test.YtbcjcekoonebiaaTlBb
set_option linter.unusedVariables false
set_option linter.unusedSimpArgs false
namespace Go.Proofs.Ytbcjcekoonebiaa.Tl
open Go Go.RowKit

abbrev noV : Val := .mk 0 0 false ⟨#[]⟩ []
abbrev rdr (l : List Int) (p : Nat) (e : Int) : GReader := ⟨l, (p : Int), e⟩
theorem ba_nil {s : ByteArray} (h : s.data.toList = []) : s = ⟨#[]⟩ := by
  cases s with
  | mk d => cases d with | mk l => simp at h; subst h; rfl
theorem ck0 {k i : Int} {b : Bool} {s : ByteArray} {t : List Val} {d : Int} (h : ckV (.mk k i b s t) d = 0) :
    (k = 1 ∧ b = false ∧ s = ⟨#[]⟩ ∧ t = []) ∨ (k = 2 ∧ i = 0 ∧ s = ⟨#[]⟩ ∧ t = []) ∨ (k = 3 ∧ i = 0 ∧ b = false ∧ t = [] ∧ s.size ≤ 255) ∨ (k = 4 ∧ i = 0 ∧ b = false ∧ s = ⟨#[]⟩ ∧ 1 ≤ t.length ∧ t.length ≤ 8 ∧ d ≤ 4 ∧ ckVs t (d + 1) = 0) := by
  simp only [ckV] at h
  cases h1 : (decide (k < 1)) || (decide (k > 4)) with
  | true => rw [h1] at h; simp at h
  | false =>
    rw [h1] at h
    simp only [cond_false] at h
    have c1 := of_decide_eq_false (or_f h1).1
    have c2 := of_decide_eq_false (or_f h1).2
    cases h2 : ((((k != 1) && (i != 0)) || ((k != 2) && b)) || ((k != 3) && (s.data.toList != []))) || ((k != 4) && (decide ((t.length : Int) > 0))) with
    | true => rw [h2] at h; simp at h
    | false =>
      rw [h2] at h
      simp only [cond_false] at h
      have d1 := (or_f (or_f (or_f h2).1).1).1
      have d2 := (or_f (or_f (or_f h2).1).1).2
      have d3 := (or_f (or_f h2).1).2
      have d4 := (or_f h2).2
      cases h3 : decide ((s.size : Int) > 255) with
      | true => rw [h3] at h; simp at h
      | false =>
        rw [h3] at h
        simp only [cond_false] at h
        have c3 := of_decide_eq_false h3
        have hk : k = 1 ∨ k = 2 ∨ k = 3 ∨ k = 4 := by omega
        rcases hk with rfl | rfl | rfl | rfl
        · simp at d1 d2 d3 d4
          have d4 : t = [] := List.eq_nil_of_length_eq_zero (by simp [d4])
          exact .inl ⟨rfl, d2, ba_nil (by simp [d3]), d4⟩
        · simp at d1 d2 d3 d4
          have d4 : t = [] := List.eq_nil_of_length_eq_zero (by simp [d4])
          exact .inr (.inl ⟨rfl, d1, ba_nil (by simp [d3]), d4⟩)
        · simp at d1 d2 d3 d4
          have d4 : t = [] := List.eq_nil_of_length_eq_zero (by simp [d4])
          exact .inr (.inr (.inl ⟨rfl, d1, d2, d4, by omega⟩))
        · simp at d1 d2 d3
          have e4 : ((4 : Int) != 4) = false := rfl
          simp only [e4, cond_false] at h
          cases h5 : (t.length : Int) == 0 with
          | true => rw [h5] at h; simp at h
          | false =>
            rw [h5] at h
            simp only [cond_false] at h
            cases h6 : decide ((t.length : Int) > 8) with
            | true => rw [h6] at h; simp at h
            | false =>
              rw [h6] at h
              simp only [cond_false] at h
              have c6 := of_decide_eq_false h6
              cases h7 : decide (d > 4) with
              | true => rw [h7] at h; simp at h
              | false =>
                rw [h7] at h
                simp only [cond_false] at h
                have c7 := of_decide_eq_false h7
                have c5 : (t.length : Int) ≠ 0 := by simpa using h5
                exact .inr (.inr (.inr ⟨rfl, d1, d2, ba_nil (by simp [d3]), by omega, by omega, by omega, h⟩))
theorem cks {x : Val} {r : List Val} {d : Int} (h : ckVs (x :: r) d = 0) : ckV x d = 0 ∧ ckVs r d = 0 := by
  simp only [ckVs] at h
  cases h1 : ckV x d != 0 with
  | true => rw [h1] at h; simp at h1; exact absurd h h1
  | false => rw [h1] at h; exact ⟨bne_f h1, h⟩

/-! ### fields -/
section
variable {l : List Int} {p : Nat} {rest : List Int}
theorem ple {b : Int} {r : List Int} (h : l.drop p = b :: r) : p ≤ l.length := Nat.le_of_lt (drop_c h).1
theorem e144 {b : Int} {r : List Int} (h : l.drop p = b :: r) (hl : l.length ≤ 2000000) : Ev (fun n => s_f144 n (rdr l p 0)) (rdr l (p + 1) 0, b) := by
  have hp := (drop_c h).1
  unfold s_f144
  refine Ev.f rfl (Ev.g ⟨Int.natCast_nonneg p, by show (p : Int).toNat ≤ l.length; omega⟩ (Ev.bind (a := (b, 1, 0)) ?_ (Ev.f rfl ((Ev.mk _).congr ?_))))
  · show Ev (fun n => s_f145 n (l.drop ((p : Int).toNat))) (b, 1, 0)
    rw [Int.toNat_natCast, h]
    unfold s_f145
    exact Ev.f (beq_false_of_ne (by simp; omega)) (Ev.bindc rfl (Ev.mk _))
  · show (GReader.mk l (IntKind.i64.wrap ((p : Int) + 1)) 0, b) = _
    rw [wrap64 (by omega) (by omega)]
    rfl
theorem c144 (h : l.drop p = []) (hp : p ≤ l.length) : Ev (fun n => s_f144 n (rdr l p 0)) (rdr l p 3, 0) := by
  unfold s_f144
  refine Ev.f rfl (Ev.g ⟨Int.natCast_nonneg p, by show (p : Int).toNat ≤ l.length; omega⟩ (Ev.bind (a := (0, 0, 3)) ?_ (Ev.t rfl (Ev.mk _))))
  show Ev (fun n => s_f145 n (l.drop ((p : Int).toNat))) (0, 0, 3)
  rw [Int.toNat_natCast, h]
  unfold s_f145
  exact Ev.t rfl (Ev.mk _)
theorem e114 {b : Int} {r : List Int} (h : l.drop p = b :: r) (hl : l.length ≤ 2000000) : Ev (fun n => s_f114 n (rdr l p 0)) (rdr l (p + 1) 0, b) := by
  unfold s_f114
  exact Ev.bind (e144 h hl) (Ev.mk _)
theorem c114 (h : l.drop p = []) (hp : p ≤ l.length) : Ev (fun n => s_f114 n (rdr l p 0)) (rdr l p 3, 0) := by
  unfold s_f114
  exact Ev.bind (c144 h hp) (Ev.mk _)
theorem e115 {z : Nat} (h : l.drop p = vi z ++ rest) (hp : p ≤ l.length) (hz : z < 18446744073709551616) (hl : l.length ≤ 2000000) : Ev (fun n => s_f115 n (rdr l p 0)) (rdr l (p + (vi z).length) 0, (z : Int)) := by
  unfold s_f115 s_f146
  have hv := vi_len64 hz
  refine Ev.bind (a := (rdr l (p + (vi z).length) 0, (z : Int))) (Ev.f rfl (Ev.g ⟨Int.natCast_nonneg p, by show (p : Int).toNat ≤ l.length; omega⟩ (Ev.bind (a := ((z : Int), (((vi z).length : Nat) : Int), 0)) ?_ (Ev.f rfl ((Ev.mk _).congr ?_))))) (Ev.mk _)
  · show Ev (fun n => s_f78 n (l.drop ((p : Int).toNat))) _
    rw [Int.toNat_natCast, h]
    exact e78 z rest hz
  · show (GReader.mk l (IntKind.i64.wrap ((p : Int) + (((vi z).length : Nat) : Int))) 0, (z : Int)) = _
    rw [wrap64 (by omega) (by omega)]
    simp
theorem c115 {z : Nat} {x : List Int} (h : l.drop p = x) (hx : PP x (vi z)) (hp : p ≤ l.length) (hz : z < 18446744073709551616) : Ev (fun n => s_f115 n (rdr l p 0)) (rdr l p 3, 0) := by
  unfold s_f115 s_f146
  refine Ev.bind (a := (rdr l p 3, (0 : Int))) (Ev.f rfl (Ev.g ⟨Int.natCast_nonneg p, by show (p : Int).toNat ≤ l.length; omega⟩ (Ev.bind (a := (0, 0, 3)) ?_ (Ev.t rfl (Ev.mk _))))) (Ev.mk _)
  show Ev (fun n => s_f78 n (l.drop ((p : Int).toNat))) _
  rw [Int.toNat_natCast, h]
  exact c78 hx hz
theorem str_bI8 (s : ByteArray) : strOfNums (bI8 s) = s := by
  cases s with
  | mk d =>
    unfold strOfNums bI8
    simp only [List.map_map]
    congr 1
    have e : ((fun n : Int => UInt8.ofNat n.toNat) ∘ fun b : UInt8 => (b.toNat : Int)) = id := by
      funext b
      simp
    rw [e, List.map_id, Array.toArray_toList]
theorem e143 {s : ByteArray} {m : Int} {x : List Int} (h : x = vi s.size ++ (bI8 s ++ rest)) (hm : (s.size : Int) ≤ m) (hl : x.length ≤ 2000000) : Ev (fun n => s_f143 n x m) (s, (((vi s.size).length + s.size : Nat) : Int), 0) := by
  have hln : x.length = (vi s.size).length + (s.size + rest.length) := by rw [h]; simp [bI8_length]
  unfold s_f143
  refine Ev.bind (a := ((s.size : Int), (((vi s.size).length : Nat) : Int), 0)) (by rw [h]; exact e78 _ _ (by omega)) ?_
  refine Ev.f rfl (Ev.f (decide_eq_false (by simp only; omega)) (Ev.f (decide_eq_false ?_) ?_))
  · simp only
    rw [wrap64 (by omega) (by omega), wu64 (by omega) (by omega)]
    omega
  · simp only
    have e1 : IntKind.i64.wrap ((((vi s.size).length : Nat) : Int) + IntKind.i64.wrap (s.size : Int)) = (((vi s.size).length + s.size : Nat) : Int) := by
      rw [wrap64 (a := (s.size : Int)) (by omega) (by omega), wrap64 (by omega) (by omega)]; omega
    rw [e1, Int.toNat_natCast, Int.toNat_natCast]
    refine Ev.g ⟨by omega, by omega⟩ (Ev.g ⟨by omega, by omega⟩ ((Ev.mk _).congr ?_))
    have e2 : (x.take ((vi s.size).length + s.size)).drop (vi s.size).length = bI8 s := by
      rw [h, ← List.append_assoc, List.take_append_of_le_length (by simp [bI8_length]), List.take_of_length_le (by simp [bI8_length]), List.drop_append_of_le_length (Nat.le_refl _), List.drop_length, List.nil_append]
    rw [e2, str_bI8]
theorem c143 {s : ByteArray} {m : Int} {x : List Int} (h : PP x (vi s.size ++ bI8 s)) (hm : (s.size : Int) ≤ m) (hs : s.size ≤ 1000000) (hl : x.length ≤ 2000000) : Ev (fun n => s_f143 n x m) (⟨#[]⟩, 0, 3) := by
  unfold s_f143
  rcases h.split with h | ⟨y, rfl, hy⟩
  · exact Ev.bind (a := (0, 0, 3)) (c78 h (by omega)) (Ev.t rfl (Ev.mk _))
  · have hy' : y.length < s.size := by
      obtain ⟨c, hc, e⟩ := hy
      have e3 := congrArg List.length e
      rw [List.length_append, bI8_length] at e3
      have := List.length_pos_iff.2 hc
      omega
    simp only [List.length_append] at hl
    refine Ev.bind (a := ((s.size : Int), (((vi s.size).length : Nat) : Int), 0)) (e78 _ _ (by omega)) (Ev.f rfl (Ev.f (decide_eq_false (by simp only; omega)) (Ev.t (decide_eq_true ?_) (Ev.mk _))))
    simp only
    rw [List.length_append, wrap64 (by omega) (by omega), wu64 (by omega) (by omega)]
    omega
theorem e117 {s : ByteArray} {m : Int} (h : l.drop p = vi s.size ++ (bI8 s ++ rest)) (hp : p ≤ l.length) (hm : (s.size : Int) ≤ m) (hl : l.length ≤ 2000000) : Ev (fun n => s_f117 n (rdr l p 0) m) (rdr l (p + ((vi s.size).length + s.size)) 0, s) := by
  have hln := congrArg List.length h
  simp only [List.length_append, List.length_drop, bI8_length] at hln
  unfold s_f117
  refine Ev.f rfl (Ev.g ⟨Int.natCast_nonneg p, by show (p : Int).toNat ≤ l.length; omega⟩ (Ev.bind (a := (s, (((vi s.size).length + s.size : Nat) : Int), 0)) ?_ (Ev.f rfl ((Ev.mk _).congr ?_))))
  · show Ev (fun n => s_f143 n (l.drop ((p : Int).toNat)) m) _
    rw [Int.toNat_natCast]
    exact e143 h hm (by rw [List.length_drop]; omega)
  · show (GReader.mk l (IntKind.i64.wrap ((p : Int) + (((vi s.size).length + s.size : Nat) : Int))) 0, s) = _
    rw [wrap64 (by omega) (by omega)]
    simp
theorem c117 {s : ByteArray} {m : Int} {x : List Int} (h : l.drop p = x) (hx : PP x (vi s.size ++ bI8 s)) (hp : p ≤ l.length) (hm : (s.size : Int) ≤ m) (hs : s.size ≤ 1000000) (hl : l.length ≤ 2000000) : Ev (fun n => s_f117 n (rdr l p 0) m) (rdr l p 3, ⟨#[]⟩) := by
  unfold s_f117
  refine Ev.f rfl (Ev.g ⟨Int.natCast_nonneg p, by show (p : Int).toNat ≤ l.length; omega⟩ (Ev.bind (a := (⟨#[]⟩, 0, 3)) ?_ (Ev.t rfl (Ev.mk _))))
  show Ev (fun n => s_f143 n (l.drop ((p : Int).toNat)) m) _
  rw [Int.toNat_natCast, h]
  exact c143 hx hm hs (by rw [← h, List.length_drop]; omega)
end
theorem e116t (l : List Int) (p : Nat) (e : Int) : Ev (fun n => s_f116 n (rdr l p 0) e) (rdr l p e) := by unfold s_f116; exact Ev.t rfl (Ev.mk _)
theorem e116f (l : List Int) (p : Nat) (e : Int) : Ev (fun n => s_f116 n (rdr l p 3) e) (rdr l p 3) := by unfold s_f116; exact Ev.f rfl (Ev.mk _)
theorem e118 {k d : Int} (h0 : 1 ≤ k) (h1 : k ≤ 8) (h2 : d ≤ 4) : Ev (fun n => s_f118 n k d) 0 := by
  unfold s_f118
  exact Ev.f (beq_false_of_ne (by omega)) (Ev.f (decide_eq_false (by omega)) (Ev.f (decide_eq_false (by omega)) (Ev.mk _)))
theorem u8n {n : Nat} (h : n ≤ 200) : IntKind.u8.wrap (n : Int) = n := by rw [IntKind.wrap_u8]; omega

/-! ### all of a value -/
mutual
theorem e83 : ∀ (v : Val) (d : Int) (l : List Int) (p : Nat) (rest : List Int), ckV v d = 0 → RgV v → 0 ≤ d → l.drop p = bV v ++ rest → l.length ≤ 1000000 → Ev (fun n => s_f83 n (rdr l p 0) d) (rdr l (p + (bV v).length) 0, v)
  | .mk k i b s t, d, l, p, rest, hc, hr, h0, h, hl => by
    refine Ev.succ ?_
    simp only [s_f83]
    simp only [bV, List.cons_append, List.length_cons] at h ⊢
    obtain ⟨hlt, _, h1⟩ := drop_c h
    rcases ck0 hc with ⟨rfl, rfl, rfl, rfl⟩ | ⟨rfl, rfl, rfl, rfl⟩ | ⟨rfl, rfl, rfl, rfl, hs⟩ | ⟨rfl, rfl, rfl, rfl, ht0, ht1, hd, hts⟩
    · refine Ev.bind (e114 h (by omega)) (Ev.t rfl ?_)
      refine Ev.congr (Ev.bind (e115 (z := zz i) (rest := rest) h1 hlt (zz_lt hr.2.1) (by omega)) (Ev.mk _)) ?_
      simp only
      rw [unzz hr.2.1, Nat.add_assoc, Nat.add_comm 1]
      rfl
    · refine Ev.bind (e114 h (by omega)) (Ev.f rfl (Ev.t rfl ?_))
      cases b
      · refine Ev.congr (Ev.bind (e114 (b := 0) (r := rest) h1 (by omega)) (Ev.f rfl (Ev.mk _))) ?_
        rfl
      · refine Ev.congr (Ev.bind (e114 (b := 1) (r := rest) h1 (by omega)) (Ev.f rfl (Ev.mk _))) ?_
        rfl
    · refine Ev.bind (e114 h (by omega)) (Ev.f rfl (Ev.f rfl (Ev.t rfl ?_)))
      refine Ev.congr (Ev.bind (e117 (s := s) (m := 255) (rest := rest) (by rw [← List.append_assoc]; exact h1) hlt (by omega) (by omega)) (Ev.mk _)) ?_
      simp only
      rw [Nat.add_assoc, Nat.add_comm 1, show ((3 : Int) == 1) = false from rfl, show ((3 : Int) == 2) = false from rfl, show ((3 : Int) == 3) = true from rfl]
      simp only [cond_false, cond_true, List.length_append, bI8_length]
    · refine Ev.bind (e114 h (by omega)) (Ev.f rfl (Ev.f rfl (Ev.f rfl (Ev.t rfl ?_))))
      have h1 : l.drop (p + 1) = IntKind.u8.wrap (t.length : Int) :: (bVs t ++ rest) := h1
      obtain ⟨hlt2, _, h2⟩ := drop_c h1
      rw [u8n (by omega)] at h1
      refine Ev.bind (e114 h1 (by omega)) (Ev.t rfl (Ev.bind (a := 0) ?_ (Ev.bind (e116t l (p + 1 + 1) 0) ?_)))
      · simp only
        rw [wrap64 (by omega) (by omega)]
        exact e118 (by omega) (by omega) hd
      · refine (e83s t [] d l (p + 1 + 1) rest (rdr l (p + 1) 0, 4) (rdr l (p + 1 + 1) 0, (t.length : Int)) hts hr.2.2 h0 hd h2 hl (by simp) (by simp; omega)).congr ?_
        simp only [show ((4 : Int) == 1) = false from rfl, show ((4 : Int) == 2) = false from rfl, show ((4 : Int) == 3) = false from rfl, cond_false, List.length_cons, List.nil_append]
        rw [show p + 1 + 1 + (bVs t).length = p + ((bVs t).length + 1 + 1) by omega]
        rfl
theorem e83s : ∀ (r acc : List Val) (d : Int) (l : List Int) (p : Nat) (rest : List Int) (q1 q16 : GReader × Int), ckVs r (d + 1) = 0 → RgVs r → 0 ≤ d → d ≤ 4 → l.drop p = bVs r ++ rest → l.length ≤ 1000000 → q16.2 = ((acc.length + r.length : Nat) : Int) → acc.length + r.length ≤ 8 →
    Ev (fun n => s_f83_l1 n d q1 q16 (acc.length : Int) l (p : Int) 0 acc) (rdr l (p + (bVs r).length) 0, .mk (IntKind.i64.wrap q1.2) 0 false ⟨#[]⟩ (acc ++ r))
  | [], acc, d, l, p, rest, q1, q16, hc, hr, h0, hd, h, hl, hq, hn => by
    refine Ev.succ ?_
    simp only [s_f83_l1]
    refine Ev.f (decide_eq_false ?_) ((Ev.mk _).congr (by simp [bVs]))
    rw [hq, wrap64 (by omega) (by omega)]
    simp
  | x :: r, acc, d, l, p, rest, q1, q16, hc, hr, h0, hd, h, hl, hq, hn => by
    refine Ev.succ ?_
    simp only [s_f83_l1]
    simp only [bVs, List.append_assoc] at h
    simp only [List.length_cons] at hq hn
    refine Ev.t (decide_eq_true ?_) (Ev.t rfl ?_)
    · rw [hq, wrap64 (by omega) (by omega)]
      omega
    · rw [w1 (by omega) (by omega), w1 (by omega) (by omega)]
      refine Ev.bind (e83 x (d + 1) l p (bVs r ++ rest) (cks hc).1 hr.1 (by omega) h hl) (Ev.g (by omega) ?_)
      have h2 : l.drop (p + (bV x).length) = bVs r ++ rest := by rw [← List.drop_drop, h, List.drop_append_of_le_length (Nat.le_refl _), List.drop_length, List.nil_append]
      refine Ev.congr (a := (rdr l (p + (bV x).length + (bVs r).length) 0, .mk (IntKind.i64.wrap q1.2) 0 false ⟨#[]⟩ ((acc ++ [x]) ++ r))) ?_ (by simp [bVs, Nat.add_assoc])
      have := e83s r (acc ++ [x]) d l (p + (bV x).length) rest q1 q16 (cks hc).2 hr.2 h0 hd h2 hl (by simp only [List.length_append, List.length_cons, List.length_nil]; rw [hq]; omega) (by simp; omega)
      rw [show (((acc ++ [x]).length : Nat) : Int) = (acc.length : Int) + 1 by simp] at this
      exact this
end
/-! ### too few of them -/
theorem stop83 (d : Int) (q1 q16 : GReader × Int) (i : Int) (l : List Int) (p : Nat) (acc : List Val) : Ev (fun n => s_f83_l1 n d q1 q16 i l (p : Int) 3 acc) (rdr l p 3, .mk (IntKind.i64.wrap q1.2) 0 false ⟨#[]⟩ acc) := by
  refine Ev.succ ?_
  simp only [s_f83_l1]
  cases hc : decide (i < IntKind.i64.wrap q16.2) with
  | true => exact Ev.t rfl (Ev.f rfl (Ev.mk _))
  | false => exact Ev.f rfl (Ev.mk _)
def Cut (f : Nat → Option (GReader × Val)) : Prop := ∃ g w, g.f2 = 3 ∧ Ev f (g, w)
mutual
theorem c83 : ∀ (v : Val) (d : Int) (l : List Int) (p : Nat) (x : List Int), ckV v d = 0 → RgV v → 0 ≤ d → l.drop p = x → p ≤ l.length → PP x (bV v) → l.length ≤ 1000000 → Cut (fun n => s_f83 n (rdr l p 0) d)
  | .mk k i b s t, d, l, p, x, hc, hr, h0, h, hp, hx, hl => by
    simp only [bV] at hx
    rcases hx.cons with rfl | ⟨y, rfl, hy⟩
    · refine ⟨rdr l p 3, noV, rfl, Ev.succ ?_⟩
      simp only [s_f83]
      exact Ev.bind (c114 h hp) (Ev.f rfl (Ev.f rfl (Ev.f rfl (Ev.f rfl (Ev.bind (e116f l p 5) (Ev.mk _))))))
    · obtain ⟨hlt, _, h1⟩ := drop_c h
      rcases ck0 hc with ⟨rfl, rfl, rfl, rfl⟩ | ⟨rfl, rfl, rfl, rfl⟩ | ⟨rfl, rfl, rfl, rfl, hs⟩ | ⟨rfl, rfl, rfl, rfl, ht0, ht1, hd, hts⟩
      · refine ⟨rdr l (p + 1) 3, (.mk 1 (bits .xor .i64 (IntKind.i64.wrap ((0 : Int).fdiv (2 ^ 1))) (IntKind.i64.wrap (0 - (IntKind.i64.wrap (bits .and .u64 0 1))))) false ⟨#[]⟩ []), rfl, Ev.succ ?_⟩
        simp only [s_f83]
        exact Ev.bind (e114 h (by omega)) (Ev.t rfl (Ev.bind (c115 (z := zz i) h1 hy hlt (zz_lt hr.2.1)) (Ev.mk _)))
      · refine ⟨rdr l (p + 1) 3, (.mk 2 0 ((0 : Int) == 1) ⟨#[]⟩ []), rfl, Ev.succ ?_⟩
        simp only [s_f83]
        obtain rfl := PP.one (a := bif b then 1 else 0) hy
        exact Ev.bind (e114 h (by omega)) (Ev.f rfl (Ev.t rfl (Ev.bind (c114 h1 hlt) (Ev.f rfl (Ev.mk _)))))
      · refine ⟨rdr l (p + 1) 3, (.mk 3 0 false ⟨#[]⟩ []), rfl, Ev.succ ?_⟩
        simp only [s_f83]
        exact Ev.bind (e114 h (by omega)) (Ev.f rfl (Ev.f rfl (Ev.t rfl (Ev.bind (c117 (s := s) (m := 255) h1 hy hlt (by omega) (by omega) (by omega)) (Ev.mk _)))))
      · have hy : PP y (IntKind.u8.wrap (t.length : Int) :: bVs t) := hy
        rcases hy.cons with rfl | ⟨z, rfl, hz⟩
        · refine ⟨rdr l (p + 1) 3, .mk 4 0 false ⟨#[]⟩ [], rfl, Ev.succ ?_⟩
          simp only [s_f83]
          refine Ev.bind (e114 h (by omega)) (Ev.f rfl (Ev.f rfl (Ev.f rfl (Ev.t rfl (Ev.bind (c114 h1 hlt) (Ev.f rfl (Ev.succ ?_)))))))
          simp only [s_f83_l2]
          exact Ev.f rfl (Ev.mk _)
        · obtain ⟨hlt2, _, h2⟩ := drop_c h1
          rw [u8n (by omega)] at h1
          obtain ⟨g, w, hg, he⟩ := c83s t [] d l (p + 1 + 1) z (rdr l (p + 1) 0, 4) (rdr l (p + 1 + 1) 0, (t.length : Int)) hts hr.2.2 h0 hd h2 hlt2 hz hl (by simp) (by simp; omega)
          refine ⟨g, w, hg, Ev.succ ?_⟩
          simp only [s_f83]
          refine Ev.bind (e114 h (by omega)) (Ev.f rfl (Ev.f rfl (Ev.f rfl (Ev.t rfl ?_))))
          refine Ev.bind (e114 h1 (by omega)) (Ev.t rfl (Ev.bind (a := 0) ?_ (Ev.bind (e116t l (p + 1 + 1) 0) he)))
          simp only
          rw [wrap64 (by omega) (by omega)]
          exact e118 (by omega) (by omega) hd
theorem c83s : ∀ (r acc : List Val) (d : Int) (l : List Int) (p : Nat) (x : List Int) (q1 q16 : GReader × Int), ckVs r (d + 1) = 0 → RgVs r → 0 ≤ d → d ≤ 4 → l.drop p = x → p ≤ l.length → PP x (bVs r) → l.length ≤ 1000000 → q16.2 = ((acc.length + r.length : Nat) : Int) → acc.length + r.length ≤ 8 →
    Cut (fun n => s_f83_l1 n d q1 q16 (acc.length : Int) l (p : Int) 0 acc)
  | [], acc, d, l, p, x, q1, q16, hc, hr, h0, hd, h, hp, hx, hl, hq, hn => absurd hx PP.nil
  | v :: r, acc, d, l, p, x, q1, q16, hc, hr, h0, hd, h, hp, hx, hl, hq, hn => by
    simp only [bVs] at hx
    simp only [List.length_cons] at hq hn
    rcases hx.split with hx | ⟨y, rfl, hy⟩
    · obtain ⟨g, w, hg, he⟩ := c83 v (d + 1) l p x (cks hc).1 hr.1 (by omega) h hp hx hl
      obtain ⟨f0, f1, f2⟩ := g
      simp only at hg
      subst hg
      refine ⟨⟨f0, f1, 3⟩, .mk (IntKind.i64.wrap q1.2) 0 false ⟨#[]⟩ (acc ++ [w]), rfl, Ev.succ ?_⟩
      simp only [s_f83_l1]
      refine Ev.t (decide_eq_true ?_) (Ev.t rfl ?_)
      · rw [hq, wrap64 (by omega) (by omega)]
        omega
      · rw [w1 (by omega) (by omega)]
        refine Ev.bind he (Ev.g (by omega) (Ev.succ ?_))
        simp only [s_f83_l1]
        cases hc : decide (IntKind.i64.wrap ((acc.length : Int) + 1) < IntKind.i64.wrap q16.2) with
        | true => exact Ev.t rfl (Ev.f rfl (Ev.mk _))
        | false => exact Ev.f rfl (Ev.mk _)
    · have h2 : l.drop (p + (bV v).length) = y := by rw [← List.drop_drop, h, List.drop_append_of_le_length (Nat.le_refl _), List.drop_length, List.nil_append]
      have hln : p + (bV v).length ≤ l.length := by
        have := congrArg List.length h
        rw [List.length_drop, List.length_append] at this
        omega
      obtain ⟨g, w, hg, he⟩ := c83s r (acc ++ [v]) d l (p + (bV v).length) y q1 q16 (cks hc).2 hr.2 h0 hd h2 hln hy hl (by simp only [List.length_append, List.length_cons, List.length_nil]; rw [hq]; omega) (by simp; omega)
      refine ⟨g, w, hg, Ev.succ ?_⟩
      simp only [s_f83_l1]
      refine Ev.t (decide_eq_true ?_) (Ev.t rfl ?_)
      · rw [hq, wrap64 (by omega) (by omega)]
        omega
      · rw [w1 (by omega) (by omega), w1 (by omega) (by omega)]
        refine Ev.bind (e83 v (d + 1) l p y (cks hc).1 hr.1 (by omega) h hl) (Ev.g (by omega) ?_)
        rw [show (((acc ++ [v]).length : Nat) : Int) = (acc.length : Int) + 1 by simp] at he
        exact he
end
theorem e48 {v : Val} {rest : List Int} (hc : ckV v 0 = 0) (hr : RgV v) (hl : (bV v ++ rest).length ≤ 1000000) : Ev (fun n => s_f48 n (bV v ++ rest)) (v, (((bV v).length : Nat) : Int), 0) := by
  unfold s_f48
  refine Ev.congr (Ev.bind (e83 v 0 (bV v ++ rest) 0 rest hc hr (by omega) rfl hl) (Ev.f rfl (Ev.mk _))) ?_
  simp
theorem c48 {v : Val} {x : List Int} (hc : ckV v 0 = 0) (hr : RgV v) (hx : PP x (bV v)) (hl : x.length ≤ 1000000) : Ev (fun n => s_f48 n x) (noV, 0, 3) := by
  unfold s_f48
  obtain ⟨g, w, hg, he⟩ := c83 v 0 x 0 x hc hr (by omega) rfl (Nat.zero_le _) hx hl
  refine Ev.congr (Ev.bind he (Ev.t (by rw [hg]; rfl) (Ev.mk _))) ?_
  simp only [hg]
end Go.Proofs.Ytbcjcekoonebiaa.Tl
