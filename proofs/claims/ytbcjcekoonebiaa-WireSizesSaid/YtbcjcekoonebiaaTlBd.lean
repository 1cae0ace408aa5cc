/- The laws of bytes, as plain laws. Conditions: none. -/
import Derived.Test.YtbcjcekoonebiaaTlBc
set_option linter.unusedVariables false
set_option linter.unusedSimpArgs false
namespace Go.Proofs.Ytbcjcekoonebiaa.Tl
open Go Go.RowKit

theorem Ev.eq {α : Type} {f : Nat → Option α} {a b : α} (h : Ev f a) (k : Ev f b) : a = b :=
  let ⟨N, h⟩ := h
  let ⟨M, k⟩ := k
  Option.some.inj ((h (max N M) (by omega)).symm.trans (k (max N M) (by omega)))

/-! ### the same value -/
theorem cmpB_ne0 {s t : ByteArray} (h : s ≠ t) : cmpB s t ≠ 0 := by
  have h2 : s.data.toList ≠ t.data.toList := fun e => h (by cases s; cases t; simp at e; rw [e])
  unfold cmpB
  rw [show Lib.compareBytes s.data.toList t.data.toList = _ from cmpL_ne _ _ h2]
  cases Op.bytesLess s.data.toList t.data.toList <;> simp
mutual
theorem cmp0 : ∀ a b : Val, cmpV a b = 0 → a = b
  | .mk k i b s t, .mk k' i' b' s' t', h => by
    rw [cmpV_mk] at h
    by_cases e1 : k = k'
    · subst e1
      rw [show (k != k) = false by simp, cond_false] at h
      by_cases e2 : i = i'
      · subst e2
        rw [show (i != i) = false by simp, cond_false] at h
        by_cases e3 : b = b'
        · subst e3
          rw [show (b != b) = false by simp, cond_false] at h
          by_cases e4 : s = s'
          · subst e4
            rw [show (s.data.toList != s.data.toList) = false by simp, cond_false] at h
            rw [cmp0s t t' h]
          · rw [show (s.data.toList != s'.data.toList) = true by simp; intro e; exact e4 (by cases s; cases s'; simp at e; rw [e]), cond_true] at h
            exact absurd h (cmpB_ne0 e4)
        · have e5 : bI b ≠ bI b' := by cases b <;> cases b' <;> simp_all [bI]
          rw [show (b != b') = true by simpa using e3, cond_true] at h
          exact absurd h (cmpI_ne0 e5)
      · rw [show (i != i') = true by simpa using e2, cond_true] at h
        exact absurd h (cmpI_ne0 e2)
    · rw [show (k != k') = true by simpa using e1, cond_true] at h
      exact absurd h (cmpI_ne0 e1)
theorem cmp0s : ∀ a b : List Val, cmpVs a b = 0 → a = b
  | [], [], _ => rfl
  | [], _ :: _, h => by simp [cmpVs] at h
  | _ :: _, [], h => by simp [cmpVs] at h
  | x :: xs, y :: ys, h => by
    simp only [cmpVs] at h
    split at h
    · rename_i h1
      rw [cmp0 x y h1, cmp0s xs ys h]
    · rename_i h1
      exact absurd h h1
end

/-! ### bytes as a text -/
def Byt (l : List Int) : Prop := ∀ x ∈ l, 0 ≤ x ∧ x < 256
theorem Byt.app {a b : List Int} (h : Byt a) (k : Byt b) : Byt (a ++ b) := fun x hx => (List.mem_append.1 hx).elim (h x) (k x)
theorem Byt.cons {a : Int} {b : List Int} (h : 0 ≤ a ∧ a < 256) (k : Byt b) : Byt (a :: b) := fun x hx => by
  rcases List.mem_cons.1 hx with rfl | hx
  · exact h
  · exact k x hx
theorem Byt.nil : Byt [] := fun x hx => by cases hx
theorem vi_byt : ∀ z, Byt (vi z) := by
  intro z
  induction z using Nat.strongRecOn with
  | _ z ih =>
    rcases Nat.lt_or_ge z 128 with h | h
    · rw [vi_f h]; exact Byt.cons (by omega) Byt.nil
    · rw [vi_t h]; exact Byt.cons (by omega) (ih _ (by omega))
theorem bI8_byt (s : ByteArray) : Byt (bI8 s) := fun x hx => by
  unfold bI8 at hx
  obtain ⟨b, _, rfl⟩ := List.mem_map.1 hx
  have := b.toNat_lt
  omega
theorem u8_byt (n : Int) : 0 ≤ IntKind.u8.wrap n ∧ IntKind.u8.wrap n < 256 := by rw [IntKind.wrap_u8]; omega
mutual
theorem bV_byt : ∀ v, Byt (bV v)
  | .mk k i b s t => by
    simp only [bV]
    refine Byt.cons (u8_byt k) ?_
    cases k == 1
    · cases k == 2
      · cases k == 3
        · exact Byt.cons (u8_byt _) (bVs_byt t)
        · exact Byt.app (vi_byt _) (bI8_byt s)
      · exact Byt.cons (by cases b <;> simp) Byt.nil
    · exact vi_byt _
theorem bVs_byt : ∀ r, Byt (bVs r)
  | [] => Byt.nil
  | x :: r => Byt.app (bV_byt x) (bVs_byt r)
end
theorem str_inj : ∀ {a b : List Int}, Byt a → Byt b → (strOfNums a).data.toList = (strOfNums b).data.toList → a = b
  | [], [], _, _, _ => rfl
  | [], _ :: _, _, _, h => by simp [strOfNums] at h
  | _ :: _, [], _, _, h => by simp [strOfNums] at h
  | x :: a, y :: b, ha, hb, h => by
    rw [strOfNums_data, strOfNums_data, List.map_cons, List.map_cons] at h
    injection h with h1 h2
    have e1 := ha x (by simp)
    have e2 := hb y (by simp)
    have e : x = y := by
      have := congrArg UInt8.toNat h1
      have this : x.toNat % 256 = y.toNat % 256 := this
      omega
    have e9 : a = b := str_inj (fun z hz => ha z (by simp [hz])) (fun z hz => hb z (by simp [hz])) (by rw [strOfNums_data, strOfNums_data]; exact h2)
    rw [e, e9]
theorem bV_ne (v : Val) : 0 < (bV v).length := by
  cases v
  simp only [bV, List.length_cons]
  omega

/-! ### what is known -/
theorem e79 {s : ByteArray} {rest x : List Int} (h : x = vi s.size ++ (bI8 s ++ rest)) (hm : s.size ≤ 65535) (hl : x.length ≤ 2000000) : Ev (fun n => s_f79 n x) (s, (((vi s.size).length + s.size : Nat) : Int), 0) := by
  unfold s_f79
  exact Ev.bind (e143 h (by omega) hl) (Ev.mk _)
abbrev tup2 : Val := .mk 4 0 false ⟨#[]⟩ [.mk 1 (-3) false ⟨#[]⟩ [], .mk 3 0 false ⟨#[97, 98]⟩ []]
theorem tup2_ck : ckV tup2 0 = 0 := by decide
theorem tup2_rg : RgV tup2 := by simp [tup2, RgV, RgVs, in64]
theorem tup2_b : bV tup2 = [4, 2, 1, 5, 3, 2, 97, 98] := by
  simp only [tup2, bV, bVs, show ((4 : Int) == 1) = false from rfl, show ((4 : Int) == 2) = false from rfl, show ((4 : Int) == 3) = false from rfl, show ((1 : Int) == 1) = true from rfl, show ((3 : Int) == 1) = false from rfl, show ((3 : Int) == 2) = false from rfl, show ((3 : Int) == 3) = true from rfl, cond_false, cond_true]
  rw [show zz (-3) = 5 by decide, vi_f (by decide : 5 < 128), show (ByteArray.mk #[97, 98]).size = 2 from rfl, vi_f (by decide : 2 < 128)]
  rfl
theorem e45 : Ev (fun n => s_f45 n) true := by
  unfold s_f45
  have v300 : vi 300 = [172, 2] := by rw [vi_t (by decide), vi_f (by decide)]; rfl
  have h49 := e49 300 [] (by decide) (by rw [v300]; decide)
  refine Ev.bind h49 (Ev.bind (a := (300, 2, 0)) ?_ (Ev.bindc (a := tup2) rfl (Ev.bind (e46 tup2 [] tup2_rg (by rw [tup2_b]; decide)) (Ev.bind (a := (tup2, 8, 0)) ?_ (Ev.bind (a := (noV, 0, 3)) ?_ (Ev.bind (a := (0, 0, 2)) ?_ (Ev.bind (e80 ⟨#[120, 121]⟩ [] (by decide) ?_) (Ev.bind (a := (⟨#[120, 121]⟩, 3, 0)) ?_ ((Ev.mk _).congr ?_)))))))))
  · have := e78 300 [] (by decide)
    rw [List.append_nil, v300] at this
    rw [v300]
    exact this
  · have := e48 (rest := []) tup2_ck tup2_rg (by rw [tup2_b]; decide)
    rw [List.append_nil, tup2_b] at this
    rw [tup2_b]
    exact this
  · exact c48 tup2_ck tup2_rg ⟨bV tup2, by rw [tup2_b]; simp, rfl⟩ (by decide)
  · unfold s_f78
    refine Ev.succ ?_
    simp only [s_f78_l1]
    refine Ev.t rfl (Ev.bindc rfl (Ev.f rfl (Ev.g (by decide) (Ev.t rfl (Ev.succ ?_)))))
    simp only [s_f78_l1]
    exact Ev.t rfl (Ev.bindc rfl (Ev.f rfl (Ev.g (by decide) (Ev.f rfl (Ev.t rfl (Ev.mk _))))))
  · show 0 + (vi (ByteArray.mk #[120, 121]).size ++ bI8 ⟨#[120, 121]⟩).length ≤ 1000000
    rw [show (ByteArray.mk #[120, 121]).size = 2 from rfl, vi_f (by decide : 2 < 128)]
    decide
  · have := e79 (s := ⟨#[120, 121]⟩) (rest := []) (x := vi 2 ++ (bI8 ⟨#[120, 121]⟩ ++ [])) rfl (by decide) (by rw [vi_f (by decide : 2 < 128)]; decide)
    rw [show (ByteArray.mk #[120, 121]).size = 2 from rfl, vi_f (by decide : 2 < 128)] at this
    rw [show (ByteArray.mk #[120, 121]).size = 2 from rfl, vi_f (by decide : 2 < 128)]
    exact this
  · simp only [tup2_b, cmpV_self]
    rfl

/-! ### good values -/
theorem e18b (v : Val) (hr : RgV v) : (BdV v ∧ ckV v 0 = 0 ∧ (bV v).length ≤ 96000 ∧ Ev (fun n => s_f18 n v) true) ∨ Ev (fun n => s_f18 n v) false := by
  cases hb : decide (bgV v 12 300 > 0) with
  | false => right; unfold s_f18; exact Ev.bind (hb ▸ e55 v) (Ev.f rfl (Ev.mk _))
  | true =>
    have h1 := bV_len v 12 300 hr (of_decide_eq_true hb)
    have h2 := of_decide_eq_true hb
    rcases e18 v with ⟨a, b, c⟩ | h
    · exact .inl ⟨a, b, by omega, c⟩
    · exact .inr h
theorem e46n {v : Val} (hr : RgV v) (hl : (bV v).length ≤ 96000) : Ev (fun n => s_f46 n [] v) (bV v) := e46 v [] hr (by simp; omega)

/-! ### WireSizes -/
def cnt (z : Nat) : Nat := if z = 0 then 0 else (vi z).length
theorem vi_cnt (z : Nat) : (vi z).length = 1 + cnt (z / 128) := by
  unfold cnt
  rcases Nat.lt_or_ge z 128 with h | h
  · rw [vi_f h, if_pos (by omega)]; rfl
  · rw [vi_t h, if_neg (by omega), List.length_cons]; omega
theorem end13 {i : Int} (h : in64 i) {f : Nat → Option (List Int)} (hf : Ev f (vi (zz i))) {m : Int} (hm : m = ((vi (zz i)).length : Nat)) :
    Ev (fun n => (s_f46 n [] (Val.mk 1 i false ⟨#[]⟩ [])).bind fun q7 => (f n).bind fun q9 => (bif ((q7.length : Int) == (IntKind.i64.wrap (m + 1))) then (bif ((q9.length : Int) == m) then ((q7[0]?).bind fun x13 => (bif (x13 == 1) then (if 1 ≤ q7.length then some ((strOfNums (q7.drop 1)).data.toList == (strOfNums q9).data.toList) else none) else some false)) else some false) else some false)) true := by
  have hv : bV (Val.mk 1 i false ⟨#[]⟩ []) = 1 :: vi (zz i) := rfl
  have hl := vi_len64 (zz_lt h)
  subst hm
  refine Ev.bind (e46 (Val.mk 1 i false ⟨#[]⟩ []) [] ⟨by simp [in64], h, trivial⟩ (by rw [hv]; simp; omega)) (Ev.bind hf ?_)
  rw [hv, List.nil_append]
  refine Ev.t ?_ (Ev.t (by simp) (Ev.bindc rfl (Ev.t rfl (Ev.g (by simp) ((Ev.mk _).congr (by simp))))))
  rw [wrap64 (by omega) (by omega)]
  simp
theorem e13_1 {i : Int} (h : in64 i) (hi : i < 0) : ∀ (z w : Nat), (vi (zz i)).length = w + cnt z → z < 18446744073709551616 → Ev (fun n => s_f13_l1 n i (w : Int) (z : Int)) true := by
  have hl := vi_len64 (zz_lt h)
  intro z
  induction z using Nat.strongRecOn with
  | _ z ih =>
    intro w hw hz
    refine Ev.succ ?_
    simp only [s_f13_l1]
    by_cases h0 : z = 0
    · subst h0
      refine Ev.f rfl (end13 h ?_ (by rw [hw]; simp [cnt]))
      rw [zzn h hi]
      exact e49 (zz i) [] (zz_lt h) (by simp; omega)
    · have hc : cnt z = 1 + cnt (z / 128) := by
        rw [← vi_cnt]; unfold cnt; rw [if_neg h0]
      refine Ev.t (decide_eq_true (by omega)) ?_
      rw [fd128, wrap64 (by omega) (by omega)]
      exact ih (z / 128) (by omega) (w + 1) (by omega) (by omega)
theorem e13_2 {i : Int} (h : in64 i) (hi : ¬ i < 0) : ∀ (z w : Nat), (vi (zz i)).length = w + cnt z → z < 18446744073709551616 → Ev (fun n => s_f13_l2 n i (w : Int) (z : Int)) true := by
  have hl := vi_len64 (zz_lt h)
  intro z
  induction z using Nat.strongRecOn with
  | _ z ih =>
    intro w hw hz
    refine Ev.succ ?_
    simp only [s_f13_l2]
    by_cases h0 : z = 0
    · subst h0
      refine Ev.f rfl (end13 h ?_ (by rw [hw]; simp [cnt]))
      rw [zzp h hi]
      exact e49 (zz i) [] (zz_lt h) (by simp; omega)
    · have hc : cnt z = 1 + cnt (z / 128) := by
        rw [← vi_cnt]; unfold cnt; rw [if_neg h0]
      refine Ev.t (decide_eq_true (by omega)) ?_
      rw [fd128, wrap64 (by omega) (by omega)]
      exact ih (z / 128) (by omega) (w + 1) (by omega) (by omega)
theorem s13 {i : Int} (h : in64 i) : Ev (fun n => s_f13 n i) true := by
  have hz := zz_lt h
  unfold s_f13
  refine Ev.bind e45 (Ev.f rfl ?_)
  by_cases hi : i < 0
  · refine Ev.t (decide_eq_true hi) ?_
    rw [zzn h hi, fd128]
    exact e13_1 h hi _ 1 (vi_cnt _) (by omega)
  · refine Ev.f (decide_eq_false hi) ?_
    rw [zzp h hi, fd128]
    exact e13_2 h hi _ 1 (vi_cnt _) (by omega)

/-! ### WireCut -/
theorem s12 (v : Val) (hr : RgV v) (c : Int) (h0 : 0 ≤ c) (h1 : c ≤ 65535) : Ev (fun n => s_f12 n v c) true := by
  unfold s_f12
  refine Ev.bind e45 (Ev.f rfl ?_)
  rcases e18b v hr with ⟨hb, hc, hl, hg⟩ | hg
  · refine Ev.bind hg (Ev.f rfl (Ev.bind (e46n hr hl) (Ev.f (beq_false_of_ne (by have := bV_ne v; omega)) (Ev.g (by have := bV_ne v; omega) ?_))))
    have hp : (0 : Int) < ((bV v).length : Int) := by have := bV_ne v; omega
    have e1 : (IntKind.i64.wrap c).tmod ((bV v).length : Int) = c % ((bV v).length : Int) := by
      rw [wrap64 (by omega) (by omega), Int.tmod_eq_emod_of_nonneg h0]
    have m0 := Int.emod_nonneg c (by omega : ((bV v).length : Int) ≠ 0)
    have m1 := Int.emod_lt_of_pos c hp
    rw [e1]
    refine Ev.g ⟨m0, by omega⟩ (Ev.bind (c48 hc hr ⟨(bV v).drop (c % ((bV v).length : Int)).toNat, ?_, List.take_append_drop _ _⟩ ?_) (Ev.mk _))
    · intro e
      have := List.drop_eq_nil_iff.1 e
      omega
    · rw [List.length_take]; omega
  · exact Ev.bind hg (Ev.t rfl (Ev.mk _))

/-! ### WireApart -/
theorem front {a b : Val} (ha : ckV a 0 = 0) (hb : ckV b 0 = 0) (ra : RgV a) (rb : RgV b) (la : (bV a).length ≤ 96000) (lb : (bV b).length ≤ 96000) (h : (bV b).take (bV a).length = bV a) : a = b := by
  have e : bV a ++ (bV b).drop (bV a).length = bV b := by
    conv => lhs; lhs; rw [← h]
    exact List.take_append_drop _ _
  have h1 := e48 (rest := (bV b).drop (bV a).length) ha ra (by rw [e]; omega)
  have h2 := e48 (rest := []) hb rb (by simp; omega)
  rw [e] at h1
  rw [List.append_nil] at h2
  have := h1.eq h2
  injection this
theorem s11 (a b : Val) (ra : RgV a) (rb : RgV b) : Ev (fun n => s_f11 n a b) true := by
  unfold s_f11
  refine Ev.bind e45 (Ev.f rfl ?_)
  rcases e18b a ra with ⟨ba, ca, la, ga⟩ | ga
  · refine Ev.bind ga (Ev.f rfl ?_)
    rcases e18b b rb with ⟨bb, cb, lb, gb⟩ | gb
    · have na := bV_ne a
      have nb := bV_ne b
      refine Ev.bind gb (Ev.f rfl (Ev.bind (e46n ra la) (Ev.bind (e46n rb lb) (Ev.bind (e22 a ba) (Ev.bind (e22 b bb) (Ev.bind (e25 a b ba) (Ev.f ?_ ?_)))))))
      · rw [beq_false_of_ne (by omega), beq_false_of_ne (by omega)]; rfl
      · by_cases hab : a = b
        · subst hab
          rw [cmpV_self]
          refine Ev.t (decide_eq_true (Int.le_refl _)) (Ev.g (Nat.le_refl _) (Ev.t ?_ ((Ev.mk _).congr ?_)))
          · rw [List.take_length]; simp
          · simp
        · have hs : (cmpV a b == 0) = false := beq_false_of_ne fun e => hab (cmp0 a b e)
          rw [hs]
          have hxy : ((strOfNums (bV a)).data.toList == (strOfNums (bV b)).data.toList) = false := beq_false_of_ne fun e => by
            have e2 := str_inj (bV_byt a) (bV_byt b) e
            exact hab (front ca cb ra rb la lb (by rw [e2, List.take_length]))
          rcases Nat.lt_or_ge (bV b).length (bV a).length with hl | hl
          · exact Ev.f (decide_eq_false (by omega)) (Ev.t rfl ((Ev.mk _).congr (by rw [hxy]; rfl)))
          · refine Ev.t (decide_eq_true (by omega)) (Ev.g hl (Ev.t ?_ ((Ev.mk _).congr (by rw [hxy]; rfl))))
            have : ((strOfNums ((bV b).take (bV a).length)).data.toList == (strOfNums (bV a)).data.toList) = false := beq_false_of_ne fun e => by
              have e2 := str_inj (fun x hx => bV_byt b x (List.mem_of_mem_take hx)) (bV_byt a) e
              exact hab (front ca cb ra rb la lb e2)
            rw [this]
            rfl
    · exact Ev.bind gb (Ev.t rfl (Ev.mk _))
  · exact Ev.bind ga (Ev.t rfl (Ev.mk _))

/-! ### WireValues -/
theorem s10 (v : Val) (hr : RgV v) (b : List Int) : Ev (fun n => s_f10 n v b) true := by
  unfold s_f10
  refine Ev.bind e45 (Ev.f rfl ?_)
  rcases e18b v hr with ⟨hb, hc, hl, hg⟩ | hg
  · refine Ev.bind hg ?_
    by_cases h50 : (b.length : Int) > 50
    · exact Ev.t (by rw [decide_eq_true h50]; rfl) (Ev.mk _)
    · refine Ev.f (by rw [decide_eq_false h50]; rfl) (Ev.g (by omega) (Ev.bind (e46 v b hr (by omega)) (Ev.g (by omega) (Ev.bind (e22 v hb) (Ev.bind (e47 v b hr (by omega)) (Ev.f (by simp) (Ev.g (by simp) ?_)))))))
      have e : (b ++ bV v).drop b.length = bV v := by simp
      rw [e]
      refine Ev.g (by omega) (Ev.g (by omega) (Ev.bind (e48 hc hr (by simp; omega)) ((Ev.mk _).congr ?_)))
      simp only [cmpV_self, List.length_append]
      rw [wrap64 (by omega) (by omega), show (((b.length + (bV v).length : Nat) : Int) - (b.length : Int)) = ((bV v).length : Nat) by omega]
      simp
  · exact Ev.bind hg (Ev.t rfl (Ev.mk _))
end Go.Proofs.Ytbcjcekoonebiaa.Tl
