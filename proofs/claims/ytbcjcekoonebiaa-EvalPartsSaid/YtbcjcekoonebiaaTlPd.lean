/- Types and expressions of the document, as plain functions. Conditions: none. -/
import Derived.Test.YtbcjcekoonebiaaTlXz
import Derived.Test.YtbcjcekoonebiaaTlPc
set_option linter.unusedVariables false
set_option linter.unusedSimpArgs false
namespace Go.Proofs.Ytbcjcekoonebiaa.Tl
open Go Go.RowKit

abbrev zT : Ty := .mk 0 []
/-! ### what is wrong with a type -/
mutual
def ckT : Ty → Int → Int
  | .mk k l, d => bif ((decide (k < 1)) || (decide (k > 4))) || ((k != 4) && (decide ((l.length : Int) > 0))) then 5 else bif k != 4 then 0 else bif (l.length : Int) == 0 then 1 else bif decide ((l.length : Int) > 8) then 10 else bif decide (d > 4) then 9 else ckTs l (d + 1)
def ckTs : List Ty → Int → Int
  | [], _ => 0
  | x :: r, d => bif ckT x d != 0 then ckT x d else ckTs r d
end
mutual
theorem e91 : ∀ (v : Ty) (d : Int), 0 ≤ d → d ≤ 5 → Ev (fun n => s_f91 n v d) (ckT v d)
  | .mk k t, d, h0, h1 => by
    refine Ev.succ ?_
    simp only [s_f91, ckT, Ty.kind, Ty.of]
    refine Ev.if (fun _ => Ev.mk _) (fun _ => Ev.if (fun _ => Ev.mk _) (fun _ => Ev.if (fun _ => Ev.mk _) (fun _ => Ev.if (fun _ => Ev.mk _) (fun _ => Ev.if (fun _ => Ev.mk _) (fun hd => ?_)))))
    exact e91s t k t 0 d rfl h0 (by simpa using hd)
theorem e91s : ∀ (r : List Ty) (k : Int) (t : List Ty) (j : Nat) (d : Int), t.drop j = r → 0 ≤ d → d ≤ 4 → Ev (fun n => s_f91_l1 n (.mk k t) d j) (ckTs r (d + 1))
  | [], k, t, j, d, h, h0, h1 => by
    refine Ev.succ ?_
    simp only [s_f91_l1, ckTs, Ty.of]
    exact Ev.f (cj_f (drop_n h)) (Ev.mk _)
  | x :: r, k, t, j, d, h, h0, h1 => by
    obtain ⟨hj, hx, hr⟩ := drop_c h
    refine Ev.succ ?_
    simp only [s_f91_l1, ckTs, Ty.of]
    refine Ev.t (cj_t hj) (Ev.bindc hx (Ev.bind (a := ckT x (d + 1)) ?_ (Ev.if (fun _ => Ev.mk _) (fun _ => e91s r k t (j + 1) d hr h0 h1))))
    rw [w1 (by omega) (by omega)]
    exact e91 x (d + 1) (by omega) (by omega)
end
theorem e56 (v : Ty) : Ev (fun n => s_f56 n v) (ckT v 0) := by
  unfold s_f56
  exact Ev.ret (g := id) (e91 v 0 (by omega) (by omega))

/-! ### types alike -/
mutual
def sameT : Ty → Ty → Bool
  | .mk k l, u => bif (k != u.kind) || ((l.length : Int) != (u.of.length : Int)) then false else sameTs l u.of
def sameTs : List Ty → List Ty → Bool
  | x :: r, y :: q => bif !(sameT x y) then false else sameTs r q
  | _, _ => true
end
mutual
theorem e65 : ∀ (a b : Ty), Ev (fun n => s_f65 n a b) (sameT a b)
  | .mk k l, b => by
    refine Ev.succ ?_
    simp only [s_f65, sameT, Ty.kind, Ty.of]
    refine Ev.if (fun _ => Ev.mk _) (fun hc => ?_)
    simp only [Bool.or_eq_false_iff] at hc
    have hl : l.length = b.of.length := by have q : ((l.length : Int) != (b.of.length : Int)) = false := hc.2; simp at q; omega
    exact e65s l k l b 0 rfl hl
theorem e65s : ∀ (r : List Ty) (k : Int) (l : List Ty) (b : Ty) (j : Nat), l.drop j = r → l.length = b.of.length → Ev (fun n => s_f65_l1 n (.mk k l) b j) (sameTs r (b.of.drop j))
  | [], k, l, b, j, h, hl => by
    refine Ev.succ ?_
    simp only [s_f65_l1, sameTs, Ty.of]
    exact Ev.f (cj_f (drop_n h)) (Ev.mk _)
  | x :: r, k, l, b, j, h, hl => by
    obtain ⟨hj, hx, hr⟩ := drop_c h
    refine Ev.succ ?_
    have hy : b.of[j]? = some (b.of[j]'(by omega)) := List.getElem?_eq_getElem (by omega)
    rw [drop_get hy]
    simp only [s_f65_l1, sameTs, Ty.of]
    refine Ev.t (cj_t hj) (Ev.bindc hx (Ev.bindc hy (Ev.bind (e65 x _) (Ev.if (fun _ => Ev.mk _) (fun _ => e65s r k l b (j + 1) hr hl)))))
end
mutual
theorem sameT_iff : ∀ a b : Ty, sameT a b = true ↔ a = b
  | .mk k l, .mk k' l' => by
    simp only [sameT, Ty.kind, Ty.of]
    cases hc : (k != k') || ((l.length : Int) != (l'.length : Int)) with
    | true =>
      simp only [cond_true, Bool.false_eq_true, false_iff, Ty.mk.injEq, not_and]
      rintro rfl rfl
      simp at hc
    | false =>
      simp only [cond_false, Ty.mk.injEq]
      simp only [Bool.or_eq_false_iff] at hc
      have h1 : k = k' := by simpa using hc.1
      have h2 : l.length = l'.length := by have := hc.2; simp at this; omega
      rw [sameTs_iff l l' h2]
      simp [h1]
theorem sameTs_iff : ∀ a b : List Ty, a.length = b.length → (sameTs a b = true ↔ a = b)
  | [], [], _ => by simp [sameTs]
  | [], _ :: _, h => by simp at h
  | _ :: _, [], h => by simp at h
  | x :: r, y :: q, h => by
    simp only [sameTs]
    have h1 := sameT_iff x y
    have h2 := sameTs_iff r q (by simpa using h)
    cases hc : sameT x y with
    | true =>
      have h3 := h1.1 hc
      subst h3
      simp [h2]
    | false =>
      simp only [Bool.not_false, cond_true, Bool.false_eq_true, false_iff, List.cons.injEq, not_and]
      intro h3
      rw [h3, (sameT_iff y y).2 rfl] at hc
      cases hc
end
theorem sameT_eq (a b : Ty) : sameT a b = true ↔ a = b := sameT_iff a b

/-! ### ops -/
def arS (o : List UInt8) : Int :=
  bif o == [108, 105, 116] then 0 else bif o == [120] then 0 else bif o == [97, 116] then 1 else bif o == [110, 101, 103] then 1 else bif o == [110, 111, 116] then 1 else bif o == [108, 101, 110] then 1
  else bif o == [97, 100, 100] then 2 else bif o == [115, 117, 98] then 2 else bif o == [109, 117, 108] then 2 else bif o == [100, 105, 118] then 2 else bif o == [114, 101, 109] then 2 else bif o == [101, 113] then 2 else bif o == [108, 116] then 2
  else bif o == [97, 110, 100] then 2 else bif o == [111, 114] then 2 else bif o == [99, 97, 116] then 2 else bif o == [105, 102] then 3 else bif o == [116, 117, 112] then -1 else -2
theorem e92 (op : ByteArray) : Ev (fun n => s_f92 n op) (arS op.data.toList) := by
  unfold s_f92 arS
  repeat' first | exact Ev.mk _ | refine Ev.if (fun _ => ?_) (fun _ => ?_)

def allK (k : Int) (ts : List Ty) (r : Ty) : Ty × Int :=
  match ts with
  | [] => (r, 0)
  | x :: q => bif x.kind != k then (zT, 5) else allK k q r
theorem e94_1 : ∀ (r ts : List Ty) (j : Nat), ts.drop j = r → Ev (fun n => s_f94_l1 n ts j) (allK 1 r (.mk 1 []))
  | [], ts, j, h => by
    refine Ev.succ ?_
    simp only [s_f94_l1, allK]
    exact Ev.f (cj_f (drop_n h)) (Ev.mk _)
  | x :: r, ts, j, h => by
    obtain ⟨hj, hx, hr⟩ := drop_c h
    refine Ev.succ ?_
    simp only [s_f94_l1, allK]
    exact Ev.t (cj_t hj) (Ev.bindc hx (Ev.if (fun _ => Ev.mk _) (fun _ => e94_1 r ts (j + 1) hr)))
theorem e94_7 : ∀ (r ts : List Ty) (j : Nat), ts.drop j = r → Ev (fun n => s_f94_l7 n ts j) (allK 2 r (.mk 2 []))
  | [], ts, j, h => by
    refine Ev.succ ?_
    simp only [s_f94_l7, allK]
    exact Ev.f (cj_f (drop_n h)) (Ev.mk _)
  | x :: r, ts, j, h => by
    obtain ⟨hj, hx, hr⟩ := drop_c h
    refine Ev.succ ?_
    simp only [s_f94_l7, allK]
    exact Ev.t (cj_t hj) (Ev.bindc hx (Ev.if (fun _ => Ev.mk _) (fun _ => e94_7 r ts (j + 1) hr)))
theorem e94_10 : ∀ (r ts : List Ty) (j : Nat), ts.drop j = r → Ev (fun n => s_f94_l10 n ts j) (allK 3 r (.mk 3 []))
  | [], ts, j, h => by
    refine Ev.succ ?_
    simp only [s_f94_l10, allK]
    exact Ev.f (cj_f (drop_n h)) (Ev.mk _)
  | x :: r, ts, j, h => by
    obtain ⟨hj, hx, hr⟩ := drop_c h
    refine Ev.succ ?_
    simp only [s_f94_l10, allK]
    exact Ev.t (cj_t hj) (Ev.bindc hx (Ev.if (fun _ => Ev.mk _) (fun _ => e94_10 r ts (j + 1) hr)))
theorem e94_11 : ∀ (r ts : List Ty) (j : Nat), ts.drop j = r → Ev (fun n => s_f94_l11 n ts j) (allK 3 r (.mk 1 []))
  | [], ts, j, h => by
    refine Ev.succ ?_
    simp only [s_f94_l11, allK]
    exact Ev.f (cj_f (drop_n h)) (Ev.mk _)
  | x :: r, ts, j, h => by
    obtain ⟨hj, hx, hr⟩ := drop_c h
    refine Ev.succ ?_
    simp only [s_f94_l11, allK]
    exact Ev.t (cj_t hj) (Ev.bindc hx (Ev.if (fun _ => Ev.mk _) (fun _ => e94_11 r ts (j + 1) hr)))
theorem e94_12 : ∀ (r ts : List Ty) (j : Nat), ts.drop j = r → Ev (fun n => s_f94_l12 n ts j) (allK 0 r (.mk 0 []))
  | [], ts, j, h => by
    refine Ev.succ ?_
    simp only [s_f94_l12, allK]
    exact Ev.f (cj_f (drop_n h)) (Ev.mk _)
  | x :: r, ts, j, h => by
    obtain ⟨hj, hx, hr⟩ := drop_c h
    refine Ev.succ ?_
    simp only [s_f94_l12, allK]
    exact Ev.t (cj_t hj) (Ev.bindc hx (Ev.if (fun _ => Ev.mk _) (fun _ => e94_12 r ts (j + 1) hr)))

abbrev th (ts : List Ty) (j : Nat) : Ty := (ts[j]?).getD zT
/-- What an op makes of types. -/
def opTy (o : List UInt8) (m : Int) (ts : List Ty) : Ty × Int :=
  bif o == [97, 116] then (bif (th ts 0).kind != 4 then (zT, 5) else bif decide (m < 0) then (zT, 1) else bif decide (m ≥ ((th ts 0).of.length : Int)) then (zT, 1) else (th (th ts 0).of m.toNat, 0))
  else bif o == [116, 117, 112] then (bif ckT (.mk 4 ts) 0 != 0 then (zT, 9) else (.mk 4 ts, 0))
  else bif o == [101, 113] then (bif !(sameT (th ts 0) (th ts 1)) then (zT, 5) else (.mk 2 [], 0))
  else bif o == [108, 116] then (bif !(sameT (th ts 0) (th ts 1)) then (zT, 5) else (.mk 2 [], 0))
  else bif o == [105, 102] then (bif (th ts 0).kind != 2 then (zT, 5) else bif !(sameT (th ts 1) (th ts 2)) then (zT, 5) else (th ts 1, 0))
  else bif o == [110, 101, 103] then allK 1 ts (.mk 1 []) else bif o == [97, 100, 100] then allK 1 ts (.mk 1 []) else bif o == [115, 117, 98] then allK 1 ts (.mk 1 []) else bif o == [109, 117, 108] then allK 1 ts (.mk 1 []) else bif o == [100, 105, 118] then allK 1 ts (.mk 1 []) else bif o == [114, 101, 109] then allK 1 ts (.mk 1 [])
  else bif o == [110, 111, 116] then allK 2 ts (.mk 2 []) else bif o == [97, 110, 100] then allK 2 ts (.mk 2 []) else bif o == [111, 114] then allK 2 ts (.mk 2 [])
  else bif o == [99, 97, 116] then allK 3 ts (.mk 3 []) else bif o == [108, 101, 110] then allK 3 ts (.mk 1 []) else allK 0 ts (.mk 0 [])
theorem th_get {ts : List Ty} {j : Nat} (h : j < ts.length) : ts[j]? = some (th ts j) := by
  simp [th, List.getElem?_eq_getElem h]
theorem e94 (op : ByteArray) (m : Int) (ts : List Ty) (h1 : op.data.toList = [97, 116] → 0 < ts.length) (h2 : op.data.toList = [101, 113] ∨ op.data.toList = [108, 116] → 1 < ts.length) (h3 : op.data.toList = [105, 102] → 2 < ts.length) : Ev (fun n => s_f94 n op m ts) (opTy op.data.toList m ts) := by
  unfold s_f94 opTy
  generalize op.data.toList = o at *
  refine Ev.if (fun h => ?_) (fun _ => Ev.if (fun h => ?_) (fun _ => Ev.if (fun h => ?_) (fun _ => Ev.if (fun h => ?_) (fun _ => Ev.if (fun h => ?_) (fun _ => Ev.if (fun h => ?_) (fun _ => Ev.if (fun h => ?_) (fun _ => Ev.if (fun h => ?_) (fun _ => Ev.if (fun h => ?_) (fun _ => Ev.if (fun h => ?_) (fun _ => Ev.if (fun h => ?_) (fun _ => Ev.if (fun h => ?_) (fun _ => Ev.if (fun h => ?_) (fun _ => Ev.if (fun h => ?_) (fun _ => Ev.if (fun h => ?_) (fun _ => Ev.if (fun h => ?_) (fun _ => ?_))))))))))))))))
  · have h0 := th_get (h1 (eq_of_beq h))
    refine Ev.bindc h0 (Ev.if (fun _ => Ev.mk _) (fun _ => Ev.if (fun _ => Ev.mk _) (fun hm => Ev.bindc h0 (Ev.if (fun _ => Ev.mk _) (fun hl => Ev.bindc h0 (Ev.g ?_ (Ev.bindc (th_get ?_) (Ev.mk _))))))))
    · simpa using hm
    · simp at hm hl; omega
  · exact Ev.bind (e56 _) (Ev.if (fun _ => Ev.mk _) (fun _ => Ev.mk _))
  · have hl := h2 (.inl (eq_of_beq h))
    exact Ev.bindc (th_get (by omega)) (Ev.bindc (th_get hl) (Ev.bind (e65 _ _) (Ev.if (fun _ => Ev.mk _) (fun _ => Ev.mk _))))
  · have hl := h2 (.inr (eq_of_beq h))
    exact Ev.bindc (th_get (by omega)) (Ev.bindc (th_get hl) (Ev.bind (e65 _ _) (Ev.if (fun _ => Ev.mk _) (fun _ => Ev.mk _))))
  · have hl := h3 (eq_of_beq h)
    exact Ev.bindc (th_get (by omega)) (Ev.if (fun _ => Ev.mk _) (fun _ => Ev.bindc (th_get (by omega)) (Ev.bindc (th_get hl) (Ev.bind (e65 _ _) (Ev.if (fun _ => Ev.mk _) (fun _ => Ev.bindc (th_get (by omega)) (Ev.mk _)))))))
  all_goals first | exact e94_1 _ _ _ rfl | exact e94_7 _ _ _ rfl | exact e94_10 _ _ _ rfl | exact e94_11 _ _ _ rfl | exact e94_12 _ _ _ rfl

/-! ### what is few of expressions -/
mutual
def BdE : Ex → Prop
  | .mk o v m a => a.length ≤ 12 ∧ BdV v ∧ BdEs a
def BdEs : List Ex → Prop
  | [] => True
  | x :: r => BdE x ∧ BdEs r
end
mutual
def bgE : Ex → Int → Int → Int
  | .mk o v m a, d, l => bif decide (l ≤ 0) then 0 else bif decide (d ≤ 0) then 0 else bif decide ((a.length : Int) > 12) then 0 else bif decide ((o.size : Int) > 20) then 0 else bif !(decide (bgV v 12 300 > 0)) then 0 else bgEs a (d - 1) (l - 1)
def bgEs : List Ex → Int → Int → Int
  | [], _, l => l
  | x :: r, d, l => bif decide (l > 0) then bgEs r d (bgE x d l) else l
end
mutual
theorem bgE_le : ∀ (v : Ex) (d l : Int), 0 ≤ l → 0 ≤ bgE v d l ∧ bgE v d l ≤ l
  | .mk o v m a, d, l, h => by
    simp only [bgE]
    cases h1 : decide (l ≤ 0)
    · cases h2 : decide (d ≤ 0)
      · cases h3 : decide ((a.length : Int) > 12)
        · cases h4 : decide ((o.size : Int) > 20)
          · cases h5 : !(decide (bgV v 12 300 > 0))
            · simp only [cond_false]
              simp at h1
              have := bgEs_le a (d - 1) (l - 1) (by omega)
              omega
            · simpa using h
          · simpa using h
        · simpa using h
      · simpa using h
    · simpa using h
theorem bgEs_le : ∀ (r : List Ex) (d l : Int), 0 ≤ l → 0 ≤ bgEs r d l ∧ bgEs r d l ≤ l
  | [], d, l, h => by simp only [bgEs]; omega
  | x :: r, d, l, h => by
    simp only [bgEs]
    cases hc : decide (l > 0) with
    | true =>
      simp only [cond_true]
      have h1 := bgE_le x d l h
      have h2 := bgEs_le r d (bgE x d l) h1.1
      omega
    | false => simp only [cond_false]; omega
end
mutual
theorem e54 : ∀ (v : Ex) (d l : Int), -5 ≤ d → d ≤ 30 → -5 ≤ l → l ≤ 1000 → Ev (fun n => s_f54 n v d l) (bgE v d l)
  | .mk o v m a, d, l, h0, h1, h2, h3 => by
    refine Ev.succ ?_
    simp only [s_f54, bgE, Ex.a, Ex.op, Ex.v]
    refine Ev.if (fun _ => Ev.mk _) (fun c1 => Ev.if (fun _ => Ev.mk _) (fun c2 => Ev.if (fun _ => Ev.mk _) (fun c3 => Ev.if (fun _ => Ev.mk _) (fun c4 => Ev.bind (e55 v) (Ev.if (fun _ => Ev.mk _) (fun c5 => ?_))))))
    have c1 := of_decide_eq_false c1
    have c2 := of_decide_eq_false c2
    have c3 := of_decide_eq_false c3
    have c3 : ¬ ((a.length : Int) > 12) := c3
    rw [w1m (by omega) (by omega)]
    exact e54s a o v m a 0 d (l - 1) rfl (by omega) h1 (by omega) (by omega) (by omega)
theorem e54s : ∀ (r : List Ex) (o : ByteArray) (v : Val) (m : Int) (a : List Ex) (j : Nat) (d l : Int), a.drop j = r → 0 < d → d ≤ 30 → 0 ≤ l → l ≤ 1000 → a.length ≤ 20 → Ev (fun n => s_f54_l1 n (.mk o v m a) d l j) (bgEs r (d - 1) l)
  | [], o, v, m, t, j, d, l, h, h0, h1, h2, h3, h4 => by
    refine Ev.succ ?_
    simp only [s_f54_l1, bgEs, Ex.a]
    exact Ev.f (and_f (cj_f (drop_n h))) (Ev.mk _)
  | x :: r, o, v, m, t, j, d, l, h, h0, h1, h2, h3, h4 => by
    obtain ⟨hj, hx, hr⟩ := drop_c h
    refine Ev.succ ?_
    simp only [s_f54_l1, bgEs, Ex.a]
    refine Ev.ifa (cj_t hj) (fun hl => ?_) (fun hl => Ev.mk _)
    have hb := bgE_le x (d - 1) l h2
    refine Ev.g (Int.natCast_nonneg j) (Ev.bindc (by rw [Int.toNat_natCast]; exact hx) (Ev.bind (a := bgE x (d - 1) l) ?_ ?_))
    · rw [w1m (by omega) (by omega)]
      exact e54 x (d - 1) l (by omega) (by omega) (by omega) (by omega)
    · rw [w1 (by omega) (by omega)]
      exact e54s r o v m t (j + 1) d _ hr h0 h1 hb.1 (by omega) h4
end
mutual
theorem bgE_bd : ∀ (v : Ex) (d l : Int), 0 < bgE v d l → BdE v
  | .mk o v m a, d, l, h => by
    simp only [bgE] at h
    cases h1 : decide (l ≤ 0)
    · cases h2 : decide (d ≤ 0)
      · cases h3 : decide ((a.length : Int) > 12)
        · cases h4 : decide ((o.size : Int) > 20)
          · cases h5 : !(decide (bgV v 12 300 > 0))
            · simp only [h1, h2, h3, h4, h5, cond_false] at h
              simp at h3 h5
              exact ⟨by omega, bg_bd v 12 300 h5, bgEs_bd a (d - 1) (l - 1) h⟩
            · simp [h1, h2, h3, h4, h5] at h
          · simp [h1, h2, h3, h4] at h
        · simp [h1, h2, h3] at h
      · simp [h1, h2] at h
    · simp [h1] at h
theorem bgEs_bd : ∀ (r : List Ex) (d l : Int), 0 < bgEs r d l → BdEs r
  | [], d, l, h => trivial
  | x :: r, d, l, h => by
    simp only [bgEs] at h
    cases hc : decide (l > 0) with
    | true =>
      rw [hc] at h
      simp only [cond_true] at h
      have h2 := bgEs_bd r d _ h
      refine ⟨bgE_bd x d l ?_, h2⟩
      rcases Int.lt_or_le 0 (bgE x d l) with h3 | h3
      · exact h3
      · have h4 := bgE_le x d l (by simp at hc; omega)
        have h5 := bgEs_le r d (bgE x d l) h4.1
        omega
    | false =>
      rw [hc] at h
      simp only [cond_false] at h
      simp at hc
      omega
end
theorem e17 (e : Ex) : (BdE e ∧ Ev (fun n => s_f17 n e) true) ∨ Ev (fun n => s_f17 n e) false := by
  unfold s_f17
  have h : Ev (fun n => (s_f54 n e 20 400).bind fun q1 => some (decide (q1 > 0))) (decide (bgE e 20 400 > 0)) := Ev.ret (e54 e 20 400 (by omega) (by omega) (by omega) (by omega))
  cases hb : decide (bgE e 20 400 > 0) with
  | false => right; rw [hb] at h; exact h
  | true => left; rw [hb] at h; exact ⟨bgE_bd e 20 400 (of_decide_eq_true hb), h⟩

/-! ### as the document's -/
mutual
theorem e19 : ∀ v : Ex, BdE v → Ev (fun n => s_f19 n v) v
  | .mk o v m a, h => by
    refine Ev.succ ?_
    simp only [s_f19]
    exact Ev.bind (e22 v h.2.1) (e19s a o v m a 0 [] rfl rfl h.1 h.2.2)
theorem e19s : ∀ (r : List Ex) (o : ByteArray) (v : Val) (m : Int) (t : List Ex) (j : Nat) (acc : List Ex), acc ++ r = t → acc.length = j → t.length ≤ 12 → BdEs r → Ev (fun n => s_f19_l1 n (.mk o v m t) v j acc) (.mk o v m t)
  | [], o, v, m, t, j, acc, h, hj, hl, hb => by
    refine Ev.succ ?_
    subst hj
    simp only [List.append_nil] at h
    subst h
    simp only [s_f19_l1, Ex.op, Ex.n, Ex.a]
    exact Ev.f (cj_f (Nat.le_refl _)) (Ev.mk _)
  | x :: r, o, v, m, t, j, acc, h, hj, hl, hb => by
    refine Ev.succ ?_
    have hx : t[j]? = some x := by subst h hj; simp
    have hlt : j < t.length := (List.getElem?_eq_some_iff.1 hx).1
    simp only [s_f19_l1, Ex.a]
    exact Ev.t (cj_t hlt) (Ev.bindc hx (Ev.bind (e19 x hb.1) (Ev.g (by omega) (e19s r o v m t (j + 1) (acc ++ [x]) (by simp [h]) (by simp [hj]) hl hb.2))))
end

/-! ### size -/
mutual
def szE : Ex → Int
  | .mk o v m a => szEs a 1
def szEs : List Ex → Int → Int
  | [], s => s
  | x :: r, s => szEs r (IntKind.i64.wrap (s + szE x))
end
mutual
theorem e57 : ∀ v : Ex, Ev (fun n => s_f57 n v) (szE v)
  | .mk o v m a => by
    refine Ev.succ ?_
    simp only [s_f57, szE]
    exact e57s a o v m a 0 1 rfl
theorem e57s : ∀ (r : List Ex) (o : ByteArray) (v : Val) (m : Int) (t : List Ex) (j : Nat) (s : Int), t.drop j = r → Ev (fun n => s_f57_l1 n (.mk o v m t) s j) (szEs r s)
  | [], o, v, m, t, j, s, h => by
    refine Ev.succ ?_
    simp only [s_f57_l1, szEs, Ex.a]
    exact Ev.f (cj_f (drop_n h)) (Ev.mk _)
  | x :: r, o, v, m, t, j, s, h => by
    obtain ⟨hj, hx, hr⟩ := drop_c h
    refine Ev.succ ?_
    simp only [s_f57_l1, szEs, Ex.a]
    exact Ev.t (cj_t hj) (Ev.bindc hx (Ev.bind (e57 x) (e57s r o v m t (j + 1) _ hr)))
end

/-! ### the type of an expression -/
mutual
def ckE : Ex → Ty → Int → Ty × Int
  | .mk o v m a, ty, d =>
    bif arS o.data.toList == (-2) then (zT, 6) else bif decide (d > 12) then (zT, 9)
    else bif ((decide (arS o.data.toList ≥ 0)) && ((a.length : Int) != arS o.data.toList)) || ((decide (arS o.data.toList < 0)) && ((decide ((a.length : Int) < 1)) || (decide ((a.length : Int) > 8)))) then (zT, 1)
    else bif ((o.data.toList != [97, 116]) && (m != 0)) || ((o.data.toList != [108, 105, 116]) && (!(((((v.kind == 0) && (v.i == 0)) && (!v.b)) && (v.s.data.toList == [])) && ((v.t.length : Int) == 0)))) then (zT, 1)
    else bif o.data.toList == [108, 105, 116] then (bif ckV v 0 != 0 then (zT, ckV v 0) else (tyV v, 0))
    else bif o.data.toList == [120] then (ty, 0)
    else bif (ckEs a ty (d + 1)).2 != 0 then (zT, (ckEs a ty (d + 1)).2) else opTy o.data.toList m (ckEs a ty (d + 1)).1
def ckEs : List Ex → Ty → Int → List Ty × Int
  | [], _, _ => ([], 0)
  | e :: r, ty, d => bif (ckE e ty d).2 != 0 then ([], (ckE e ty d).2) else bif (ckEs r ty d).2 != 0 then ([], (ckEs r ty d).2) else ((ckE e ty d).1 :: (ckEs r ty d).1, 0)
end
theorem ckEs_length : ∀ (l : List Ex) (ty : Ty) (d : Int), (ckEs l ty d).2 = 0 → (ckEs l ty d).1.length = l.length
  | [], _, _, _ => rfl
  | e :: r, ty, d, h => by
    simp only [ckEs] at h ⊢
    cases h1 : (ckE e ty d).2 != 0 with
    | true => rw [h1] at h; simp only [cond_true] at h; simp [h] at h1
    | false =>
      rw [h1] at h
      simp only [cond_false] at h ⊢
      cases h2 : (ckEs r ty d).2 != 0 with
      | true => rw [h2] at h; simp only [cond_true] at h; simp [h] at h2
      | false => simp only [cond_false, List.length_cons, ckEs_length r ty d (by simpa using h2)]
/-- How many arguments ops have. -/
def arOk (o : List UInt8) (m : Nat) : Prop := (o = [97, 116] → 0 < m) ∧ (o = [101, 113] ∨ o = [108, 116] → 1 < m) ∧ (o = [105, 102] → 2 < m)
theorem arOk_of {o : List UInt8} {m : Nat} (h : (((decide (arS o ≥ 0)) && ((m : Int) != arS o)) || ((decide (arS o < 0)) && ((decide ((m : Int) < 1)) || (decide ((m : Int) > 8))))) = false) : arOk o m := by
  refine ⟨?_, ?_, ?_⟩
  · rintro rfl
    have e : arS [97, 116] = 1 := rfl
    rw [e] at h
    simp at h
    omega
  · rintro (rfl | rfl)
    · have e : arS [101, 113] = 2 := rfl
      rw [e] at h
      simp at h
      omega
    · have e : arS [108, 116] = 2 := rfl
      rw [e] at h
      simp at h
      omega
  · rintro rfl
    have e : arS [105, 102] = 3 := rfl
    rw [e] at h
    simp at h
    omega
mutual
theorem e58 : ∀ (e : Ex) (ty : Ty) (d : Int), 0 ≤ d → d ≤ 13 → BdE e → Ev (fun n => s_f58 n e ty d) (ckE e ty d)
  | .mk o v m a, ty, d, h0, h1, hb => by
    refine Ev.succ ?_
    simp only [s_f58, ckE, Ex.op, Ex.v, Ex.n, Ex.a]
    refine Ev.bind (e92 o) (Ev.if (fun _ => Ev.mk _) (fun _ => Ev.if (fun _ => Ev.mk _) (fun hd => Ev.if (fun _ => Ev.mk _) (fun har => Ev.if (fun _ => Ev.mk _) (fun _ => Ev.if (fun _ => Ev.bind (e34 v) (Ev.if (fun _ => Ev.mk _) (fun _ => Ev.bind (e21 v hb.2.1) (Ev.mk _)))) (fun _ => Ev.if (fun _ => Ev.mk _) (fun _ => ?_)))))))
    have hd : d ≤ 12 := by simpa using hd
    have := e58s a o v m a ty d [] 0 rfl rfl h0 hd (arOk_of har) hb.1 hb.2.2
    simpa using this
theorem e58s : ∀ (r : List Ex) (o : ByteArray) (v : Val) (m : Int) (a : List Ex) (ty : Ty) (d : Int) (acc : List Ty) (j : Nat), a.drop j = r → acc.length = j → 0 ≤ d → d ≤ 12 → arOk o.data.toList a.length → a.length ≤ 12 → BdEs r →
    Ev (fun n => s_f58_l1 n (.mk o v m a) ty d acc j) (bif (ckEs r ty (d + 1)).2 != 0 then (zT, (ckEs r ty (d + 1)).2) else opTy o.data.toList m (acc ++ (ckEs r ty (d + 1)).1))
  | [], o, v, m, a, ty, d, acc, j, h, hj, h0, h1, har, hl, hb => by
    refine Ev.succ ?_
    simp only [s_f58_l1, ckEs, Ex.a, Ex.op, Ex.n, List.append_nil]
    have hle := drop_n h
    refine Ev.f (cj_f hle) ?_
    show Ev _ (opTy o.data.toList m acc)
    exact Ev.bind (e94 o m acc (fun q => by have := har.1 q; omega) (fun q => by have := har.2.1 q; omega) (fun q => by have := har.2.2 q; omega)) (Ev.mk _)
  | x :: r, o, v, m, a, ty, d, acc, j, h, hj, h0, h1, har, hl, hb => by
    obtain ⟨hlt, hx, hr⟩ := drop_c h
    refine Ev.succ ?_
    simp only [s_f58_l1, ckEs, Ex.a]
    refine Ev.t (cj_t hlt) (Ev.bindc hx (Ev.bind (a := ckE x ty (d + 1)) ?_ ?_))
    · rw [w1 (by omega) (by omega)]
      exact e58 x ty (d + 1) (by omega) (by omega) hb.1
    · cases hc : (ckE x ty (d + 1)).2 != 0 with
      | true => simp only [cond_true, hc]; exact Ev.mk _
      | false =>
        simp only [cond_false]
        refine Ev.g (by omega) ((e58s r o v m a ty d (acc ++ [(ckE x ty (d + 1)).1]) (j + 1) hr (by simp [hj]) h0 h1 har hl hb.2).congr ?_)
        cases hq : (ckEs r ty (d + 1)).2 != 0 with
        | true => simp [hq]
        | false => simp
end
/-- CheckExpr. -/
def ckX (e : Ex) (ty : Ty) : Ty × Int := bif ckT ty 0 != 0 then (zT, 5) else bif decide (szE e > 256) then (zT, 10) else ckE e ty 0
theorem e20 (e : Ex) (ty : Ty) (hb : BdE e) : Ev (fun n => s_f20 n e ty) (ckX e ty) := by
  unfold s_f20 ckX
  exact Ev.bind (e56 ty) (Ev.if (fun _ => Ev.mk _) (fun _ => Ev.bind (e57 e) (Ev.if (fun _ => Ev.mk _) (fun _ => Ev.bind (e58 e ty 0 (by omega) (by omega) hb) (Ev.mk _)))))
end Go.Proofs.Ytbcjcekoonebiaa.Tl
