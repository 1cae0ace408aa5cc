/- EvalAny, as a plain law. Conditions: none. -/
import Derived.Test.YtbcjcekoonebiaaTlPf
import Derived.Test.YtbcjcekoonebiaaTlXd
set_option linter.unusedVariables false
set_option linter.unusedSimpArgs false
namespace Go.Proofs.Ytbcjcekoonebiaa.Tl
open Go Go.RowKit

def Res (e : Ex) (x : Val) (t : Ty) : Prop := ∃ w h, evalS e x = some (w, h) ∧ Ev (fun n => s_f24 n e x) (w, h) ∧ (h = 0 → OKv w t) ∧ (h ≠ 0 → w = zeroV)
def Ress : List Ex → Val → List Ty → Prop
  | [], _, [] => True
  | e :: r, x, t :: ts => Res e x t ∧ Ress r x ts
  | _, _, _ => False
theorem Ress.len : ∀ {l : List Ex} {x : Val} {ts : List Ty}, Ress l x ts → l.length = ts.length
  | [], _, [], _ => rfl
  | [], _, _ :: _, h => by simp [Ress] at h
  | _ :: _, _, [], h => by simp [Ress] at h
  | _ :: _, _, _ :: _, h => by simp only [List.length_cons, Ress.len h.2]

theorem loopR (op : ByteArray) (v : Val) (m : Int) (a : List Ex) (x : Val) (ha : a.length ≤ 1000) : ∀ (r : List Ex) (rt : List Ty) (acc : List Val) (j : Nat), a.drop j = r → acc.length = j → Ress r x rt →
    ∃ ws g, allS r x = some (ws, g) ∧ (g = 0 → OKvs ws rt) ∧ ∀ M : Val × Int, (g = 0 → Ev (fun n => s_f63 n op m (acc ++ ws)) M) → Ev (fun n => s_f24_l1 n (.mk op v m a) x acc j) (if g = 0 then M else (zeroV, g))
  | [], [], acc, j, h, hj, hr => by
    refine ⟨[], 0, rfl, fun _ => trivial, fun M hM => Ev.succ ?_⟩
    have hM := hM rfl
    rw [List.append_nil] at hM
    simp only [s_f24_l1, Ex.a, Ex.op, Ex.n, if_true]
    exact Ev.f (cj_f (drop_n h)) (Ev.bind hM (Ev.mk _))
  | [], _ :: _, acc, j, h, hj, hr => by simp [Ress] at hr
  | _ :: _, [], acc, j, h, hj, hr => by simp [Ress] at hr
  | e :: r, t :: rt, acc, j, h, hj, hr => by
    obtain ⟨hlt, hx, hd⟩ := drop_c h
    obtain ⟨⟨w, f, h1, h2, h3, h4⟩, hr⟩ := hr
    obtain ⟨ws, g, k1, k2, k3⟩ := loopR op v m a x ha r rt (acc ++ [w]) (j + 1) hd (by simp [hj]) hr
    by_cases hf : f = 0
    · subst hf
      by_cases hg : g = 0
      · subst hg
        refine ⟨w :: ws, 0, by simp [allS, h1, k1], fun _ => ⟨h3 rfl, k2 rfl⟩, fun M hM => Ev.succ ?_⟩
        have hk := k3 M (fun _ => by simpa using hM rfl)
        simp only [s_f24_l1, Ex.a]
        exact Ev.t (cj_t hlt) (Ev.bindc hx (Ev.bind h2 (Ev.f rfl (Ev.g (by omega) hk))))
      · refine ⟨[], g, by simp [allS, h1, k1, hg], fun q => absurd q hg, fun M hM => Ev.succ ?_⟩
        have hk := k3 M (fun q => absurd q hg)
        simp only [s_f24_l1, Ex.a]
        exact Ev.t (cj_t hlt) (Ev.bindc hx (Ev.bind h2 (Ev.f rfl (Ev.g (by omega) hk))))
    · refine ⟨[], f, by simp [allS, h1, hf], fun q => absurd q hf, fun M hM => Ev.succ ?_⟩
      simp only [s_f24_l1, Ex.a, if_neg hf]
      exact Ev.t (cj_t hlt) (Ev.bindc hx (Ev.bind h2 (Ev.t (by simpa using hf) (Ev.mk _))))

theorem bif_zt {c : Bool} {e : Int} {p : Ty × Int} {t : Ty} (h : (bif c then (zT, e) else p) = (t, 0)) (he : e ≠ 0) : c = false ∧ p = (t, 0) := by
  cases c with
  | true => simp only [cond_true, Prod.mk.injEq] at h; exact absurd h.2 he
  | false => exact ⟨rfl, h⟩

/-- What may look at the first alone. -/
theorem lazy {op : ByteArray} {v : Val} {m : Int} {a : List Ex} {x : Val} {ts : List Ty} {t : Ty} (hop : op.data.toList = [97, 110, 100] ∨ op.data.toList = [111, 114] ∨ op.data.toList = [105, 102]) (hr : Ress a x ts)
    (hlen : (((decide (arS op.data.toList ≥ 0)) && ((a.length : Int) != arS op.data.toList)) || ((decide (arS op.data.toList < 0)) && ((decide ((a.length : Int) < 1)) || (decide ((a.length : Int) > 8))))) = false) (ht : opTy op.data.toList m ts = (t, 0)) : Res (.mk op v m a) x t := by
  have hal : ∀ c : Int, 0 ≤ c → arS op.data.toList = c → (a.length : Int) = c := by
    intro c hc e
    rw [e] at hlen
    simp only [decide_eq_true (show c ≥ 0 from hc), decide_eq_false (show ¬ c < 0 by omega), Bool.true_and, Bool.false_and, Bool.or_false] at hlen
    exact bne_f hlen
  have hl2 := hr.len
  rcases hop with hop | hop | hop
  · have h2 := hal 2 (by omega) (by rw [hop]; rfl)
    rw [hop] at ht
    rcases a with _ | ⟨e0, _ | ⟨e1, _ | ⟨e2, a⟩⟩⟩ <;> simp at h2
    · rcases ts with _ | ⟨t0, _ | ⟨t1, _ | ⟨t2, ts⟩⟩⟩ <;> simp at hl2
      obtain ⟨⟨w, f, q1, q2, q3, q4⟩, ⟨w', f', r1, r2, r3, r4⟩, _⟩ := hr
      obtain ⟨c1, c2, rfl⟩ := allK2 (show allK 2 [t0, t1] (.mk 2 []) = (t, 0) from ht)
      by_cases hf : f = 0
      · subst hf
        have q3 := q3 rfl
        have ht0 := ok_plain q3 (by omega)
        rw [c1] at ht0
        cases hb : w.b with
        | true =>
          refine ⟨w', f', ?_, Ev.succ ?_, fun q => ?_, r4⟩
          · simp [evalS, hop, isLazy, nthS, q1, chooseS, hb, r1]
          · simp only [s_f24, Ex.op, Ex.a, hop]
            exact Ev.f rfl (Ev.f rfl (Ev.bindc rfl (Ev.bind q2 (Ev.f rfl (Ev.t rfl (Ev.f (by simp [hb]) (Ev.bindc rfl (Ev.bind r2 (Ev.mk _)))))))))
          · have := r3 q
            rw [ok_plain this (by omega), c2] at this
            exact this
        | false =>
          refine ⟨w, 0, ?_, Ev.succ ?_, fun q => ht0 ▸ q3, fun q => absurd rfl q⟩
          · simp [evalS, hop, isLazy, nthS, q1, chooseS, hb]
          · simp only [s_f24, Ex.op, Ex.a, hop]
            exact Ev.f rfl (Ev.f rfl (Ev.bindc rfl (Ev.bind q2 (Ev.f rfl (Ev.t rfl (Ev.t (by simp [hb]) (Ev.mk _)))))))
      · have q4 := q4 hf
        subst q4
        refine ⟨zeroV, f, ?_, Ev.succ ?_, fun q => absurd q hf, fun _ => rfl⟩
        · simp [evalS, hop, isLazy, nthS, q1, hf]
        · simp only [s_f24, Ex.op, Ex.a, hop]
          exact Ev.f rfl (Ev.f rfl (Ev.bindc rfl (Ev.bind q2 (Ev.t (by simpa using hf) (Ev.mk _)))))
    · omega
  · have h2 := hal 2 (by omega) (by rw [hop]; rfl)
    rw [hop] at ht
    rcases a with _ | ⟨e0, _ | ⟨e1, _ | ⟨e2, a⟩⟩⟩ <;> simp at h2
    · rcases ts with _ | ⟨t0, _ | ⟨t1, _ | ⟨t2, ts⟩⟩⟩ <;> simp at hl2
      obtain ⟨⟨w, f, q1, q2, q3, q4⟩, ⟨w', f', r1, r2, r3, r4⟩, _⟩ := hr
      obtain ⟨c1, c2, rfl⟩ := allK2 (show allK 2 [t0, t1] (.mk 2 []) = (t, 0) from ht)
      by_cases hf : f = 0
      · subst hf
        have q3 := q3 rfl
        have ht0 := ok_plain q3 (by omega)
        rw [c1] at ht0
        cases hb : w.b with
        | false =>
          refine ⟨w', f', ?_, Ev.succ ?_, fun q => ?_, r4⟩
          · simp [evalS, hop, isLazy, nthS, q1, chooseS, hb, r1]
          · simp only [s_f24, Ex.op, Ex.a, hop]
            exact Ev.f rfl (Ev.f rfl (Ev.bindc rfl (Ev.bind q2 (Ev.f rfl (Ev.f rfl (Ev.t rfl (Ev.f hb (Ev.bindc rfl (Ev.bind r2 (Ev.mk _))))))))))
          · have := r3 q
            rw [ok_plain this (by omega), c2] at this
            exact this
        | true =>
          refine ⟨w, 0, ?_, Ev.succ ?_, fun q => ht0 ▸ q3, fun q => absurd rfl q⟩
          · simp [evalS, hop, isLazy, nthS, q1, chooseS, hb]
          · simp only [s_f24, Ex.op, Ex.a, hop]
            exact Ev.f rfl (Ev.f rfl (Ev.bindc rfl (Ev.bind q2 (Ev.f rfl (Ev.f rfl (Ev.t rfl (Ev.t hb (Ev.mk _))))))))
      · have q4 := q4 hf
        subst q4
        refine ⟨zeroV, f, ?_, Ev.succ ?_, fun q => absurd q hf, fun _ => rfl⟩
        · simp [evalS, hop, isLazy, nthS, q1, hf]
        · simp only [s_f24, Ex.op, Ex.a, hop]
          exact Ev.f rfl (Ev.f rfl (Ev.bindc rfl (Ev.bind q2 (Ev.t (by simpa using hf) (Ev.mk _)))))
    · omega
  · have h2 := hal 3 (by omega) (by rw [hop]; rfl)
    rw [hop] at ht
    rcases a with _ | ⟨e0, _ | ⟨e1, _ | ⟨e2, _ | ⟨e3, a⟩⟩⟩⟩ <;> simp at h2
    · rcases ts with _ | ⟨t0, _ | ⟨t1, _ | ⟨t2, _ | ⟨t3, ts⟩⟩⟩⟩ <;> simp at hl2
      obtain ⟨⟨w, f, q1, q2, q3, q4⟩, ⟨w', f', r1, r2, r3, r4⟩, ⟨w2, f2, p1, p2, p3, p4⟩, _⟩ := hr
      have ht : (bif t0.kind != 2 then (zT, (5 : Int)) else bif !(sameT t1 t2) then (zT, (5 : Int)) else (t1, (0 : Int))) = (t, 0) := ht
      obtain ⟨c1, ht⟩ := bif_zt ht (by omega)
      obtain ⟨c2, ht⟩ := bif_zt ht (by omega)
      simp only [Prod.mk.injEq, and_true] at ht
      subst ht
      have c2 := (sameT_eq t1 t2).1 (by simpa using c2)
      by_cases hf : f = 0
      · subst hf
        cases hb : w.b with
        | true =>
          refine ⟨w', f', ?_, Ev.succ ?_, r3, r4⟩
          · simp [evalS, hop, isLazy, nthS, q1, chooseS, hb, r1]
          · simp only [s_f24, Ex.op, Ex.a, hop]
            exact Ev.f rfl (Ev.f rfl (Ev.bindc rfl (Ev.bind q2 (Ev.f rfl (Ev.f rfl (Ev.f rfl (Ev.t rfl (Ev.t hb (Ev.bindc rfl (Ev.bind r2 (Ev.mk _)))))))))))
        | false =>
          refine ⟨w2, f2, ?_, Ev.succ ?_, fun q => c2 ▸ p3 q, p4⟩
          · simp [evalS, hop, isLazy, nthS, q1, chooseS, hb, p1]
          · simp only [s_f24, Ex.op, Ex.a, hop]
            exact Ev.f rfl (Ev.f rfl (Ev.bindc rfl (Ev.bind q2 (Ev.f rfl (Ev.f rfl (Ev.f rfl (Ev.t rfl (Ev.f hb (Ev.bindc rfl (Ev.bind p2 (Ev.mk _)))))))))))
      · have q4 := q4 hf
        subst q4
        refine ⟨zeroV, f, ?_, Ev.succ ?_, fun q => absurd q hf, fun _ => rfl⟩
        · simp [evalS, hop, isLazy, nthS, q1, hf]
        · simp only [s_f24, Ex.op, Ex.a, hop]
          exact Ev.f rfl (Ev.f rfl (Ev.bindc rfl (Ev.bind q2 (Ev.t (by simpa using hf) (Ev.mk _)))))
    · omega

theorem eager {op : ByteArray} {v : Val} {m : Int} {a : List Ex} {x : Val} {ts : List Ty} {t : Ty} (h1 : op.data.toList ≠ [108, 105, 116]) (h2 : op.data.toList ≠ [120]) (h3 : op.data.toList ≠ [97, 110, 100]) (h4 : op.data.toList ≠ [111, 114]) (h5 : op.data.toList ≠ [105, 102]) (har : arS op.data.toList ≠ -2)
    (hr : Ress a x ts) (ha : a.length ≤ 12)
    (hlen : (((decide (arS op.data.toList ≥ 0)) && ((a.length : Int) != arS op.data.toList)) || ((decide (arS op.data.toList < 0)) && ((decide ((a.length : Int) < 1)) || (decide ((a.length : Int) > 8))))) = false) (ht : opTy op.data.toList m ts = (t, 0)) : Res (.mk op v m a) x t := by
  have hz : isLazy op = false := by
    simp only [isLazy, beq_false_of_ne h3, beq_false_of_ne h4, beq_false_of_ne h5, Bool.or_self]
  have hl2 := hr.len
  have hne : a ≠ [] := by
    rintro rfl
    rcases arS_cases har with q | q | q | q | q | q | q | q | q | q | q | q | q | q | q | q | q | q
    all_goals first
      | (exact absurd q h1) | (exact absurd q h2)
      | (rw [q] at hlen; exact absurd hlen (by decide))
  cases a with
  | nil => exact absurd rfl hne
  | cons e0 r =>
    cases ts with
    | nil => simp at hl2
    | cons t0 rt =>
      obtain ⟨⟨w, f, q1, q2, q3, q4⟩, hr'⟩ := hr
      obtain ⟨ws, g, k1, k2, k3⟩ := loopR op v m (e0 :: r) x (by omega) r rt [w] 1 rfl rfl hr'
      have c1 := beq_false_of_ne h1
      have c2 := beq_false_of_ne h2
      have c3 := beq_false_of_ne h3
      have c4 := beq_false_of_ne h4
      have c5 := beq_false_of_ne h5
      by_cases hf : f = 0
      · subst hf
        by_cases hg : g = 0
        · subst hg
          obtain ⟨w2, f2, m1, m2, m3, m4⟩ := made (op := op) (m := m) (ws := w :: ws) (ts := t0 :: rt) ⟨q3 rfl, k2 rfl⟩ har (by rw [← hl2]; exact hlen) h1 h2 h3 h4 h5 ht
          refine ⟨w2, f2, ?_, Ev.succ ?_, m3, m4⟩
          · simp only [evalS, if_neg h1, if_neg h2, hz, Bool.false_eq_true, if_false]
            rw [if_pos (by omega)]
            simp only [allS, q1, if_true, k1]
            exact m1
          · simp only [s_f24, Ex.op, Ex.a]
            exact Ev.f c1 (Ev.f c2 (Ev.bindc rfl (Ev.bind q2 (Ev.f rfl (Ev.f c3 (Ev.f c4 (Ev.f c5 (by simpa using k3 (w2, f2) (fun _ => m2)))))))))
        · refine ⟨zeroV, g, ?_, Ev.succ ?_, fun q => absurd q hg, fun _ => rfl⟩
          · simp only [evalS, if_neg h1, if_neg h2, hz, Bool.false_eq_true, if_false]
            rw [if_pos (by omega)]
            simp only [allS, q1, if_true, k1, if_neg hg]
          · simp only [s_f24, Ex.op, Ex.a]
            exact Ev.f c1 (Ev.f c2 (Ev.bindc rfl (Ev.bind q2 (Ev.f rfl (Ev.f c3 (Ev.f c4 (Ev.f c5 (by simpa [hg] using k3 (zeroV, 0) (fun q => absurd q hg)))))))))
      · refine ⟨zeroV, f, ?_, Ev.succ ?_, fun q => absurd q hf, fun _ => rfl⟩
        · simp only [evalS, if_neg h1, if_neg h2, hz, Bool.false_eq_true, if_false]
          rw [if_pos (by omega)]
          simp only [allS, q1, if_neg hf]
        · simp only [s_f24, Ex.op, Ex.a]
          exact Ev.f c1 (Ev.f c2 (Ev.bindc rfl (Ev.bind q2 (Ev.t (by simpa using hf) (Ev.mk _)))))

mutual
theorem sound : ∀ (e : Ex) (ty : Ty) (d : Int) (t : Ty) (x : Val), BdE e → OKv x ty → ckE e ty d = (t, 0) → Res e x t
  | .mk o v m a, ty, d, t, x, hb, hx, h => by
    simp only [ckE] at h
    obtain ⟨c1, h⟩ := bif_zt h (by omega)
    obtain ⟨c2, h⟩ := bif_zt h (by omega)
    obtain ⟨c3, h⟩ := bif_zt h (by omega)
    obtain ⟨c4, h⟩ := bif_zt h (by omega)
    have har : arS o.data.toList ≠ -2 := by simpa using c1
    by_cases h1 : o.data.toList = [108, 105, 116]
    · rw [show (o.data.toList == [108, 105, 116]) = true by simpa using h1] at h
      simp only [cond_true] at h
      by_cases hv : ckV v 0 = 0
      · rw [hv] at h
        simp at h
        subst h
        obtain ⟨q1, q2⟩ := (ckV_lf v 0).1 hv
        refine ⟨v, 0, by simp [evalS, h1], Ev.succ ?_, fun _ => ⟨q1, rfl, q2⟩, fun q => absurd rfl q⟩
        simp only [s_f24, Ex.op, Ex.v]
        exact Ev.t (by simpa using h1) (Ev.mk _)
      · rw [show (ckV v 0 != 0) = true by simpa using hv] at h
        simp only [cond_true, Prod.mk.injEq] at h
        exact absurd h.2 hv
    · rw [show (o.data.toList == [108, 105, 116]) = false from beq_false_of_ne h1] at h
      simp only [cond_false] at h
      by_cases h2 : o.data.toList = [120]
      · rw [show (o.data.toList == [120]) = true by simpa using h2] at h
        simp only [cond_true, Prod.mk.injEq, and_true] at h
        subst h
        refine ⟨x, 0, by simp [evalS, h2], Ev.succ ?_, fun _ => hx, fun q => absurd rfl q⟩
        simp only [s_f24, Ex.op]
        exact Ev.f (beq_false_of_ne h1) (Ev.t (by simpa using h2) (Ev.mk _))
      · rw [show (o.data.toList == [120]) = false from beq_false_of_ne h2] at h
        simp only [cond_false] at h
        by_cases hp : (ckEs a ty (d + 1)).2 = 0
        · rw [hp] at h
          simp only [bne_self_eq_false, cond_false] at h
          have hr := sounds a ty (d + 1) x hb.2.2 hx hp
          by_cases hop : o.data.toList = [97, 110, 100] ∨ o.data.toList = [111, 114] ∨ o.data.toList = [105, 102]
          · exact lazy hop hr c3 h
          · simp only [not_or] at hop
            exact eager h1 h2 hop.1 hop.2.1 hop.2.2 har hr hb.1 c3 h
        · rw [show ((ckEs a ty (d + 1)).2 != 0) = true by simpa using hp] at h
          simp only [cond_true, Prod.mk.injEq] at h
          exact absurd h.2 hp
theorem sounds : ∀ (l : List Ex) (ty : Ty) (d : Int) (x : Val), BdEs l → OKv x ty → (ckEs l ty d).2 = 0 → Ress l x (ckEs l ty d).1
  | [], ty, d, x, hb, hx, h => trivial
  | e :: r, ty, d, x, hb, hx, h => by
    simp only [ckEs] at h ⊢
    by_cases h1 : (ckE e ty d).2 = 0
    · rw [h1] at h ⊢
      simp only [bne_self_eq_false, cond_false] at h ⊢
      by_cases h2 : (ckEs r ty d).2 = 0
      · rw [h2]
        simp only [bne_self_eq_false, cond_false]
        exact ⟨sound e ty d _ x hb.1 hx (by rw [← h1]), sounds r ty d x hb.2 hx h2⟩
      · rw [show ((ckEs r ty d).2 != 0) = true by simpa using h2] at h
        exact absurd h h2
    · rw [show ((ckE e ty d).2 != 0) = true by simpa using h1] at h
      exact absurd h h1
end

theorem s3 (e : Ex) (x : Val) : Ev (fun n => s_f3 n e x) true := by
  unfold s_f3
  refine Ev.f rfl ?_
  rcases e17 e with ⟨hbe, hf⟩ | hf
  · refine Ev.bind hf (Ev.f rfl ?_)
    rcases e18 x with ⟨hbx, hcx, hg⟩ | hg
    · refine Ev.bind hg (Ev.f rfl (Ev.bind (e19 e hbe) (Ev.bind (e22 x hbx) (Ev.bind (e21 x hbx) (Ev.bind (e20 e (tyV x) hbe) ?_)))))
      cases hq : (ckX e (tyV x)).2 != 0 with
      | true => exact Ev.t rfl (Ev.mk _)
      | false =>
        refine Ev.f rfl ?_
        have hq := bne_f hq
        obtain ⟨l1, l2⟩ := (ckV_lf x 0).1 hcx
        have hx : OKv x (tyV x) := ⟨l1, rfl, l2⟩
        have hE : ckE e (tyV x) 0 = ((ckX e (tyV x)).1, 0) := by
          have h0 : ckX e (tyV x) = ((ckX e (tyV x)).1, 0) := by rw [← hq]
          generalize (ckX e (tyV x)).1 = t at h0 ⊢
          unfold ckX at h0
          obtain ⟨_, h0⟩ := bif_zt h0 (by omega)
          obtain ⟨_, h0⟩ := bif_zt h0 (by omega)
          exact h0
        obtain ⟨w, f, q1, q2, q3, q4⟩ := sound e (tyV x) 0 _ x hbe hx hE
        have hbw : BdV w := by
          by_cases hf0 : f = 0
          · exact (q3 hf0).bd
          · rw [q4 hf0]; exact ⟨Nat.zero_le _, trivial⟩
        refine Ev.bindc q1 (Ev.bind (e22 x hbx) (Ev.bind q2 (Ev.t (by simp) (Ev.bind (e22 w hbw) (Ev.bind (e25 w w hbw) (Ev.t (by simp [cmpV_self]) ?_))))))
        cases hf0 : f != 0 with
        | true => exact Ev.t rfl (Ev.mk _)
        | false =>
          have hok := q3 (bne_f hf0)
          refine Ev.f rfl (Ev.bind (e22 w hbw) ?_)
          have h26 := e26 w (ckX e (tyV x)).1 hbw
          have hc0 : ckV w 0 = 0 := (ckV_lf w 0).2 ⟨hok.1, by rw [hok.2.1]; exact hok.2.2⟩
          rw [hc0, (sameT_eq _ _).2 hok.2.1] at h26
          exact Ev.bind h26 (Ev.mk _)
    · exact Ev.bind hg (Ev.t rfl (Ev.mk _))
  · exact Ev.bind hf (Ev.t rfl (Ev.mk _))
end Go.Proofs.Ytbcjcekoonebiaa.Tl
