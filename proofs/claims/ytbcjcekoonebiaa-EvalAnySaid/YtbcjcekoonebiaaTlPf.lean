/- The document's expressions come to what the program's do, of the type that is told. Conditions: none. -/
import Derived.Test.YtbcjcekoonebiaaTlPe
set_option linter.unusedVariables false
set_option linter.unusedSimpArgs false
namespace Go.Proofs.Ytbcjcekoonebiaa.Tl
open Go Go.RowKit

/-- A value of a type that may be. -/
def OKv (v : Val) (t : Ty) : Prop := lfV v ∧ tyV v = t ∧ ckT t 0 = 0
def OKvs : List Val → List Ty → Prop
  | [], [] => True
  | v :: vs, t :: ts => OKv v t ∧ OKvs vs ts
  | _, _ => False
theorem OKvs.len : ∀ {vs : List Val} {ts : List Ty}, OKvs vs ts → vs.length = ts.length
  | [], [], _ => rfl
  | [], _ :: _, h => by simp [OKvs] at h
  | _ :: _, [], h => by simp [OKvs] at h
  | v :: vs, t :: ts, h => by simp only [List.length_cons, OKvs.len h.2]
theorem OKvs.lf : ∀ {vs : List Val} {ts : List Ty}, OKvs vs ts → lfVs vs ∧ tyVs vs = ts
  | [], [], _ => ⟨trivial, rfl⟩
  | [], _ :: _, h => by simp [OKvs] at h
  | _ :: _, [], h => by simp [OKvs] at h
  | v :: vs, t :: ts, h => ⟨⟨h.1.1, (OKvs.lf h.2).1⟩, by simp only [tyVs, h.1.2.1, (OKvs.lf h.2).2]⟩
theorem OKv.bd {v : Val} {t : Ty} (h : OKv v t) : BdV v := lf_bd v 0 h.1 (by rw [h.2.1]; exact h.2.2)
theorem OKv.text {v : Val} {t : Ty} (h : OKv v t) : v.s.size ≤ 255 := by
  cases v; exact h.1.2.2.1
theorem ok_int (i : Int) : OKv (.mk 1 i false ⟨#[]⟩ []) (.mk 1 []) := ⟨⟨rfl, rfl, Nat.zero_le _, trivial⟩, rfl, rfl⟩
theorem ok_bool (b : Bool) : OKv (.mk 2 0 b ⟨#[]⟩ []) (.mk 2 []) := ⟨⟨rfl, rfl, Nat.zero_le _, trivial⟩, rfl, rfl⟩
theorem ok_text (s : ByteArray) (h : s.size ≤ 255) : OKv (.mk 3 0 false s []) (.mk 3 []) := ⟨by simp [lfV, lfVs, h], rfl, rfl⟩
theorem ok_plain {v : Val} {t : Ty} (h : OKv v t) (hk : t.kind ≠ 4) : t = .mk t.kind [] := by
  obtain ⟨h1, rfl, h2⟩ := h
  cases v with
  | mk k i b s l =>
    have hk : k ≠ 4 := hk
    have h3 := (or_f h1.2.1).2
    rw [show (k != 4) = true by simpa using hk, Bool.true_and] at h3
    have h6 : l = [] := nil_of h3
    subst h6
    rfl
theorem lfVs_get : ∀ {l : List Val} {j : Nat} {v : Val}, lfVs l → l[j]? = some v → lfV v
  | [], j, v, h, hj => by simp at hj
  | x :: r, j, v, h, hj => by
    cases j with
    | zero => simp at hj; subst hj; exact h.1
    | succ j => exact lfVs_get h.2 (by simpa using hj)
theorem tyVs_get : ∀ {l : List Val} {j : Nat}, (tyVs l)[j]? = (l[j]?).map tyV
  | [], j => by simp [tyVs]
  | x :: r, j => by
    cases j with
    | zero => simp [tyVs]
    | succ j => simp [tyVs, tyVs_get (l := r)]
/-- A tuple's part. -/
theorem ok_part {v : Val} {t : Ty} (h : OKv v t) (hk : t.kind = 4) {j : Nat} (hj : j < t.of.length) : ∃ w, v.t[j]? = some w ∧ OKv w (th t.of j) := by
  obtain ⟨h1, rfl, h2⟩ := h
  cases v with
  | mk k i b s l =>
    have hk : k = 4 := hk
    obtain ⟨_, _, _, h4⟩ := ckT_tup hk h2
    have hj : j < (tyVs l).length := hj
    have hg : (tyVs l)[j]? = some (th (tyVs l) j) := th_get hj
    have hg2 := hg
    rw [tyVs_get] at hg2
    simp only [Option.map_eq_some_iff] at hg2
    obtain ⟨w, hw, he⟩ := hg2
    exact ⟨w, hw, lfVs_get h1.2.2.2 hw, he, ckT_down _ 0 (ckTs_get h4 hg)⟩

/-- What is made of values. -/
theorem arS_cases {o : List UInt8} (h : arS o ≠ -2) : o = [108, 105, 116] ∨ o = [120] ∨ o = [97, 116] ∨ o = [110, 101, 103] ∨ o = [110, 111, 116] ∨ o = [108, 101, 110] ∨ o = [97, 100, 100] ∨ o = [115, 117, 98] ∨ o = [109, 117, 108] ∨ o = [100, 105, 118] ∨ o = [114, 101, 109] ∨ o = [101, 113] ∨ o = [108, 116] ∨ o = [97, 110, 100] ∨ o = [111, 114] ∨ o = [99, 97, 116] ∨ o = [105, 102] ∨ o = [116, 117, 112] := by
  apply Classical.byContradiction
  intro hn
  simp only [not_or] at hn
  apply h
  obtain ⟨h1, h2, h3, h4, h5, h6, h7, h8, h9, h10, h11, h12, h13, h14, h15, h16, h17, h18⟩ := hn
  simp only [arS, beq_false_of_ne h1, beq_false_of_ne h2, beq_false_of_ne h3, beq_false_of_ne h4, beq_false_of_ne h5, beq_false_of_ne h6, beq_false_of_ne h7, beq_false_of_ne h8, beq_false_of_ne h9, beq_false_of_ne h10, beq_false_of_ne h11, beq_false_of_ne h12, beq_false_of_ne h13, beq_false_of_ne h14, beq_false_of_ne h15, beq_false_of_ne h16, beq_false_of_ne h17, beq_false_of_ne h18, cond_false]

theorem two_of {ws : List Val} {ts : List Ty} (h : OKvs ws ts) (hl : ts.length = 2) : ∃ a b s t, ws = [a, b] ∧ ts = [s, t] ∧ OKv a s ∧ OKv b t := by
  rcases ts with _ | ⟨s, _ | ⟨t, _ | ⟨u, ts⟩⟩⟩ <;> simp at hl
  rcases ws with _ | ⟨a, _ | ⟨b, _ | ⟨c, ws⟩⟩⟩ <;> simp [OKvs] at h
  exact ⟨a, b, s, t, rfl, rfl, h.1, h.2⟩
theorem one_of {ws : List Val} {ts : List Ty} (h : OKvs ws ts) (hl : ts.length = 1) : ∃ a s, ws = [a] ∧ ts = [s] ∧ OKv a s := by
  rcases ts with _ | ⟨s, _ | ⟨u, ts⟩⟩ <;> simp at hl
  rcases ws with _ | ⟨a, _ | ⟨c, ws⟩⟩ <;> simp [OKvs] at h
  exact ⟨a, s, rfl, rfl, h⟩
theorem allK2 {k : Int} {s t r u : Ty} (h : allK k [s, t] r = (u, 0)) : s.kind = k ∧ t.kind = k ∧ u = r := by
  simp only [allK] at h
  cases h1 : s.kind != k with
  | true => rw [h1] at h; simp at h
  | false =>
    cases h2 : t.kind != k with
    | true => rw [h1, h2] at h; simp at h
    | false => rw [h1, h2] at h; simp at h; exact ⟨bne_f h1, bne_f h2, h.symm⟩
theorem allK1 {k : Int} {s r u : Ty} (h : allK k [s] r = (u, 0)) : s.kind = k ∧ u = r := by
  simp only [allK] at h
  cases h1 : s.kind != k with
  | true => rw [h1] at h; simp at h
  | false => rw [h1] at h; simp at h; exact ⟨bne_f h1, h.symm⟩

/-- The two ways come to the same, of a type. -/
def Made (op : ByteArray) (m : Int) (ws : List Val) (t : Ty) : Prop :=
  ∃ w h, applyS op m ws = some (w, h) ∧ Ev (fun n => s_f63 n op m ws) (w, h) ∧ (h = 0 → OKv w t) ∧ (h ≠ 0 → w = zeroV)

theorem made {op : ByteArray} {m : Int} {ws : List Val} {ts : List Ty} {t : Ty} (hw : OKvs ws ts) (har : arS op.data.toList ≠ -2)
    (hlen : (((decide (arS op.data.toList ≥ 0)) && ((ts.length : Int) != arS op.data.toList)) || ((decide (arS op.data.toList < 0)) && ((decide ((ts.length : Int) < 1)) || (decide ((ts.length : Int) > 8))))) = false)
    (h1 : op.data.toList ≠ [108, 105, 116]) (h2 : op.data.toList ≠ [120]) (h3 : op.data.toList ≠ [97, 110, 100]) (h4 : op.data.toList ≠ [111, 114]) (h5 : op.data.toList ≠ [105, 102]) (ht : opTy op.data.toList m ts = (t, 0)) : Made op m ws t := by
  have hl : ∀ c : Int, 0 ≤ c → arS op.data.toList = c → (ts.length : Int) = c := by
    intro c hc e
    rw [e] at hlen
    simp only [decide_eq_true (show c ≥ 0 from hc), decide_eq_false (show ¬ c < 0 by omega), Bool.true_and, Bool.false_and, Bool.or_false] at hlen
    exact bne_f hlen
  unfold Made applyS s_f63
  generalize hop : op.data.toList = o at *
  rcases arS_cases har with rfl | rfl | rfl | rfl | rfl | rfl | rfl | rfl | rfl | rfl | rfl | rfl | rfl | rfl | rfl | rfl | rfl | rfl
  · exact absurd rfl h1
  · exact absurd rfl h2
  · -- at
    obtain ⟨a, s, rfl, rfl, ha⟩ := one_of hw (by have := hl 1 (by omega) rfl; omega)
    have ht : (bif s.kind != 4 then (zT, (5 : Int)) else bif decide (m < 0) then (zT, (1 : Int)) else bif decide (m ≥ (s.of.length : Int)) then (zT, (1 : Int)) else (th s.of m.toNat, (0 : Int))) = (t, 0) := ht
    cases c1 : s.kind != 4 with
    | true => rw [c1] at ht; simp at ht
    | false =>
      cases c2 : decide (m < 0) with
      | true => rw [c1, c2] at ht; simp at ht
      | false =>
        cases c3 : decide (m ≥ (s.of.length : Int)) with
        | true => rw [c1, c2, c3] at ht; simp at ht
        | false =>
          rw [c1, c2, c3] at ht
          simp only [cond_false, Prod.mk.injEq, and_true] at ht
          have c2 := of_decide_eq_false c2
          have c3 := of_decide_eq_false c3
          obtain ⟨w, q1, q2⟩ := ok_part ha (bne_f c1) (j := m.toNat) (by omega)
          refine ⟨w, 0, ?_, ?_, fun _ => ht ▸ q2, fun q => absurd rfl q⟩
          · simp only [if_true, if_pos (show 0 ≤ m by omega), q1]
          · exact Ev.t rfl (Ev.bindc rfl (Ev.g (by omega) (Ev.bindc q1 (Ev.mk _))))
  · -- neg
    obtain ⟨a, s, rfl, rfl, ha⟩ := one_of hw (by have := hl 1 (by omega) rfl; omega)
    obtain ⟨_, rfl⟩ := allK1 (show allK 1 [s] (.mk 1 []) = (t, 0) from ht)
    exact ⟨_, 0, by simp [oneS, hop], Ev.bindc rfl (Ev.mk _), fun _ => ok_int _, fun q => absurd rfl q⟩
  · -- not
    obtain ⟨a, s, rfl, rfl, ha⟩ := one_of hw (by have := hl 1 (by omega) rfl; omega)
    obtain ⟨_, rfl⟩ := allK1 (show allK 2 [s] (.mk 2 []) = (t, 0) from ht)
    exact ⟨_, 0, by simp [oneS, hop], Ev.bindc rfl (Ev.mk _), fun _ => ok_bool _, fun q => absurd rfl q⟩
  · -- len
    obtain ⟨a, s, rfl, rfl, ha⟩ := one_of hw (by have := hl 1 (by omega) rfl; omega)
    obtain ⟨_, rfl⟩ := allK1 (show allK 3 [s] (.mk 1 []) = (t, 0) from ht)
    exact ⟨_, 0, by simp [oneS, hop], Ev.bindc rfl (Ev.mk _), fun _ => ok_int _, fun q => absurd rfl q⟩
  · -- add
    obtain ⟨a, b, s, s', rfl, rfl, ha, hb⟩ := two_of hw (by have := hl 2 (by omega) rfl; omega)
    obtain ⟨_, _, rfl⟩ := allK2 (show allK 1 [s, s'] (.mk 1 []) = (t, 0) from ht)
    exact ⟨_, 0, by simp [bothS, hop], Ev.bindc rfl (Ev.bindc rfl (Ev.mk _)), fun _ => ok_int _, fun q => absurd rfl q⟩
  · -- sub
    obtain ⟨a, b, s, s', rfl, rfl, ha, hb⟩ := two_of hw (by have := hl 2 (by omega) rfl; omega)
    obtain ⟨_, _, rfl⟩ := allK2 (show allK 1 [s, s'] (.mk 1 []) = (t, 0) from ht)
    exact ⟨_, 0, by simp [bothS, hop], Ev.bindc rfl (Ev.bindc rfl (Ev.mk _)), fun _ => ok_int _, fun q => absurd rfl q⟩
  · -- mul
    obtain ⟨a, b, s, s', rfl, rfl, ha, hb⟩ := two_of hw (by have := hl 2 (by omega) rfl; omega)
    obtain ⟨_, _, rfl⟩ := allK2 (show allK 1 [s, s'] (.mk 1 []) = (t, 0) from ht)
    exact ⟨_, 0, by simp [bothS, hop], Ev.bindc rfl (Ev.bindc rfl (Ev.mk _)), fun _ => ok_int _, fun q => absurd rfl q⟩
  · -- div
    obtain ⟨a, b, s, s', rfl, rfl, ha, hb⟩ := two_of hw (by have := hl 2 (by omega) rfl; omega)
    obtain ⟨_, _, rfl⟩ := allK2 (show allK 1 [s, s'] (.mk 1 []) = (t, 0) from ht)
    by_cases h0 : b.i = 0
    · exact ⟨zeroV, 8, by simp [bothS, hop, h0], Ev.bindc rfl (Ev.t (by simp [h0]) (Ev.mk _)), (fun q => by cases q), fun _ => rfl⟩
    · refine ⟨.mk 1 (W64 (a.i.tdiv b.i)) false ⟨#[]⟩ [], 0, by simp [bothS, hop, h0], ?_, fun _ => ok_int _, fun q => absurd rfl q⟩
      refine Ev.bindc rfl (Ev.f (by simpa using h0) (Ev.bindc rfl ?_))
      by_cases h6 : b.i = -1
      · refine Ev.t (by simp [h6]) (Ev.t rfl (Ev.bindc rfl ((Ev.mk _).congr ?_)))
        rw [h6, show a.i.tdiv (-1) = 0 - a.i by rw [Int.tdiv_neg, Int.tdiv_one]; omega]
      · exact Ev.f (by simpa using h6) (Ev.t rfl (Ev.bindc rfl (Ev.bindc rfl (Ev.g h0 (Ev.mk _)))))
  · -- rem
    obtain ⟨a, b, s, s', rfl, rfl, ha, hb⟩ := two_of hw (by have := hl 2 (by omega) rfl; omega)
    obtain ⟨_, _, rfl⟩ := allK2 (show allK 1 [s, s'] (.mk 1 []) = (t, 0) from ht)
    by_cases h0 : b.i = 0
    · exact ⟨zeroV, 8, by simp [bothS, hop, h0], Ev.bindc rfl (Ev.t (by simp [h0]) (Ev.mk _)), (fun q => by cases q), fun _ => rfl⟩
    · refine ⟨.mk 1 (a.i.tmod b.i) false ⟨#[]⟩ [], 0, by simp [bothS, hop, h0], ?_, fun _ => ok_int _, fun q => absurd rfl q⟩
      refine Ev.bindc rfl (Ev.f (by simpa using h0) (Ev.bindc rfl ?_))
      by_cases h6 : b.i = -1
      · refine Ev.t (by simp [h6]) (Ev.f rfl ((Ev.mk _).congr ?_))
        rw [h6, show a.i.tmod (-1) = 0 by rw [Int.tmod_neg, Int.tmod_one]]
      · exact Ev.f (by simpa using h6) (Ev.f rfl (Ev.bindc rfl (Ev.bindc rfl (Ev.g h0 (Ev.mk _)))))
  · -- eq
    obtain ⟨a, b, s, s', rfl, rfl, ha, hb⟩ := two_of hw (by have := hl 2 (by omega) rfl; omega)
    have ht : (bif !(sameT s s') then (zT, 5) else ((.mk 2 [] : Ty), (0 : Int))) = (t, 0) := ht
    cases c1 : !(sameT s s') with
    | true => rw [c1] at ht; simp at ht
    | false =>
      rw [c1] at ht
      simp at ht
      exact ⟨_, 0, by simp [bothS, hop], Ev.bindc rfl (Ev.bindc rfl (Ev.bind (e25 a b ha.bd) (Ev.mk _))), fun _ => ht ▸ ok_bool _, fun q => absurd rfl q⟩
  · -- lt
    obtain ⟨a, b, s, s', rfl, rfl, ha, hb⟩ := two_of hw (by have := hl 2 (by omega) rfl; omega)
    have ht : (bif !(sameT s s') then (zT, 5) else ((.mk 2 [] : Ty), (0 : Int))) = (t, 0) := ht
    cases c1 : !(sameT s s') with
    | true => rw [c1] at ht; simp at ht
    | false =>
      rw [c1] at ht
      simp at ht
      exact ⟨_, 0, by simp [bothS, hop], Ev.bindc rfl (Ev.bindc rfl (Ev.bind (e64 a b ha.bd) (Ev.mk _))), fun _ => ht ▸ ok_bool _, fun q => absurd rfl q⟩
  · exact absurd rfl h3
  · exact absurd rfl h4
  · -- cat
    obtain ⟨a, b, s, s', rfl, rfl, ha, hb⟩ := two_of hw (by have := hl 2 (by omega) rfl; omega)
    obtain ⟨_, _, rfl⟩ := allK2 (show allK 3 [s, s'] (.mk 3 []) = (t, 0) from ht)
    have l1 := ha.text
    have l2 := hb.text
    by_cases h6 : 255 < a.s.size + b.s.size
    · refine ⟨zeroV, 4, by simp [bothS, hop, h6]; omega, Ev.bindc rfl (Ev.bindc rfl (Ev.g (by omega) (Ev.t ?_ (Ev.mk _)))), (fun q => by cases q), fun _ => rfl⟩
      rw [ByteArray.size_append]; exact decide_eq_true (by omega)
    · refine ⟨.mk 3 0 false (a.s ++ b.s) [], 0, by simp [bothS, hop, h6]; omega, Ev.bindc rfl (Ev.bindc rfl (Ev.g (by omega) (Ev.f ?_ (Ev.mk _)))), fun _ => ok_text _ (by rw [ByteArray.size_append]; omega), fun q => absurd rfl q⟩
      rw [ByteArray.size_append]; exact decide_eq_false (by omega)
  · exact absurd rfl h5
  · -- tup
    have ht : (bif ckT (.mk 4 ts) 0 != 0 then (zT, 9) else ((.mk 4 ts : Ty), (0 : Int))) = (t, 0) := ht
    cases c1 : ckT (.mk 4 ts) 0 != 0 with
    | true => rw [c1] at ht; simp at ht
    | false =>
      rw [c1] at ht
      simp at ht
      subst ht
      have c1 := bne_f c1
      obtain ⟨q1, q2, _, _⟩ := ckT_tup rfl c1
      have ql := hw.len
      obtain ⟨q3, q4⟩ := hw.lf
      cases ws with
      | nil => have q5 : ts = [] := List.eq_nil_of_length_eq_zero (by simpa using ql.symm); exact absurd q5 q1
      | cons w ws =>
        refine ⟨.mk 4 0 false ⟨#[]⟩ (w :: ws), 0, ?_, Ev.f rfl (Ev.t rfl (Ev.g (by omega) (Ev.mk _))), fun _ => ⟨?_, by simp only [tyV, q4], c1⟩, fun q => absurd rfl q⟩
        · simp at ql
          simp
          omega
        · exact ⟨rfl, rfl, Nat.zero_le _, q3⟩
end Go.Proofs.Ytbcjcekoonebiaa.Tl
