/- Programs one behind the other; what is known of machines. Conditions: none. -/
import Derived.Test.YtbcjcekoonebiaaTlCa
set_option linter.unusedVariables false
set_option linter.unusedSimpArgs false
namespace Go.Proofs.Ytbcjcekoonebiaa.Tl
open Go Go.RowKit

/-- A stage, of what is there: what it adds to what is let out, and to what misses. -/
def ChE (ps : List (List GInst)) (k : Nat) (x : Val) (o : List Val) (m : List GMiss) : Prop :=
  ∀ (out : List Val) (bad : List GMiss) (v : Nat), out.length + o.length ≤ 1000000 → bad.length + m.length ≤ 1000000 → ∃ v', Ev (fun n => s_f77 n (k : Int) x ps ⟨v, out⟩ bad) (ps, ⟨v', out ++ o⟩, bad ++ m)
theorem ch_end (ps : List (List GInst)) (x : Val) : ChE ps ps.length x [x] [] := fun out bad v h1 h2 => by
  simp only [List.length_cons, List.length_nil] at h1
  refine ⟨v + 1, Ev.succ ?_⟩
  simp only [s_f77]
  exact Ev.t (by simp) (Ev.g (by omega) (Ev.bindc (a := Val.mk 0 0 false ⟨#[]⟩ []) (by simp) ((Ev.mk _).congr (by simp))))
def ChL (ps : List (List GInst)) (k : Nat) : List Val → List Val → List GMiss → Prop
  | [], o, m => o = [] ∧ m = []
  | y :: l, o, m => ∃ o1 m1 o2 m2, o = o1 ++ o2 ∧ m = m1 ++ m2 ∧ ChE ps k y o1 m1 ∧ ChL ps k l o2 m2
theorem ch_l {ps : List (List GInst)} {k : Nat} (hk : k ≤ 1000000) {l : List Val} {e : Int} : ∀ (r : List Val) (i : Nat) (o : List Val) (m : List GMiss), l.drop i = r → ChL ps (k + 1) r o m → ∀ (out : List Val) (bad : List GMiss) (v : Nat), out.length + o.length ≤ 1000000 → bad.length + m.length ≤ 1000000 →
    ∃ v', Ev (fun n => s_f77_l1 n (k : Int) (l, e) i ps v out bad) (ps, ⟨v', out ++ o⟩, bad ++ m)
  | [], i, o, m, h, hc, out, bad, v, h1, h2 => by
    obtain ⟨rfl, rfl⟩ := hc
    refine ⟨v, Ev.succ ?_⟩
    simp only [s_f77_l1]
    exact Ev.f (cj_fm (List.drop_eq_nil_iff.1 h)) ((Ev.mk _).congr (by simp))
  | y :: r, i, o, m, h, hc, out, bad, v, h1, h2 => by
    obtain ⟨o1, m1, o2, m2, rfl, rfl, hy, hr⟩ := hc
    simp only [List.length_append] at h1 h2
    have hlt : i < l.length := by
      rcases Nat.lt_or_ge i l.length with h' | h'
      · exact h'
      · rw [List.drop_eq_nil_of_le h'] at h; cases h
    rw [List.drop_eq_getElem_cons hlt] at h
    injection h with h3 h4
    obtain ⟨v1, e1⟩ := hy out bad v (by omega) (by omega)
    obtain ⟨v2, e2⟩ := ch_l hk r (i + 1) o2 m2 h4 hr (out ++ o1) (bad ++ m1) v1 (by simp; omega) (by simp; omega)
    refine ⟨v2, Ev.succ ?_⟩
    simp only [s_f77_l1]
    refine Ev.t (decide_eq_true (by omega)) (Ev.bindc (a := y) (by rw [List.getElem?_eq_getElem hlt, h3]) (Ev.bind (a := (ps, ⟨v1, out ++ o1⟩, bad ++ m1)) ?_ (e2.congr (by simp))))
    rw [wrap64 (by omega) (by omega)]
    exact e1
where
  cj_fm {j m : Nat} (h : m ≤ j) : decide ((j : Int) < (m : Int)) = false := decide_eq_false (by omega)
theorem ch_run {ps : List (List GInst)} {k : Nat} {p : List GInst} (hk : ps[k]? = some p) (hps : ps.length ≤ 1000000) {x : Val} {l : List Val} {e : Int} (hr : Ev (fun n => s_f40 n p x) (l, e)) {o : List Val} {m : List GMiss} (hl : ChL ps (k + 1) l o m) :
    ChE ps k x o (bif e != 0 then ⟨(k : Int), x⟩ :: m else m) := fun out bad v h1 h2 => by
  have hlt : k < ps.length := (List.getElem?_eq_some_iff.1 hk).1
  cases he : e != 0 with
  | true =>
    rw [he] at h2
    simp only [cond_true, List.length_cons] at h2
    obtain ⟨v', e1⟩ := ch_l (l := l) (e := e) (by omega : k ≤ 1000000) l 0 o m rfl hl out (bad ++ [⟨(k : Int), x⟩]) v h1 (by simp; omega)
    refine ⟨v', Ev.succ ?_⟩
    simp only [s_f77]
    exact Ev.f (beq_false_of_ne (by omega)) (Ev.g (Int.natCast_nonneg k) (Ev.bindc (by rw [Int.toNat_natCast]; exact hk) (Ev.bind hr (Ev.t he (Ev.g (by omega) (e1.congr (by simp)))))))
  | false =>
    rw [he] at h2
    simp only [cond_false] at h2
    obtain ⟨v', e1⟩ := ch_l (l := l) (e := e) (by omega : k ≤ 1000000) l 0 o m rfl hl out bad v h1 h2
    refine ⟨v', Ev.succ ?_⟩
    simp only [s_f77]
    exact Ev.f (beq_false_of_ne (by omega)) (Ev.g (Int.natCast_nonneg k) (Ev.bindc (by rw [Int.toNat_natCast]; exact hk) (Ev.bind hr (Ev.f he e1))))
theorem e44 {ps : List (List GInst)} {x : Val} {o : List Val} {m : List GMiss} (h : ChE ps 0 x o m) (h1 : o.length ≤ 1000000) (h2 : m.length ≤ 1000000) : Ev (fun n => s_f44 n ps x) (o, m) := by
  obtain ⟨v, e⟩ := h [] [] 0 (by simpa using h1) (by simpa using h2)
  unfold s_f44
  exact Ev.bind e (Ev.mk _)
end Go.Proofs.Ytbcjcekoonebiaa.Tl
