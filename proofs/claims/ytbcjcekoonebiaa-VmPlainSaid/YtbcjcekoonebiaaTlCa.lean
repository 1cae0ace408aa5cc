/- A machine, as plain functions: what an instruction does, what a program lets out. Conditions: none. -/
import Derived.Test.YtbcjcekoonebiaaTlMf
import Derived.Test.YtbcjcekoonebiaaTlEv
set_option linter.unusedVariables false
set_option linter.unusedSimpArgs false
namespace Go.Proofs.Ytbcjcekoonebiaa.Tl
open Go Go.RowKit

/-- What does does: the stack, what is let out, the error. -/
def stepM (i : GInst) (x : Val) (st out : List Val) : Option (List Val × List Val × Int) :=
  bif i.f0.data.toList == [112, 117, 115, 104] then some (st ++ [i.f1], out, 0)
  else bif i.f0.data.toList == [120] then some (st ++ [x], out, 0)
  else bif i.f0.data.toList == [97, 116] then (if 1 ≤ st.length then ((st.drop (st.length - 1))[0]?).bind fun y => (if 0 ≤ i.f2 then (y.t[i.f2.toNat]?).bind fun z => some (st.take (st.length - 1) ++ [z], out, 0) else none) else none)
  else bif i.f0.data.toList == [116, 117, 112] then (if 0 ≤ i.f2 ∧ i.f2.toNat ≤ st.length then (tupS (st.drop (st.length - i.f2.toNat))).bind fun q => some (st.take (st.length - i.f2.toNat) ++ [q], out, 0) else none)
  else bif i.f0.data.toList == [101, 109, 105, 116] then (if 0 ≤ i.f2 ∧ i.f2.toNat ≤ st.length then some (st.take (st.length - i.f2.toNat), out ++ st.drop (st.length - i.f2.toNat), 0) else none)
  else bif i.f0.data.toList == [110, 101, 103] then (if 1 ≤ st.length then ((st.drop (st.length - 1))[0]?).bind fun y => (one3 i.f0 y).bind fun q => some (st.take (st.length - 1) ++ [q.1], out, 0) else none)
  else bif i.f0.data.toList == [110, 111, 116] then (if 1 ≤ st.length then ((st.drop (st.length - 1))[0]?).bind fun y => (one3 i.f0 y).bind fun q => some (st.take (st.length - 1) ++ [q.1], out, 0) else none)
  else bif i.f0.data.toList == [108, 101, 110] then (if 1 ≤ st.length then ((st.drop (st.length - 1))[0]?).bind fun y => (one3 i.f0 y).bind fun q => some (st.take (st.length - 1) ++ [q.1], out, 0) else none)
  else (if 2 ≤ st.length then ((st.drop (st.length - 2))[0]?).bind fun y => ((st.drop (st.length - 2))[1]?).bind fun z => (both3 i.f0 y z).bind fun q => bif q.2.1 != 0 then some (st.take (st.length - 2), out, q.2.1) else some (st.take (st.length - 2) ++ [q.1], out, 0) else none)
theorem e73a {i : GInst} {x : Val} {st out st' out' : List Val} {e : Int} (h : stepM i x st out = some (st', out', e)) (h1 : st.length + 1 ≤ 1000000) (h2 : out.length + st.length ≤ 1000000) (v : Nat) : ∃ v', Ev (fun n => s_f73 n ⟨x, ⟨v, st⟩, out⟩ i) (⟨x, ⟨v', st'⟩, out'⟩, e) := by
  have h1' : st.length ≤ 1000000 := by omega
  unfold stepM at h
  unfold s_f73
  simp only [show (1 : Int).toNat = 1 from rfl, show (2 : Int).toNat = 2 from rfl]
  cases c0 : i.f0.data.toList == [112, 117, 115, 104] with
  | true =>
    rw [c0] at h
    simp only [cond_true] at h ⊢
    simp only [Option.some.injEq, Prod.mk.injEq] at h
    obtain ⟨rfl, rfl, rfl⟩ := h
    exact ⟨v + 1, Ev.g h1 (Ev.mk _)⟩
  | false =>
    rw [c0] at h
    simp only [cond_false] at h ⊢
    cases c1 : i.f0.data.toList == [120] with
    | true =>
      rw [c1] at h
      simp only [cond_true] at h ⊢
      simp only [Option.some.injEq, Prod.mk.injEq] at h
      obtain ⟨rfl, rfl, rfl⟩ := h
      exact ⟨v + 1, Ev.g h1 (Ev.mk _)⟩
    | false =>
      rw [c1] at h
      simp only [cond_false] at h ⊢
      cases c2 : i.f0.data.toList == [97, 116] with
      | true =>
        rw [c2] at h
        simp only [cond_true] at h ⊢
        obtain ⟨g1, h⟩ := grd h
        obtain ⟨y, hy, h⟩ := bnd1 h
        obtain ⟨g2, h⟩ := grd h
        obtain ⟨z, hz, h⟩ := bnd1 h
        simp only [Option.some.injEq, Prod.mk.injEq] at h
        obtain ⟨rfl, rfl, rfl⟩ := h
        exact ⟨v + 1 + 1, Ev.g ⟨by decide, g1, h1'⟩ (Ev.bindc hy (Ev.g g2 (Ev.bindc hz (Ev.g (by rw [List.length_take]; omega) (Ev.mk _)))))⟩
      | false =>
        rw [c2] at h
        simp only [cond_false] at h ⊢
        cases c3 : i.f0.data.toList == [116, 117, 112] with
        | true =>
          rw [c3] at h
          simp only [cond_true] at h ⊢
          obtain ⟨g1, h⟩ := grd h
          obtain ⟨q, hq, h⟩ := bnd1 h
          simp only [Option.some.injEq, Prod.mk.injEq] at h
          obtain ⟨rfl, rfl, rfl⟩ := h
          exact ⟨v + 1 + 1, Ev.g ⟨g1.1, g1.2, h1'⟩ (Ev.bindc hq (Ev.g (by rw [List.length_take]; omega) (Ev.mk _)))⟩
        | false =>
          rw [c3] at h
          simp only [cond_false] at h ⊢
          cases c4 : i.f0.data.toList == [101, 109, 105, 116] with
          | true =>
            rw [c4] at h
            simp only [cond_true] at h ⊢
            obtain ⟨g1, h⟩ := grd h
            simp only [Option.some.injEq, Prod.mk.injEq] at h
            obtain ⟨rfl, rfl, rfl⟩ := h
            exact ⟨v + 1, Ev.g ⟨g1.1, g1.2, h1'⟩ (Ev.g (by rw [List.length_drop]; omega) (Ev.mk _))⟩
          | false =>
            rw [c4] at h
            simp only [cond_false] at h ⊢
            cases c5 : i.f0.data.toList == [110, 101, 103] with
            | true =>
              rw [c5] at h
              simp only [cond_true] at h ⊢
              obtain ⟨g1, h⟩ := grd h
              obtain ⟨y, hy, h⟩ := bnd1 h
              obtain ⟨q, hq, h⟩ := bnd1 h
              simp only [Option.some.injEq, Prod.mk.injEq] at h
              obtain ⟨rfl, rfl, rfl⟩ := h
              exact ⟨v + 1 + 1, Ev.g ⟨by decide, g1, h1'⟩ (Ev.bindc hy (Ev.bindc hq (Ev.g (by rw [List.length_take]; omega) (Ev.mk _))))⟩
            | false =>
              rw [c5] at h
              simp only [cond_false] at h ⊢
              cases c6 : i.f0.data.toList == [110, 111, 116] with
              | true =>
                rw [c6] at h
                simp only [cond_true] at h ⊢
                obtain ⟨g1, h⟩ := grd h
                obtain ⟨y, hy, h⟩ := bnd1 h
                obtain ⟨q, hq, h⟩ := bnd1 h
                simp only [Option.some.injEq, Prod.mk.injEq] at h
                obtain ⟨rfl, rfl, rfl⟩ := h
                exact ⟨v + 1 + 1, Ev.g ⟨by decide, g1, h1'⟩ (Ev.bindc hy (Ev.bindc hq (Ev.g (by rw [List.length_take]; omega) (Ev.mk _))))⟩
              | false =>
                rw [c6] at h
                simp only [cond_false] at h ⊢
                cases c7 : i.f0.data.toList == [108, 101, 110] with
                | true =>
                  rw [c7] at h
                  simp only [cond_true] at h ⊢
                  obtain ⟨g1, h⟩ := grd h
                  obtain ⟨y, hy, h⟩ := bnd1 h
                  obtain ⟨q, hq, h⟩ := bnd1 h
                  simp only [Option.some.injEq, Prod.mk.injEq] at h
                  obtain ⟨rfl, rfl, rfl⟩ := h
                  exact ⟨v + 1 + 1, Ev.g ⟨by decide, g1, h1'⟩ (Ev.bindc hy (Ev.bindc hq (Ev.g (by rw [List.length_take]; omega) (Ev.mk _))))⟩
                | false =>
                  rw [c7] at h
                  simp only [cond_false] at h ⊢
                  obtain ⟨g1, h⟩ := grd h
                  obtain ⟨y, hy, h⟩ := bnd1 h
                  obtain ⟨z, hz, h⟩ := bnd1 h
                  obtain ⟨q, hq, h⟩ := bnd1 h
                  cases hc : q.2.1 != 0 with
                  | true =>
                    rw [hc] at h
                    simp only [cond_true, Option.some.injEq, Prod.mk.injEq] at h
                    obtain ⟨rfl, rfl, rfl⟩ := h
                    exact ⟨v + 1, Ev.g ⟨by decide, g1, h1'⟩ (Ev.bindc hy (Ev.bindc hz (Ev.bindc hq (Ev.t hc (Ev.mk _)))))⟩
                  | false =>
                    rw [hc] at h
                    simp only [cond_false, Option.some.injEq, Prod.mk.injEq] at h
                    obtain ⟨rfl, rfl, rfl⟩ := h
                    exact ⟨v + 1 + 1, Ev.g ⟨by decide, g1, h1'⟩ (Ev.bindc hy (Ev.bindc hz (Ev.bindc hq (Ev.f hc (Ev.g (by rw [List.length_take]; omega) (Ev.mk _))))))⟩

/-- A run, from a place on, with this stack. -/
abbrev RunF (p : List GInst) (x : Val) (j : Nat) (st out : List Val) (v : Nat) : Nat → Option (List Val × Int) := fun n => s_f40_l1 n p (j : Int) v st x.kind x.i x.b x.s x.t out
theorem val_eta (x : Val) : Val.mk x.kind x.i x.b x.s x.t = x := by cases x; rfl
theorem run_step {p : List GInst} {x : Val} {j : Nat} {i : GInst} (hi : p[j]? = some i) (c1 : (i.f0.data.toList == [114, 101, 116]) = false) (c2 : (i.f0.data.toList == [106, 109, 112]) = false) (c3 : (i.f0.data.toList == [106, 102]) = false) {st out st' out' : List Val} (h : stepM i x st out = some (st', out', 0))
    (h1 : st.length + 1 ≤ 1000000) (h2 : out.length + st.length ≤ 1000000) (hj : p.length ≤ 1000000) {R : List Val × Int} (k : ∀ v, Ev (RunF p x (j + 1) st' out' v) R) (v : Nat) : Ev (RunF p x j st out v) R := by
  have hlt : j < p.length := (List.getElem?_eq_some_iff.1 hi).1
  obtain ⟨v', e⟩ := e73a (x := x) h h1 h2 v
  refine Ev.succ ?_
  simp only [RunF, s_f40_l1]
  refine Ev.t (decide_eq_true (by omega)) (Ev.g (Int.natCast_nonneg j) (Ev.bindc (by rw [Int.toNat_natCast]; exact hi) (Ev.f c1 (Ev.f c2 (Ev.f c3 (Ev.bind (by rw [val_eta]; exact e) (Ev.f rfl ?_)))))))
  rw [wrap64 (by omega) (by omega)]
  exact k v'
theorem run_ret {p : List GInst} {x : Val} {j : Nat} {i : GInst} (hi : p[j]? = some i) (c1 : (i.f0.data.toList == [114, 101, 116]) = true) (st out : List Val) (v : Nat) : Ev (RunF p x j st out v) (out, 0) := by
  have hlt : j < p.length := (List.getElem?_eq_some_iff.1 hi).1
  refine Ev.succ ?_
  simp only [RunF, s_f40_l1]
  exact Ev.t (decide_eq_true (by omega)) (Ev.g (Int.natCast_nonneg j) (Ev.bindc (by rw [Int.toNat_natCast]; exact hi) (Ev.t c1 (Ev.mk _))))
theorem e40 {p : List GInst} {x : Val} {R : List Val × Int} (h : Ev (RunF p x 0 [] [] 0) R) : Ev (fun n => s_f40 n p x) R := by
  unfold s_f40
  exact h
theorem run_err {p : List GInst} {x : Val} {j : Nat} {i : GInst} (hi : p[j]? = some i) (c1 : (i.f0.data.toList == [114, 101, 116]) = false) (c2 : (i.f0.data.toList == [106, 109, 112]) = false) (c3 : (i.f0.data.toList == [106, 102]) = false) {st out st' out' : List Val} {e : Int} (h : stepM i x st out = some (st', out', e)) (he : e ≠ 0)
    (h1 : st.length + 1 ≤ 1000000) (h2 : out.length + st.length ≤ 1000000) (v : Nat) : Ev (RunF p x j st out v) ([], e) := by
  have hlt : j < p.length := (List.getElem?_eq_some_iff.1 hi).1
  obtain ⟨v', ev⟩ := e73a (x := x) h h1 h2 v
  refine Ev.succ ?_
  simp only [RunF, s_f40_l1]
  exact Ev.t (decide_eq_true (by omega)) (Ev.g (Int.natCast_nonneg j) (Ev.bindc (by rw [Int.toNat_natCast]; exact hi) (Ev.f c1 (Ev.f c2 (Ev.f c3 (Ev.bind (by rw [val_eta]; exact ev) (Ev.t (by simpa using he) (Ev.mk _))))))))
theorem run_jmp {p : List GInst} {x : Val} {j k : Nat} {i : GInst} (hi : p[j]? = some i) (c : (i.f0.data.toList == [106, 109, 112]) = true) (hk : i.f2 = (k : Int)) (hj : k ≤ 1000000) {st out : List Val} {R : List Val × Int} (h : ∀ v, Ev (RunF p x k st out v) R) (v : Nat) : Ev (RunF p x j st out v) R := by
  have hlt : j < p.length := (List.getElem?_eq_some_iff.1 hi).1
  have c' : i.f0.data.toList = [106, 109, 112] := by simpa using c
  refine Ev.succ ?_
  simp only [RunF, s_f40_l1]
  refine Ev.t (decide_eq_true (by omega)) (Ev.g (Int.natCast_nonneg j) (Ev.bindc (by rw [Int.toNat_natCast]; exact hi) (Ev.f (by rw [c']; rfl) (Ev.t c ?_))))
  rw [hk, wrap64 (a := (k : Int) - 1) (by omega) (by omega), wrap64 (by omega) (by omega), show (k : Int) - 1 + 1 = k by omega]
  exact h v
theorem run_jf {p : List GInst} {x : Val} {j k : Nat} {i : GInst} (hi : p[j]? = some i) (c : (i.f0.data.toList == [106, 102]) = true) (hk : i.f2 = (k : Int)) (hj : k ≤ 1000000) (hp : p.length ≤ 1000000) {st out : List Val} {y : Val} (hst : st.length + 1 ≤ 1000000) {R : List Val × Int}
    (h : ∀ v, Ev (RunF p x (bif y.b then j + 1 else k) st out v) R) (v : Nat) : Ev (RunF p x j (st ++ [y]) out v) R := by
  have hlt : j < p.length := (List.getElem?_eq_some_iff.1 hi).1
  have c' : i.f0.data.toList = [106, 102] := by simpa using c
  refine Ev.succ ?_
  simp only [RunF, s_f40_l1]
  have e1 : (st ++ [y]).length - (1 : Int).toNat = st.length := by simp
  have e2 : ((st ++ [y]).drop st.length)[0]? = some y := by simp
  have e3 : (st ++ [y]).take st.length = st := by simp
  rw [e1, e3]
  refine Ev.t (decide_eq_true (by omega)) (Ev.g (Int.natCast_nonneg j) (Ev.bindc (by rw [Int.toNat_natCast]; exact hi) (Ev.f (by rw [c']; rfl) (Ev.f (by rw [c']; rfl) (Ev.t c (Ev.g ⟨by decide, by simp, by simp; omega⟩ (Ev.bindc e2 ?_)))))))
  have h' := h (v + 1)
  cases hb : y.b with
  | true =>
    rw [hb] at h'
    refine Ev.f rfl ?_
    rw [wrap64 (by omega) (by omega)]
    exact h'
  | false =>
    rw [hb] at h'
    refine Ev.t rfl ?_
    rw [hk, wrap64 (a := (k : Int) - 1) (by omega) (by omega), wrap64 (by omega) (by omega), show (k : Int) - 1 + 1 = k by omega]
    exact h'
end Go.Proofs.Ytbcjcekoonebiaa.Tl
