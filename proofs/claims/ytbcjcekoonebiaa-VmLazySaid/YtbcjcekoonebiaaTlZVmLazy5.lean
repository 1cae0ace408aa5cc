/- A machine, as plain functions: what an instruction does, what a program lets out. Programs one behind the other; what is known of machines. What is known of machines. Values of the document, as plain functions: what may be, what is few, what is of a type. Values of the document compared, as plain functions. Types and expressions of the document, as plain functions. The document comes to the same: comparing, making, coming to values. The document's expressions come to what the program's do, of the type that is told. Definitions and walks: EvalAny. EvalAny, as a plain law. Programs of expressions, as plain functions; where they stand in others. Definitions and walks: EvalNums, EvalTexts. The plain laws EvalNums and EvalTexts. What a machine does with an expression's program is what the expression comes to. Definitions and walks: what is not looked at. Whole programs of expressions; what is not looked at is not run. A law's arguments, as trees. How the arguments of this seat's laws are opened. EvalLazy, whatever its arguments. Conditions: none. -/
import Derived.ChangeArms
import Derived.Carry
import Derived.KernelRfl
import Derived.Test.YtbcjcekoonebiaaTlZVmLazy4
set_option linter.unusedVariables false
set_option linter.unusedSimpArgs false
namespace Go.Proofs.Ytbcjcekoonebiaa.Tl
open Go Go.RowKit
/-- What does does: the stack, what is let out, the error. -/
def stepM (i : GInst) (x : Val) (st out : List Val) : Option (List Val × List Val × Int) :=
  bif i.f0.data.toList == [112, 117, 115, 104] then some (st ++ [i.f1], out, 0)
  else bif i.f0.data.toList == [120] then some (st ++ [x], out, 0)
  else bif i.f0.data.toList == [97, 116] then (if 1 ≤ st.length then ((st.drop (st.length - 1))[0]?).bind fun y => (if 0 ≤ i.f2 then (y.t[i.f2.toNat]?).bind fun z => some (st.take (st.length - 1) ++ [z], out, 0) else none) else none)
  else bif i.f0.data.toList == [116, 117, 112] then (if 0 ≤ i.f2 ∧ i.f2.toNat ≤ st.length then (tupS (st.drop (st.length - i.f2.toNat))).bind fun q => some (st.take (st.length - i.f2.toNat) ++ [q], out, 0) else none)
  else bif i.f0.data.toList == [101, 109, 105, 116] then (if 0 ≤ i.f2 ∧ i.f2.toNat ≤ st.length then some (st.take (st.length - i.f2.toNat), out ++ st.drop (st.length - i.f2.toNat), 0) else none)
  else bif i.f0.data.toList == [110, 101, 103] then (if 1 ≤ st.length then ((st.drop (st.length - 1))[0]?).bind fun y => (one3 i.f0 y).bind fun q => some (st.take (st.length - 1) ++ [q.1], out, 0) else none)
  else bif i.f0.data.toList == [110, 111, 116] then (if 1 ≤ st.length then ((st.drop (st.length - 1))[0]?).bind fun y => (one3 i.f0 y).bind fun q => some (st.take (st.length - 1) ++ [q.1], out, 0) else none)
  else bif i.f0.data.toList == [108, 101, 110] then (if 1 ≤ st.length then ((st.drop (st.length - 1))[0]?).bind fun y => (one3 i.f0 y).bind fun q => some (st.take (st.length - 1) ++ [q.1], out, 0) else none)
  else (if 2 ≤ st.length then ((st.drop (st.length - 2))[0]?).bind fun y => ((st.drop (st.length - 2))[1]?).bind fun z => (both3 i.f0 y z).bind fun q => bif q.2.1 != 0 then some (st.take (st.length - 2), out, q.2.1) else some (st.take (st.length - 2) ++ [q.1], out, 0) else none)
theorem e73a {i : GInst} {x : Val} {st out st' out' : List Val} {e : Int} (h : stepM i x st out = some (st', out', e)) (h1 : st.length + 1 ≤ 1000000) (h2 : out.length + st.length ≤ 1000000) (v : Nat) : ∃ v', Ev (fun n => s_f73 n ⟨x, ⟨v, st⟩, out⟩ i) (⟨x, ⟨v', st'⟩, out'⟩, e) := by
  have h1' : st.length ≤ 1000000 := by omega
  unfold stepM at h
  unfold s_f73
  simp only [show (1 : Int).toNat = 1 from rfl, show (2 : Int).toNat = 2 from rfl]
  cases c0 : i.f0.data.toList == [112, 117, 115, 104] with
  | true =>
    rw [c0] at h
    simp only [cond_true] at h ⊢
    simp only [Option.some.injEq, Prod.mk.injEq] at h
    obtain ⟨rfl, rfl, rfl⟩ := h
    exact ⟨v + 1, Ev.g h1 (Ev.mk _)⟩
  | false =>
    rw [c0] at h
    simp only [cond_false] at h ⊢
    cases c1 : i.f0.data.toList == [120] with
    | true =>
      rw [c1] at h
      simp only [cond_true] at h ⊢
      simp only [Option.some.injEq, Prod.mk.injEq] at h
      obtain ⟨rfl, rfl, rfl⟩ := h
      exact ⟨v + 1, Ev.g h1 (Ev.mk _)⟩
    | false =>
      rw [c1] at h
      simp only [cond_false] at h ⊢
      cases c2 : i.f0.data.toList == [97, 116] with
      | true =>
        rw [c2] at h
        simp only [cond_true] at h ⊢
        obtain ⟨g1, h⟩ := grd h
        obtain ⟨y, hy, h⟩ := bnd1 h
        obtain ⟨g2, h⟩ := grd h
        obtain ⟨z, hz, h⟩ := bnd1 h
        simp only [Option.some.injEq, Prod.mk.injEq] at h
        obtain ⟨rfl, rfl, rfl⟩ := h
        exact ⟨v + 1 + 1, Ev.g ⟨by decide, g1, h1'⟩ (Ev.bindc hy (Ev.g g2 (Ev.bindc hz (Ev.g (by rw [List.length_take]; omega) (Ev.mk _)))))⟩
      | false =>
        rw [c2] at h
        simp only [cond_false] at h ⊢
        cases c3 : i.f0.data.toList == [116, 117, 112] with
        | true =>
          rw [c3] at h
          simp only [cond_true] at h ⊢
          obtain ⟨g1, h⟩ := grd h
          obtain ⟨q, hq, h⟩ := bnd1 h
          simp only [Option.some.injEq, Prod.mk.injEq] at h
          obtain ⟨rfl, rfl, rfl⟩ := h
          exact ⟨v + 1 + 1, Ev.g ⟨g1.1, g1.2, h1'⟩ (Ev.bindc hq (Ev.g (by rw [List.length_take]; omega) (Ev.mk _)))⟩
        | false =>
          rw [c3] at h
          simp only [cond_false] at h ⊢
          cases c4 : i.f0.data.toList == [101, 109, 105, 116] with
          | true =>
            rw [c4] at h
            simp only [cond_true] at h ⊢
            obtain ⟨g1, h⟩ := grd h
            simp only [Option.some.injEq, Prod.mk.injEq] at h
            obtain ⟨rfl, rfl, rfl⟩ := h
            exact ⟨v + 1, Ev.g ⟨g1.1, g1.2, h1'⟩ (Ev.g (by rw [List.length_drop]; omega) (Ev.mk _))⟩
          | false =>
            rw [c4] at h
            simp only [cond_false] at h ⊢
            cases c5 : i.f0.data.toList == [110, 101, 103] with
            | true =>
              rw [c5] at h
              simp only [cond_true] at h ⊢
              obtain ⟨g1, h⟩ := grd h
              obtain ⟨y, hy, h⟩ := bnd1 h
              obtain ⟨q, hq, h⟩ := bnd1 h
              simp only [Option.some.injEq, Prod.mk.injEq] at h
              obtain ⟨rfl, rfl, rfl⟩ := h
              exact ⟨v + 1 + 1, Ev.g ⟨by decide, g1, h1'⟩ (Ev.bindc hy (Ev.bindc hq (Ev.g (by rw [List.length_take]; omega) (Ev.mk _))))⟩
            | false =>
              rw [c5] at h
              simp only [cond_false] at h ⊢
              cases c6 : i.f0.data.toList == [110, 111, 116] with
              | true =>
                rw [c6] at h
                simp only [cond_true] at h ⊢
                obtain ⟨g1, h⟩ := grd h
                obtain ⟨y, hy, h⟩ := bnd1 h
                obtain ⟨q, hq, h⟩ := bnd1 h
                simp only [Option.some.injEq, Prod.mk.injEq] at h
                obtain ⟨rfl, rfl, rfl⟩ := h
                exact ⟨v + 1 + 1, Ev.g ⟨by decide, g1, h1'⟩ (Ev.bindc hy (Ev.bindc hq (Ev.g (by rw [List.length_take]; omega) (Ev.mk _))))⟩
              | false =>
                rw [c6] at h
                simp only [cond_false] at h ⊢
                cases c7 : i.f0.data.toList == [108, 101, 110] with
                | true =>
                  rw [c7] at h
                  simp only [cond_true] at h ⊢
                  obtain ⟨g1, h⟩ := grd h
                  obtain ⟨y, hy, h⟩ := bnd1 h
                  obtain ⟨q, hq, h⟩ := bnd1 h
                  simp only [Option.some.injEq, Prod.mk.injEq] at h
                  obtain ⟨rfl, rfl, rfl⟩ := h
                  exact ⟨v + 1 + 1, Ev.g ⟨by decide, g1, h1'⟩ (Ev.bindc hy (Ev.bindc hq (Ev.g (by rw [List.length_take]; omega) (Ev.mk _))))⟩
                | false =>
                  rw [c7] at h
                  simp only [cond_false] at h ⊢
                  obtain ⟨g1, h⟩ := grd h
                  obtain ⟨y, hy, h⟩ := bnd1 h
                  obtain ⟨z, hz, h⟩ := bnd1 h
                  obtain ⟨q, hq, h⟩ := bnd1 h
                  cases hc : q.2.1 != 0 with
                  | true =>
                    rw [hc] at h
                    simp only [cond_true, Option.some.injEq, Prod.mk.injEq] at h
                    obtain ⟨rfl, rfl, rfl⟩ := h
                    exact ⟨v + 1, Ev.g ⟨by decide, g1, h1'⟩ (Ev.bindc hy (Ev.bindc hz (Ev.bindc hq (Ev.t hc (Ev.mk _)))))⟩
                  | false =>
                    rw [hc] at h
                    simp only [cond_false, Option.some.injEq, Prod.mk.injEq] at h
                    obtain ⟨rfl, rfl, rfl⟩ := h
                    exact ⟨v + 1 + 1, Ev.g ⟨by decide, g1, h1'⟩ (Ev.bindc hy (Ev.bindc hz (Ev.bindc hq (Ev.f hc (Ev.g (by rw [List.length_take]; omega) (Ev.mk _))))))⟩

/-- A run, from a place on, with this stack. -/
abbrev RunF (p : List GInst) (x : Val) (j : Nat) (st out : List Val) (v : Nat) : Nat → Option (List Val × Int) := fun n => s_f40_l1 n p (j : Int) v st x.kind x.i x.b x.s x.t out
theorem val_eta (x : Val) : Val.mk x.kind x.i x.b x.s x.t = x := by cases x; rfl
theorem run_step {p : List GInst} {x : Val} {j : Nat} {i : GInst} (hi : p[j]? = some i) (c1 : (i.f0.data.toList == [114, 101, 116]) = false) (c2 : (i.f0.data.toList == [106, 109, 112]) = false) (c3 : (i.f0.data.toList == [106, 102]) = false) {st out st' out' : List Val} (h : stepM i x st out = some (st', out', 0))
    (h1 : st.length + 1 ≤ 1000000) (h2 : out.length + st.length ≤ 1000000) (hj : p.length ≤ 1000000) {R : List Val × Int} (k : ∀ v, Ev (RunF p x (j + 1) st' out' v) R) (v : Nat) : Ev (RunF p x j st out v) R := by
  have hlt : j < p.length := (List.getElem?_eq_some_iff.1 hi).1
  obtain ⟨v', e⟩ := e73a (x := x) h h1 h2 v
  refine Ev.succ ?_
  simp only [RunF, s_f40_l1]
  refine Ev.t (decide_eq_true (by omega)) (Ev.g (Int.natCast_nonneg j) (Ev.bindc (by rw [Int.toNat_natCast]; exact hi) (Ev.f c1 (Ev.f c2 (Ev.f c3 (Ev.bind (by rw [val_eta]; exact e) (Ev.f rfl ?_)))))))
  rw [wrap64 (by omega) (by omega)]
  exact k v'
theorem run_ret {p : List GInst} {x : Val} {j : Nat} {i : GInst} (hi : p[j]? = some i) (c1 : (i.f0.data.toList == [114, 101, 116]) = true) (st out : List Val) (v : Nat) : Ev (RunF p x j st out v) (out, 0) := by
  have hlt : j < p.length := (List.getElem?_eq_some_iff.1 hi).1
  refine Ev.succ ?_
  simp only [RunF, s_f40_l1]
  exact Ev.t (decide_eq_true (by omega)) (Ev.g (Int.natCast_nonneg j) (Ev.bindc (by rw [Int.toNat_natCast]; exact hi) (Ev.t c1 (Ev.mk _))))
theorem e40 {p : List GInst} {x : Val} {R : List Val × Int} (h : Ev (RunF p x 0 [] [] 0) R) : Ev (fun n => s_f40 n p x) R := by
  unfold s_f40
  exact h
theorem run_err {p : List GInst} {x : Val} {j : Nat} {i : GInst} (hi : p[j]? = some i) (c1 : (i.f0.data.toList == [114, 101, 116]) = false) (c2 : (i.f0.data.toList == [106, 109, 112]) = false) (c3 : (i.f0.data.toList == [106, 102]) = false) {st out st' out' : List Val} {e : Int} (h : stepM i x st out = some (st', out', e)) (he : e ≠ 0)
    (h1 : st.length + 1 ≤ 1000000) (h2 : out.length + st.length ≤ 1000000) (v : Nat) : Ev (RunF p x j st out v) ([], e) := by
  have hlt : j < p.length := (List.getElem?_eq_some_iff.1 hi).1
  obtain ⟨v', ev⟩ := e73a (x := x) h h1 h2 v
  refine Ev.succ ?_
  simp only [RunF, s_f40_l1]
  exact Ev.t (decide_eq_true (by omega)) (Ev.g (Int.natCast_nonneg j) (Ev.bindc (by rw [Int.toNat_natCast]; exact hi) (Ev.f c1 (Ev.f c2 (Ev.f c3 (Ev.bind (by rw [val_eta]; exact ev) (Ev.t (by simpa using he) (Ev.mk _))))))))
theorem run_jmp {p : List GInst} {x : Val} {j k : Nat} {i : GInst} (hi : p[j]? = some i) (c : (i.f0.data.toList == [106, 109, 112]) = true) (hk : i.f2 = (k : Int)) (hj : k ≤ 1000000) {st out : List Val} {R : List Val × Int} (h : ∀ v, Ev (RunF p x k st out v) R) (v : Nat) : Ev (RunF p x j st out v) R := by
  have hlt : j < p.length := (List.getElem?_eq_some_iff.1 hi).1
  have c' : i.f0.data.toList = [106, 109, 112] := by simpa using c
  refine Ev.succ ?_
  simp only [RunF, s_f40_l1]
  refine Ev.t (decide_eq_true (by omega)) (Ev.g (Int.natCast_nonneg j) (Ev.bindc (by rw [Int.toNat_natCast]; exact hi) (Ev.f (by rw [c']; rfl) (Ev.t c ?_))))
  rw [hk, wrap64 (a := (k : Int) - 1) (by omega) (by omega), wrap64 (by omega) (by omega), show (k : Int) - 1 + 1 = k by omega]
  exact h v
theorem run_jf {p : List GInst} {x : Val} {j k : Nat} {i : GInst} (hi : p[j]? = some i) (c : (i.f0.data.toList == [106, 102]) = true) (hk : i.f2 = (k : Int)) (hj : k ≤ 1000000) (hp : p.length ≤ 1000000) {st out : List Val} {y : Val} (hst : st.length + 1 ≤ 1000000) {R : List Val × Int}
    (h : ∀ v, Ev (RunF p x (bif y.b then j + 1 else k) st out v) R) (v : Nat) : Ev (RunF p x j (st ++ [y]) out v) R := by
  have hlt : j < p.length := (List.getElem?_eq_some_iff.1 hi).1
  have c' : i.f0.data.toList = [106, 102] := by simpa using c
  refine Ev.succ ?_
  simp only [RunF, s_f40_l1]
  have e1 : (st ++ [y]).length - (1 : Int).toNat = st.length := by simp
  have e2 : ((st ++ [y]).drop st.length)[0]? = some y := by simp
  have e3 : (st ++ [y]).take st.length = st := by simp
  rw [e1, e3]
  refine Ev.t (decide_eq_true (by omega)) (Ev.g (Int.natCast_nonneg j) (Ev.bindc (by rw [Int.toNat_natCast]; exact hi) (Ev.f (by rw [c']; rfl) (Ev.f (by rw [c']; rfl) (Ev.t c (Ev.g ⟨by decide, by simp, by simp; omega⟩ (Ev.bindc e2 ?_)))))))
  have h' := h (v + 1)
  cases hb : y.b with
  | true =>
    rw [hb] at h'
    refine Ev.f rfl ?_
    rw [wrap64 (by omega) (by omega)]
    exact h'
  | false =>
    rw [hb] at h'
    refine Ev.t rfl ?_
    rw [hk, wrap64 (a := (k : Int) - 1) (by omega) (by omega), wrap64 (by omega) (by omega), show (k : Int) - 1 + 1 = k by omega]
    exact h'
end Go.Proofs.Ytbcjcekoonebiaa.Tl

set_option linter.unusedVariables false
set_option linter.unusedSimpArgs false
namespace Go.Proofs.Ytbcjcekoonebiaa.Tl
open Go Go.RowKit
/-- A stage, of what is there: what it adds to what is let out, and to what misses. -/
def ChE (ps : List (List GInst)) (k : Nat) (x : Val) (o : List Val) (m : List GMiss) : Prop :=
  ∀ (out : List Val) (bad : List GMiss) (v : Nat), out.length + o.length ≤ 1000000 → bad.length + m.length ≤ 1000000 → ∃ v', Ev (fun n => s_f77 n (k : Int) x ps ⟨v, out⟩ bad) (ps, ⟨v', out ++ o⟩, bad ++ m)
theorem ch_end (ps : List (List GInst)) (x : Val) : ChE ps ps.length x [x] [] := fun out bad v h1 h2 => by
  simp only [List.length_cons, List.length_nil] at h1
  refine ⟨v + 1, Ev.succ ?_⟩
  simp only [s_f77]
  exact Ev.t (by simp) (Ev.g (by omega) (Ev.bindc (a := Val.mk 0 0 false ⟨#[]⟩ []) (by simp) ((Ev.mk _).congr (by simp))))
def ChL (ps : List (List GInst)) (k : Nat) : List Val → List Val → List GMiss → Prop
  | [], o, m => o = [] ∧ m = []
  | y :: l, o, m => ∃ o1 m1 o2 m2, o = o1 ++ o2 ∧ m = m1 ++ m2 ∧ ChE ps k y o1 m1 ∧ ChL ps k l o2 m2
theorem ch_l {ps : List (List GInst)} {k : Nat} (hk : k ≤ 1000000) {l : List Val} {e : Int} : ∀ (r : List Val) (i : Nat) (o : List Val) (m : List GMiss), l.drop i = r → ChL ps (k + 1) r o m → ∀ (out : List Val) (bad : List GMiss) (v : Nat), out.length + o.length ≤ 1000000 → bad.length + m.length ≤ 1000000 →
    ∃ v', Ev (fun n => s_f77_l1 n (k : Int) (l, e) i ps v out bad) (ps, ⟨v', out ++ o⟩, bad ++ m)
  | [], i, o, m, h, hc, out, bad, v, h1, h2 => by
    obtain ⟨rfl, rfl⟩ := hc
    refine ⟨v, Ev.succ ?_⟩
    simp only [s_f77_l1]
    exact Ev.f (cj_fm (List.drop_eq_nil_iff.1 h)) ((Ev.mk _).congr (by simp))
  | y :: r, i, o, m, h, hc, out, bad, v, h1, h2 => by
    obtain ⟨o1, m1, o2, m2, rfl, rfl, hy, hr⟩ := hc
    simp only [List.length_append] at h1 h2
    have hlt : i < l.length := by
      rcases Nat.lt_or_ge i l.length with h' | h'
      · exact h'
      · rw [List.drop_eq_nil_of_le h'] at h; cases h
    rw [List.drop_eq_getElem_cons hlt] at h
    injection h with h3 h4
    obtain ⟨v1, e1⟩ := hy out bad v (by omega) (by omega)
    obtain ⟨v2, e2⟩ := ch_l hk r (i + 1) o2 m2 h4 hr (out ++ o1) (bad ++ m1) v1 (by simp; omega) (by simp; omega)
    refine ⟨v2, Ev.succ ?_⟩
    simp only [s_f77_l1]
    refine Ev.t (decide_eq_true (by omega)) (Ev.bindc (a := y) (by rw [List.getElem?_eq_getElem hlt, h3]) (Ev.bind (a := (ps, ⟨v1, out ++ o1⟩, bad ++ m1)) ?_ (e2.congr (by simp))))
    rw [wrap64 (by omega) (by omega)]
    exact e1
where
  cj_fm {j m : Nat} (h : m ≤ j) : decide ((j : Int) < (m : Int)) = false := decide_eq_false (by omega)
theorem ch_run {ps : List (List GInst)} {k : Nat} {p : List GInst} (hk : ps[k]? = some p) (hps : ps.length ≤ 1000000) {x : Val} {l : List Val} {e : Int} (hr : Ev (fun n => s_f40 n p x) (l, e)) {o : List Val} {m : List GMiss} (hl : ChL ps (k + 1) l o m) :
    ChE ps k x o (bif e != 0 then ⟨(k : Int), x⟩ :: m else m) := fun out bad v h1 h2 => by
  have hlt : k < ps.length := (List.getElem?_eq_some_iff.1 hk).1
  cases he : e != 0 with
  | true =>
    rw [he] at h2
    simp only [cond_true, List.length_cons] at h2
    obtain ⟨v', e1⟩ := ch_l (l := l) (e := e) (by omega : k ≤ 1000000) l 0 o m rfl hl out (bad ++ [⟨(k : Int), x⟩]) v h1 (by simp; omega)
    refine ⟨v', Ev.succ ?_⟩
    simp only [s_f77]
    exact Ev.f (beq_false_of_ne (by omega)) (Ev.g (Int.natCast_nonneg k) (Ev.bindc (by rw [Int.toNat_natCast]; exact hk) (Ev.bind hr (Ev.t he (Ev.g (by omega) (e1.congr (by simp)))))))
  | false =>
    rw [he] at h2
    simp only [cond_false] at h2
    obtain ⟨v', e1⟩ := ch_l (l := l) (e := e) (by omega : k ≤ 1000000) l 0 o m rfl hl out bad v h1 h2
    refine ⟨v', Ev.succ ?_⟩
    simp only [s_f77]
    exact Ev.f (beq_false_of_ne (by omega)) (Ev.g (Int.natCast_nonneg k) (Ev.bindc (by rw [Int.toNat_natCast]; exact hk) (Ev.bind hr (Ev.f he e1))))
theorem e44 {ps : List (List GInst)} {x : Val} {o : List Val} {m : List GMiss} (h : ChE ps 0 x o m) (h1 : o.length ≤ 1000000) (h2 : m.length ≤ 1000000) : Ev (fun n => s_f44 n ps x) (o, m) := by
  obtain ⟨v, e⟩ := h [] [] 0 (by simpa using h1) (by simpa using h2)
  unfold s_f44
  exact Ev.bind e (Ev.mk _)
end Go.Proofs.Ytbcjcekoonebiaa.Tl

set_option linter.unusedVariables false
set_option linter.unusedSimpArgs false
namespace Go.Proofs.Ytbcjcekoonebiaa.Tl
open Go Go.RowKit
abbrev v0' : Val := .mk 0 0 false ⟨#[]⟩ []
abbrev iV (i : Int) : Val := .mk 1 i false ⟨#[]⟩ []
abbrev iX : GInst := ⟨⟨#[120]⟩, v0', 0⟩
abbrev iPush (v : Val) : GInst := ⟨⟨#[112, 117, 115, 104]⟩, v, 0⟩
abbrev iDiv : GInst := ⟨⟨#[100, 105, 118]⟩, v0', 0⟩
abbrev iEmit (n : Int) : GInst := ⟨⟨#[101, 109, 105, 116]⟩, v0', n⟩
abbrev iRet : GInst := ⟨⟨#[114, 101, 116]⟩, v0', 0⟩
theorem kn1 : Ev (fun n => s_f40 n [iX, iX, iEmit 2, iRet] (iV 3)) ([iV 3, iV 3], 0) :=
  e40 (run_step rfl rfl rfl rfl (st' := [iV 3]) (out' := []) rfl (by decide) (by decide) (by decide) (run_step rfl rfl rfl rfl (st' := [iV 3, iV 3]) (out' := []) rfl (by decide) (by decide) (by decide) (run_step rfl rfl rfl rfl (st' := []) (out' := [iV 3, iV 3]) rfl (by decide) (by decide) (by decide) (run_ret rfl rfl _ _))) 0)
abbrev kq : List GInst := [iPush (iV 6), iX, iDiv, iEmit 1, iRet]
theorem kn2 : Ev (fun n => s_f40 n kq (iV 3)) ([iV 2], 0) :=
  e40 (run_step rfl rfl rfl rfl (st' := [iV 6]) (out' := []) rfl (by decide) (by decide) (by decide) (run_step rfl rfl rfl rfl (st' := [iV 6, iV 3]) (out' := []) rfl (by decide) (by decide) (by decide) (run_step rfl rfl rfl rfl (st' := [iV 2]) (out' := []) rfl (by decide) (by decide) (by decide) (run_step rfl rfl rfl rfl (st' := []) (out' := [iV 2]) rfl (by decide) (by decide) (by decide) (run_ret rfl rfl _ _)))) 0)
theorem kn3 : Ev (fun n => s_f40 n kq (iV 0)) ([], 8) :=
  e40 (run_step rfl rfl rfl rfl (st' := [iV 6]) (out' := []) rfl (by decide) (by decide) (by decide) (run_step rfl rfl rfl rfl (st' := [iV 6, iV 0]) (out' := []) rfl (by decide) (by decide) (by decide) (run_err rfl rfl rfl rfl (st' := []) (out' := []) rfl (by decide) (by decide) (by decide))) 0)
theorem kn4 : Ev (fun n => s_f44 n [[iX, iX, iEmit 2, iRet], kq] (iV 3)) ([iV 2, iV 2], []) := by
  have a : ChE [[iX, iX, iEmit 2, iRet], kq] 1 (iV 3) [iV 2] [] := ch_run rfl (by decide) kn2 ⟨[iV 2], [], [], [], rfl, rfl, ch_end _ _, rfl, rfl⟩
  exact e44 (ch_run rfl (by decide) kn1 ⟨[iV 2], [], [iV 2], [], rfl, rfl, a, [iV 2], [], [], [], rfl, rfl, a, rfl, rfl⟩) (by decide) (by decide)
theorem kn5 : Ev (fun n => s_f44 n [kq] (iV 0)) ([], [⟨0, iV 0⟩]) :=
  e44 (ch_run (k := 0) rfl (by decide) kn3 (o := []) (m := []) ⟨rfl, rfl⟩) (by decide) (by decide)
theorem e36 : Ev (fun n => s_f36 n) true := by
  unfold s_f36
  exact Ev.bind kn1 (Ev.bind kn4 (Ev.bind kn5 (Ev.bind kn3 (Ev.t rfl (Ev.t rfl (Ev.t rfl (Ev.bindc rfl (Ev.t rfl (Ev.t rfl (Ev.t rfl (Ev.bindc rfl (Ev.t rfl (Ev.bindc rfl (Ev.t rfl (Ev.mk _)))))))))))))))
end Go.Proofs.Ytbcjcekoonebiaa.Tl

set_option linter.unusedVariables false
set_option linter.unusedSimpArgs false
namespace Go.Proofs.Ytbcjcekoonebiaa.Tl
open Go Go.RowKit
theorem drop_c {α : Type} {t r : List α} {j : Nat} {x : α} (h : t.drop j = x :: r) : j < t.length ∧ t[j]? = some x ∧ t.drop (j + 1) = r := by
  have hlt : j < t.length := by
    rcases Nat.lt_or_ge j t.length with h1 | h1
    · exact h1
    · rw [List.drop_eq_nil_of_le h1] at h; cases h
  rw [List.drop_eq_getElem_cons hlt] at h
  injection h with h1 h2
  exact ⟨hlt, by rw [List.getElem?_eq_getElem hlt, h1], h2⟩
theorem drop_n {α : Type} {t : List α} {j : Nat} (h : t.drop j = []) : t.length ≤ j := List.drop_eq_nil_iff.1 h
theorem cj_t {j m : Nat} (h : j < m) : decide ((j : Int) < (m : Int)) = true := decide_eq_true (by omega)
theorem cj_f {j m : Nat} (h : m ≤ j) : decide ((j : Int) < (m : Int)) = false := decide_eq_false (by omega)
theorem w1 {d : Int} (h0 : -1000000 ≤ d) (h1 : d ≤ 1000000) : IntKind.i64.wrap (d + 1) = d + 1 := wrap64 (by omega) (by omega)
theorem w1m {d : Int} (h0 : -1000000 ≤ d) (h1 : d ≤ 1000000) : IntKind.i64.wrap (d - 1) = d - 1 := wrap64 (by omega) (by omega)

/-! ### what is wrong with a value -/
mutual
def ckV : Val → Int → Int
  | .mk k i b s t, d => bif (decide (k < 1)) || (decide (k > 4)) then 5 else bif ((((k != 1) && (i != 0)) || ((k != 2) && b)) || ((k != 3) && (s.data.toList != []))) || ((k != 4) && (decide ((t.length : Int) > 0))) then 2
    else bif decide ((s.size : Int) > 255) then 4 else bif k != 4 then 0 else bif (t.length : Int) == 0 then 1 else bif decide ((t.length : Int) > 8) then 10 else bif decide (d > 4) then 9 else ckVs t (d + 1)
def ckVs : List Val → Int → Int
  | [], _ => 0
  | x :: r, d => bif ckV x d != 0 then ckV x d else ckVs r d
end
mutual
theorem e68 : ∀ (v : Val) (d : Int), 0 ≤ d → d ≤ 5 → Ev (fun n => s_f68 n v d) (ckV v d)
  | .mk k i b s t, d, h0, h1 => by
    refine Ev.succ ?_
    simp only [s_f68, ckV, Val.kind, Val.i, Val.b, Val.s, Val.t]
    refine Ev.if (fun _ => Ev.mk _) (fun _ => Ev.if (fun _ => Ev.mk _) (fun _ => Ev.if (fun _ => Ev.mk _) (fun _ => Ev.if (fun _ => Ev.mk _) (fun _ => Ev.if (fun _ => Ev.mk _) (fun _ => Ev.if (fun _ => Ev.mk _) (fun _ => Ev.if (fun _ => Ev.mk _) (fun hd => ?_)))))))
    exact e68s t k i b s t 0 d rfl h0 (by simpa using hd)
theorem e68s : ∀ (r : List Val) (k i : Int) (b : Bool) (s : ByteArray) (t : List Val) (j : Nat) (d : Int), t.drop j = r → 0 ≤ d → d ≤ 4 → Ev (fun n => s_f68_l1 n (.mk k i b s t) d j) (ckVs r (d + 1))
  | [], k, i, b, s, t, j, d, h, h0, h1 => by
    refine Ev.succ ?_
    simp only [s_f68_l1, ckVs, Val.t]
    exact Ev.f (cj_f (drop_n h)) (Ev.mk _)
  | x :: r, k, i, b, s, t, j, d, h, h0, h1 => by
    obtain ⟨hj, hx, hr⟩ := drop_c h
    refine Ev.succ ?_
    simp only [s_f68_l1, ckVs, Val.t]
    refine Ev.t (cj_t hj) (Ev.bindc hx (Ev.bind (a := ckV x (d + 1)) ?_ (Ev.if (fun _ => Ev.mk _) (fun _ => e68s r k i b s t (j + 1) d hr h0 h1))))
    rw [w1 (by omega) (by omega)]
    exact e68 x (d + 1) (by omega) (by omega)
end
theorem e34 (v : Val) : Ev (fun n => s_f34 n v) (ckV v 0) := by
  unfold s_f34
  exact Ev.ret (g := id) (e68 v 0 (by omega) (by omega))

/-! ### what is few -/
mutual
def bgV : Val → Int → Int → Int
  | .mk k i b s t, d, l => bif (((decide (l ≤ 0)) || (decide (d ≤ 0))) || (decide ((t.length : Int) > 20))) || (decide ((s.size : Int) > 300)) then 0 else bgVs t (d - 1) (l - 1)
def bgVs : List Val → Int → Int → Int
  | [], _, l => l
  | x :: r, d, l => bif decide (l > 0) then bgVs r d (bgV x d l) else l
end
mutual
theorem bgV_le : ∀ (v : Val) (d l : Int), 0 ≤ l → 0 ≤ bgV v d l ∧ bgV v d l ≤ l
  | .mk k i b s t, d, l, h => by
    simp only [bgV]
    cases hc : (((decide (l ≤ 0)) || (decide (d ≤ 0))) || (decide ((t.length : Int) > 20))) || (decide ((s.size : Int) > 300)) with
    | true => exact ⟨by simp, by simpa using h⟩
    | false =>
      simp only [cond_false]
      simp only [Bool.or_eq_false_iff, decide_eq_false_iff_not] at hc
      have := bgVs_le t (d - 1) (l - 1) (by omega)
      omega
theorem bgVs_le : ∀ (r : List Val) (d l : Int), 0 ≤ l → 0 ≤ bgVs r d l ∧ bgVs r d l ≤ l
  | [], d, l, h => by simp only [bgVs]; omega
  | x :: r, d, l, h => by
    simp only [bgVs]
    cases hc : decide (l > 0) with
    | true =>
      simp only [cond_true]
      have h1 := bgV_le x d l h
      have h2 := bgVs_le r d (bgV x d l) h1.1
      omega
    | false => simp only [cond_false]; omega
end
mutual
theorem e90 : ∀ (v : Val) (d l : Int), -5 ≤ d → d ≤ 30 → -5 ≤ l → l ≤ 1000 → Ev (fun n => s_f90 n v d l) (bgV v d l)
  | .mk k i b s t, d, l, h0, h1, h2, h3 => by
    refine Ev.succ ?_
    simp only [s_f90, bgV, Val.kind, Val.i, Val.b, Val.s, Val.t]
    refine Ev.if (fun _ => Ev.mk _) (fun hc => ?_)
    have c1 := of_decide_eq_false (or_f (or_f (or_f hc).1).1).1
    have c2 := of_decide_eq_false (or_f (or_f (or_f hc).1).1).2
    have c3 := of_decide_eq_false (or_f (or_f hc).1).2
    have c3 : ¬ ((t.length : Int) > 20) := c3
    rw [w1m (by omega) (by omega)]
    exact e90s t k i b s t 0 d (l - 1) rfl (by omega) h1 (by omega) (by omega) (by omega)
theorem e90s : ∀ (r : List Val) (k i : Int) (b : Bool) (s : ByteArray) (t : List Val) (j : Nat) (d l : Int), t.drop j = r → 0 < d → d ≤ 30 → 0 ≤ l → l ≤ 1000 → t.length ≤ 20 → Ev (fun n => s_f90_l1 n (.mk k i b s t) d l j) (bgVs r (d - 1) l)
  | [], k, i, b, s, t, j, d, l, h, h0, h1, h2, h3, h4 => by
    refine Ev.succ ?_
    simp only [s_f90_l1, bgVs, Val.t]
    exact Ev.f (and_f (cj_f (drop_n h))) (Ev.mk _)
  | x :: r, k, i, b, s, t, j, d, l, h, h0, h1, h2, h3, h4 => by
    obtain ⟨hj, hx, hr⟩ := drop_c h
    refine Ev.succ ?_
    simp only [s_f90_l1, bgVs, Val.t]
    refine Ev.ifa (cj_t hj) (fun hl => ?_) (fun hl => Ev.mk _)
    have hb := bgV_le x (d - 1) l h2
    refine Ev.g (Int.natCast_nonneg j) (Ev.bindc (by rw [Int.toNat_natCast]; exact hx) (Ev.bind (a := bgV x (d - 1) l) ?_ ?_))
    · rw [w1m (by omega) (by omega)]
      exact e90 x (d - 1) l (by omega) (by omega) (by omega) (by omega)
    · rw [w1 (by omega) (by omega)]
      exact e90s r k i b s t (j + 1) d _ hr h0 h1 hb.1 (by omega) h4
end
theorem e55 (v : Val) : Ev (fun n => s_f55 n v) (decide (bgV v 12 300 > 0)) := by
  unfold s_f55
  exact Ev.ret (e90 v 12 300 (by omega) (by omega) (by omega) (by omega))

mutual
def BdV : Val → Prop
  | .mk k i b s t => t.length ≤ 20 ∧ BdVs t
def BdVs : List Val → Prop
  | [] => True
  | x :: r => BdV x ∧ BdVs r
end
mutual
theorem bg_bd : ∀ (v : Val) (d l : Int), 0 < bgV v d l → BdV v
  | .mk k i b s t, d, l, h => by
    simp only [bgV] at h
    cases hc : (((decide (l ≤ 0)) || (decide (d ≤ 0))) || (decide ((t.length : Int) > 20))) || (decide ((s.size : Int) > 300)) with
    | true => rw [hc] at h; simp at h
    | false =>
      rw [hc] at h
      simp only [cond_false] at h
      simp only [Bool.or_eq_false_iff, decide_eq_false_iff_not] at hc
      exact ⟨by omega, bg_bds t (d - 1) (l - 1) h⟩
theorem bg_bds : ∀ (r : List Val) (d l : Int), 0 < bgVs r d l → BdVs r
  | [], d, l, h => trivial
  | x :: r, d, l, h => by
    simp only [bgVs] at h
    cases hc : decide (l > 0) with
    | true =>
      rw [hc] at h
      simp only [cond_true] at h
      have h2 := bg_bds r d _ h
      refine ⟨bg_bd x d l ?_, h2⟩
      rcases Int.lt_or_le 0 (bgV x d l) with h3 | h3
      · exact h3
      · have h4 := bgV_le x d l (by simp at hc; omega)
        have h5 := bgVs_le r d (bgV x d l) h4.1
        omega
    | false =>
      rw [hc] at h
      simp only [cond_false] at h
      simp at hc
      omega
end

/-! ### as the document's: the same tree -/
mutual
theorem e22 : ∀ v : Val, BdV v → Ev (fun n => s_f22 n v) v
  | .mk k i b s t, h => by
    refine Ev.succ ?_
    simp only [s_f22]
    exact e22s t k i b s t 0 [] rfl rfl h.1 h.2
theorem e22s : ∀ (r : List Val) (k i : Int) (b : Bool) (s : ByteArray) (t : List Val) (j : Nat) (acc : List Val), acc ++ r = t → acc.length = j → t.length ≤ 20 → BdVs r → Ev (fun n => s_f22_l1 n (.mk k i b s t) j acc) (.mk k i b s t)
  | [], k, i, b, s, t, j, acc, h, hj, hl, hb => by
    refine Ev.succ ?_
    subst hj
    simp only [List.append_nil] at h
    subst h
    simp only [s_f22_l1, Val.kind, Val.i, Val.b, Val.s, Val.t]
    exact Ev.f (cj_f (Nat.le_refl _)) (Ev.mk _)
  | x :: r, k, i, b, s, t, j, acc, h, hj, hl, hb => by
    refine Ev.succ ?_
    have hx : t[j]? = some x := by subst h hj; simp
    have hlt : j < t.length := (List.getElem?_eq_some_iff.1 hx).1
    simp only [s_f22_l1, Val.t]
    exact Ev.t (cj_t hlt) (Ev.bindc hx (Ev.bind (e22 x hb.1) (Ev.g (by omega) (e22s r k i b s t (j + 1) (acc ++ [x]) (by simp [h]) (by simp [hj]) hl hb.2))))
end

/-- Good: it may be, and is few. -/
theorem e18 (v : Val) : (BdV v ∧ ckV v 0 = 0 ∧ Ev (fun n => s_f18 n v) true) ∨ Ev (fun n => s_f18 n v) false := by
  unfold s_f18
  cases hb : decide (bgV v 12 300 > 0) with
  | false => right; exact Ev.bind (hb ▸ e55 v) (Ev.f rfl (Ev.mk _))
  | true =>
    have hbd := bg_bd v 12 300 (of_decide_eq_true hb)
    have h : Ev (fun n => (s_f55 n v).bind fun q1 => bif q1 then (s_f22 n v).bind fun q4 => (s_f34 n q4).bind fun q6 => some (q6 == 0) else some false) (ckV v 0 == 0) :=
      Ev.bind (hb ▸ e55 v) (Ev.t rfl (Ev.bind (e22 v hbd) (Ev.ret (e34 v))))
    by_cases hc : ckV v 0 = 0
    · left; rw [hc] at h; exact ⟨hbd, hc, h⟩
    · right; rw [show (ckV v 0 == 0) = false from beq_false_of_ne hc] at h; exact h
end Go.Proofs.Ytbcjcekoonebiaa.Tl

set_option linter.unusedVariables false
set_option linter.unusedSimpArgs false
namespace Go.Proofs.Ytbcjcekoonebiaa.Tl
open Go Go.RowKit
/-! ### which value stands first -/
theorem e100 (b : Bool) : Ev (fun n => s_f100 n b) (bif b then -1 else 1) := by
  unfold s_f100
  exact Ev.if (fun _ => Ev.mk _) (fun _ => Ev.mk _)
theorem cmpI_ne {x y : Int} (h : x ≠ y) : cmpI x y = bif decide (x < y) then -1 else 1 := by
  unfold cmpI
  by_cases h1 : x < y
  · simp [h1]
  · have h2 : x > y := by omega
    simp [h1, h2]
theorem cmpI_ne0 {x y : Int} (h : x ≠ y) : cmpI x y ≠ 0 := by
  rw [cmpI_ne h]; cases decide (x < y) <;> simp
theorem cmpI_eq (x : Int) : cmpI x x = 0 := by simp [cmpI]
theorem cmpL_rf : ∀ l : List UInt8, Lib.compareBytes l l = 0
  | [] => rfl
  | x :: l => by
    have hx : ¬ x < x := fun h => by simp at h
    simp [Lib.compareBytes, cmpL_rf l, hx]
theorem cmpL_ne : ∀ a b : List UInt8, a ≠ b → Lib.compareBytes a b = bif Op.bytesLess a b then -1 else 1
  | [], [], h => absurd rfl h
  | [], _ :: _, _ => rfl
  | _ :: _, [], _ => rfl
  | x :: a, y :: b, hne => by
    rcases Nat.lt_trichotomy x.toNat y.toNat with h | h | h
    · have h1 : x < y := h
      simp [Lib.compareBytes, Op.bytesLess, h1]
    · have h1 : x = y := UInt8.toNat_inj.1 h
      subst h1
      have hx : ¬ x < x := fun h => by simp at h
      have ih := cmpL_ne a b (fun q => hne (by rw [q]))
      simp [Lib.compareBytes, Op.bytesLess, hx]
      simpa using ih
    · have h1 : y < x := h
      have h2 : ¬ x < y := fun q => by have q : x.toNat < y.toNat := q; omega
      have h3 : ¬ x = y := fun q => by subst q; omega
      have h4 : (x == y) = false := beq_false_of_ne h3
      simp [Lib.compareBytes, Op.bytesLess, h1, h2, h3, h4]
theorem nil_of {α : Type} {t : List α} (h : decide ((t.length : Int) > 0) = false) : t = [] := List.eq_nil_of_length_eq_zero (by have := of_decide_eq_false h; omega)
theorem bne_t {α : Type} [BEq α] [LawfulBEq α] {a b : α} (h : (a != b) = true) : a ≠ b := by simpa using h
theorem bne_f {α : Type} [BEq α] [LawfulBEq α] {a b : α} (h : (a != b) = false) : a = b := by simpa using h
theorem ev100 {p : Prop} [Decidable p] {c : Int} (h : c = bif decide p then -1 else 1) : Ev (fun n => (s_f100 n (decide p)).bind fun q => some q) c := h ▸ Ev.ret (g := id) (e100 _)
theorem cmpV_mk (k i : Int) (b : Bool) (s : ByteArray) (t : List Val) (k' i' : Int) (b' : Bool) (s' : ByteArray) (t' : List Val) : cmpV (.mk k i b s t) (.mk k' i' b' s' t') =
    bif k != k' then cmpI k k' else bif i != i' then cmpI i i' else bif b != b' then cmpI (bI b) (bI b') else bif s.data.toList != s'.data.toList then cmpB s s' else cmpVs t t' := by
  simp only [cmpV, Val.kind, Val.i, Val.b, Val.s, Val.t]
  by_cases h1 : k = k'
  · subst h1
    by_cases h2 : i = i'
    · subst h2
      by_cases h3 : b = b'
      · subst h3
        by_cases h4 : s.data.toList = s'.data.toList
        · have hc : cmpB s s' = 0 := by show Lib.compareBytes _ _ = 0; rw [h4]; exact cmpL_rf _
          simp only [cmpI_eq, orI, if_true, hc, h4, bne_self_eq_false, cond_false]
        · have hc : cmpB s s' = bif Op.bytesLess s.data.toList s'.data.toList then -1 else 1 := cmpL_ne _ _ h4
          have h0 : cmpB s s' ≠ 0 := by rw [hc]; cases Op.bytesLess s.data.toList s'.data.toList <;> simp
          have h5 : (s.data.toList != s'.data.toList) = true := by simpa using h4
          simp only [cmpI_eq, orI, if_true, h0, h5, bne_self_eq_false, cond_false, if_false, cond_true]
      · have hb : bI b ≠ bI b' := fun q => h3 (by revert q; cases b <;> cases b' <;> simp [bI])
        have h0 := cmpI_ne0 hb
        have h5 : (b != b') = true := by simpa using h3
        simp only [cmpI_eq, orI, if_true, h0, h5, bne_self_eq_false, cond_false, if_false, cond_true]
    · have h0 := cmpI_ne0 h2
      have h5 : (i != i') = true := by simpa using h2
      simp only [cmpI_eq, orI, if_true, h0, h5, bne_self_eq_false, cond_false, if_false, cond_true]
  · have h0 := cmpI_ne0 h1
    have h5 : (k != k') = true := by simpa using h1
    simp only [orI, h0, h5, if_false, cond_true]
mutual
theorem e64 : ∀ a b : Val, BdV a → Ev (fun n => s_f64 n a b) (cmpV a b)
  | .mk k i b s t, .mk k' i' b' s' t', hbd => by
    refine Ev.succ ?_
    rw [cmpV_mk]
    simp only [s_f64, Val.kind, Val.i, Val.b, Val.s, Val.t]
    refine Ev.if (fun h => ev100 (cmpI_ne (bne_t h))) (fun h1 => Ev.if (fun h => ev100 (cmpI_ne (bne_t h))) (fun h2 => Ev.if (fun h => ?_) (fun h3 => Ev.if (fun h => ?_) (fun h4 => ?_))))
    · have hv : cmpI (bI b) (bI b') = bif b' then -1 else 1 := by have h := bne_t h; revert h; cases b <;> cases b' <;> simp [bI, cmpI]
      rw [hv]
      exact Ev.ret (g := id) (e100 _)
    · have hc : cmpB s s' = bif Op.bytesLess s.data.toList s'.data.toList then -1 else 1 := cmpL_ne _ _ (bne_t h)
      rw [hc]
      exact Ev.ret (g := id) (e100 _)
    · exact e64s t k i b s t (.mk k' i' b' s' t') 0 rfl (Nat.zero_le _) (Nat.zero_le _) hbd.1 hbd.2
theorem e64s : ∀ (r : List Val) (k i : Int) (b : Bool) (s : ByteArray) (t : List Val) (w : Val) (j : Nat), t.drop j = r → j ≤ t.length → j ≤ w.t.length → t.length ≤ 20 → BdVs r → Ev (fun n => s_f64_l1 n (.mk k i b s t) w j) (cmpVs r (w.t.drop j))
  | [], k, i, b, s, t, w, j, h, h1, h2, hl, hbd => by
    refine Ev.succ ?_
    have hle := drop_n h
    simp only [s_f64_l1, show ∀ k i b s t, (Val.mk k i b s t).t = t from fun _ _ _ _ _ => rfl]
    refine Ev.f (and_f (cj_f hle)) ?_
    cases hw : w.t.drop j with
    | nil =>
      have := drop_n hw
      simp only [cmpVs]
      exact Ev.f (by rw [show t.length = w.t.length by omega]; simp) (Ev.mk _)
    | cons y q =>
      obtain ⟨hj, _, _⟩ := drop_c hw
      simp only [cmpVs]
      refine Ev.t (by simp; omega) (ev100 ?_)
      rw [decide_eq_true (by omega)]
      rfl
  | x :: r, k, i, b, s, t, w, j, h, h1, h2, hl, hbd => by
    obtain ⟨hj, hx, hr⟩ := drop_c h
    refine Ev.succ ?_
    simp only [s_f64_l1, show ∀ k i b s t, (Val.mk k i b s t).t = t from fun _ _ _ _ _ => rfl]
    cases hw : w.t.drop j with
    | nil =>
      have hle := drop_n hw
      simp only [cmpVs]
      refine Ev.f (by rw [cj_f hle, Bool.and_false]) (Ev.t (by simp; omega) (ev100 ?_))
      rw [decide_eq_false (by omega)]
      rfl
    | cons y q =>
      obtain ⟨hj2, hy, hq⟩ := drop_c hw
      simp only [cmpVs]
      refine Ev.t (by rw [cj_t hj, cj_t hj2]; rfl) ?_
      refine Ev.g (Int.natCast_nonneg j) (Ev.bindc (by rw [Int.toNat_natCast]; exact hx) (Ev.g (Int.natCast_nonneg j) (Ev.bindc (by rw [Int.toNat_natCast]; exact hy) (Ev.bind (e64 x y hbd.1) ?_))))
      by_cases hc : cmpV x y = 0
      · rw [if_pos hc]
        refine Ev.f (by simp [hc]) ?_
        have := e64s r k i b s t w (j + 1) hr (by omega) (by omega) hl hbd.2
        rw [hq] at this
        rw [show IntKind.i64.wrap ((j : Int) + 1) = ((j + 1 : Nat) : Int) by rw [wrap64 (by omega) (by omega)]; rfl]
        exact this
      · rw [if_neg hc]
        exact Ev.t (by simpa using hc) (Ev.mk _)
end
theorem e25 (a b : Val) (h : BdV a) : Ev (fun n => s_f25 n a b) (cmpV a b == 0) := by
  unfold s_f25
  exact Ev.ret (e64 a b h)
mutual
theorem cmpV_self : ∀ a : Val, cmpV a a = 0
  | .mk k i b s t => by
    rw [cmpV_mk]
    simp [cmpVs_self t]
theorem cmpVs_self : ∀ a : List Val, cmpVs a a = 0
  | [] => rfl
  | x :: r => by simp only [cmpVs, cmpV_self x, if_true, cmpVs_self r]
end
end Go.Proofs.Ytbcjcekoonebiaa.Tl

set_option linter.unusedVariables false
set_option linter.unusedSimpArgs false
namespace Go.Proofs.Ytbcjcekoonebiaa.Tl
open Go Go.RowKit
/-! ### types of values -/
mutual
def tyV : Val → Ty
  | .mk k i b s t => .mk k (tyVs t)
def tyVs : List Val → List Ty
  | [] => []
  | x :: r => tyV x :: tyVs r
end
theorem tyVs_length : ∀ l : List Val, (tyVs l).length = l.length
  | [] => rfl
  | x :: r => by simp only [tyVs, List.length_cons, tyVs_length r]
mutual
theorem e21 : ∀ v : Val, BdV v → Ev (fun n => s_f21 n v) (tyV v)
  | .mk k i b s t, h => by
    refine Ev.succ ?_
    simp only [s_f21, tyV]
    exact e21s t k i b s t 0 [] rfl rfl h.1 h.2
theorem e21s : ∀ (r : List Val) (k i : Int) (b : Bool) (s : ByteArray) (t : List Val) (j : Nat) (acc : List Ty), t.drop j = r → acc.length = j → t.length ≤ 20 → BdVs r → Ev (fun n => s_f21_l1 n (.mk k i b s t) j acc) (.mk k (acc ++ tyVs r))
  | [], k, i, b, s, t, j, acc, h, hj, hl, hb => by
    refine Ev.succ ?_
    simp only [s_f21_l1, Val.kind, Val.t, tyVs, List.append_nil]
    exact Ev.f (cj_f (drop_n h)) (Ev.mk _)
  | x :: r, k, i, b, s, t, j, acc, h, hj, hl, hb => by
    obtain ⟨hlt, hx, hr⟩ := drop_c h
    refine Ev.succ ?_
    simp only [s_f21_l1, Val.t, tyVs]
    refine Ev.t (cj_t hlt) (Ev.bindc hx (Ev.bind (e21 x hb.1) (Ev.g (by omega) ((e21s r k i b s t (j + 1) (acc ++ [tyV x]) hr (by simp [hj]) hl hb.2).congr (by simp)))))
end

abbrev zT : Ty := .mk 0 []
/-! ### what is wrong with a type -/
mutual
def ckT : Ty → Int → Int
  | .mk k l, d => bif ((decide (k < 1)) || (decide (k > 4))) || ((k != 4) && (decide ((l.length : Int) > 0))) then 5 else bif k != 4 then 0 else bif (l.length : Int) == 0 then 1 else bif decide ((l.length : Int) > 8) then 10 else bif decide (d > 4) then 9 else ckTs l (d + 1)
def ckTs : List Ty → Int → Int
  | [], _ => 0
  | x :: r, d => bif ckT x d != 0 then ckT x d else ckTs r d
end
mutual
theorem e91 : ∀ (v : Ty) (d : Int), 0 ≤ d → d ≤ 5 → Ev (fun n => s_f91 n v d) (ckT v d)
  | .mk k t, d, h0, h1 => by
    refine Ev.succ ?_
    simp only [s_f91, ckT, Ty.kind, Ty.of]
    refine Ev.if (fun _ => Ev.mk _) (fun _ => Ev.if (fun _ => Ev.mk _) (fun _ => Ev.if (fun _ => Ev.mk _) (fun _ => Ev.if (fun _ => Ev.mk _) (fun _ => Ev.if (fun _ => Ev.mk _) (fun hd => ?_)))))
    exact e91s t k t 0 d rfl h0 (by simpa using hd)
theorem e91s : ∀ (r : List Ty) (k : Int) (t : List Ty) (j : Nat) (d : Int), t.drop j = r → 0 ≤ d → d ≤ 4 → Ev (fun n => s_f91_l1 n (.mk k t) d j) (ckTs r (d + 1))
  | [], k, t, j, d, h, h0, h1 => by
    refine Ev.succ ?_
    simp only [s_f91_l1, ckTs, Ty.of]
    exact Ev.f (cj_f (drop_n h)) (Ev.mk _)
  | x :: r, k, t, j, d, h, h0, h1 => by
    obtain ⟨hj, hx, hr⟩ := drop_c h
    refine Ev.succ ?_
    simp only [s_f91_l1, ckTs, Ty.of]
    refine Ev.t (cj_t hj) (Ev.bindc hx (Ev.bind (a := ckT x (d + 1)) ?_ (Ev.if (fun _ => Ev.mk _) (fun _ => e91s r k t (j + 1) d hr h0 h1))))
    rw [w1 (by omega) (by omega)]
    exact e91 x (d + 1) (by omega) (by omega)
end
theorem e56 (v : Ty) : Ev (fun n => s_f56 n v) (ckT v 0) := by
  unfold s_f56
  exact Ev.ret (g := id) (e91 v 0 (by omega) (by omega))

/-! ### types alike -/
mutual
def sameT : Ty → Ty → Bool
  | .mk k l, u => bif (k != u.kind) || ((l.length : Int) != (u.of.length : Int)) then false else sameTs l u.of
def sameTs : List Ty → List Ty → Bool
  | x :: r, y :: q => bif !(sameT x y) then false else sameTs r q
  | _, _ => true
end
mutual
theorem e65 : ∀ (a b : Ty), Ev (fun n => s_f65 n a b) (sameT a b)
  | .mk k l, b => by
    refine Ev.succ ?_
    simp only [s_f65, sameT, Ty.kind, Ty.of]
    refine Ev.if (fun _ => Ev.mk _) (fun hc => ?_)
    simp only [Bool.or_eq_false_iff] at hc
    have hl : l.length = b.of.length := by have q : ((l.length : Int) != (b.of.length : Int)) = false := hc.2; simp at q; omega
    exact e65s l k l b 0 rfl hl
theorem e65s : ∀ (r : List Ty) (k : Int) (l : List Ty) (b : Ty) (j : Nat), l.drop j = r → l.length = b.of.length → Ev (fun n => s_f65_l1 n (.mk k l) b j) (sameTs r (b.of.drop j))
  | [], k, l, b, j, h, hl => by
    refine Ev.succ ?_
    simp only [s_f65_l1, sameTs, Ty.of]
    exact Ev.f (cj_f (drop_n h)) (Ev.mk _)
  | x :: r, k, l, b, j, h, hl => by
    obtain ⟨hj, hx, hr⟩ := drop_c h
    refine Ev.succ ?_
    have hy : b.of[j]? = some (b.of[j]'(by omega)) := List.getElem?_eq_getElem (by omega)
    rw [drop_get hy]
    simp only [s_f65_l1, sameTs, Ty.of]
    refine Ev.t (cj_t hj) (Ev.bindc hx (Ev.bindc hy (Ev.bind (e65 x _) (Ev.if (fun _ => Ev.mk _) (fun _ => e65s r k l b (j + 1) hr hl)))))
end
mutual
theorem sameT_iff : ∀ a b : Ty, sameT a b = true ↔ a = b
  | .mk k l, .mk k' l' => by
    simp only [sameT, Ty.kind, Ty.of]
    cases hc : (k != k') || ((l.length : Int) != (l'.length : Int)) with
    | true =>
      simp only [cond_true, Bool.false_eq_true, false_iff, Ty.mk.injEq, not_and]
      rintro rfl rfl
      simp at hc
    | false =>
      simp only [cond_false, Ty.mk.injEq]
      simp only [Bool.or_eq_false_iff] at hc
      have h1 : k = k' := by simpa using hc.1
      have h2 : l.length = l'.length := by have := hc.2; simp at this; omega
      rw [sameTs_iff l l' h2]
      simp [h1]
theorem sameTs_iff : ∀ a b : List Ty, a.length = b.length → (sameTs a b = true ↔ a = b)
  | [], [], _ => by simp [sameTs]
  | [], _ :: _, h => by simp at h
  | _ :: _, [], h => by simp at h
  | x :: r, y :: q, h => by
    simp only [sameTs]
    have h1 := sameT_iff x y
    have h2 := sameTs_iff r q (by simpa using h)
    cases hc : sameT x y with
    | true =>
      have h3 := h1.1 hc
      subst h3
      simp [h2]
    | false =>
      simp only [Bool.not_false, cond_true, Bool.false_eq_true, false_iff, List.cons.injEq, not_and]
      intro h3
      rw [h3, (sameT_iff y y).2 rfl] at hc
      cases hc
end
theorem sameT_eq (a b : Ty) : sameT a b = true ↔ a = b := sameT_iff a b

/-! ### ops -/
def arS (o : List UInt8) : Int :=
  bif o == [108, 105, 116] then 0 else bif o == [120] then 0 else bif o == [97, 116] then 1 else bif o == [110, 101, 103] then 1 else bif o == [110, 111, 116] then 1 else bif o == [108, 101, 110] then 1
  else bif o == [97, 100, 100] then 2 else bif o == [115, 117, 98] then 2 else bif o == [109, 117, 108] then 2 else bif o == [100, 105, 118] then 2 else bif o == [114, 101, 109] then 2 else bif o == [101, 113] then 2 else bif o == [108, 116] then 2
  else bif o == [97, 110, 100] then 2 else bif o == [111, 114] then 2 else bif o == [99, 97, 116] then 2 else bif o == [105, 102] then 3 else bif o == [116, 117, 112] then -1 else -2
theorem e92 (op : ByteArray) : Ev (fun n => s_f92 n op) (arS op.data.toList) := by
  unfold s_f92 arS
  repeat' first | exact Ev.mk _ | refine Ev.if (fun _ => ?_) (fun _ => ?_)

def allK (k : Int) (ts : List Ty) (r : Ty) : Ty × Int :=
  match ts with
  | [] => (r, 0)
  | x :: q => bif x.kind != k then (zT, 5) else allK k q r
theorem e94_1 : ∀ (r ts : List Ty) (j : Nat), ts.drop j = r → Ev (fun n => s_f94_l1 n ts j) (allK 1 r (.mk 1 []))
  | [], ts, j, h => by
    refine Ev.succ ?_
    simp only [s_f94_l1, allK]
    exact Ev.f (cj_f (drop_n h)) (Ev.mk _)
  | x :: r, ts, j, h => by
    obtain ⟨hj, hx, hr⟩ := drop_c h
    refine Ev.succ ?_
    simp only [s_f94_l1, allK]
    exact Ev.t (cj_t hj) (Ev.bindc hx (Ev.if (fun _ => Ev.mk _) (fun _ => e94_1 r ts (j + 1) hr)))
theorem e94_7 : ∀ (r ts : List Ty) (j : Nat), ts.drop j = r → Ev (fun n => s_f94_l7 n ts j) (allK 2 r (.mk 2 []))
  | [], ts, j, h => by
    refine Ev.succ ?_
    simp only [s_f94_l7, allK]
    exact Ev.f (cj_f (drop_n h)) (Ev.mk _)
  | x :: r, ts, j, h => by
    obtain ⟨hj, hx, hr⟩ := drop_c h
    refine Ev.succ ?_
    simp only [s_f94_l7, allK]
    exact Ev.t (cj_t hj) (Ev.bindc hx (Ev.if (fun _ => Ev.mk _) (fun _ => e94_7 r ts (j + 1) hr)))
theorem e94_10 : ∀ (r ts : List Ty) (j : Nat), ts.drop j = r → Ev (fun n => s_f94_l10 n ts j) (allK 3 r (.mk 3 []))
  | [], ts, j, h => by
    refine Ev.succ ?_
    simp only [s_f94_l10, allK]
    exact Ev.f (cj_f (drop_n h)) (Ev.mk _)
  | x :: r, ts, j, h => by
    obtain ⟨hj, hx, hr⟩ := drop_c h
    refine Ev.succ ?_
    simp only [s_f94_l10, allK]
    exact Ev.t (cj_t hj) (Ev.bindc hx (Ev.if (fun _ => Ev.mk _) (fun _ => e94_10 r ts (j + 1) hr)))
theorem e94_11 : ∀ (r ts : List Ty) (j : Nat), ts.drop j = r → Ev (fun n => s_f94_l11 n ts j) (allK 3 r (.mk 1 []))
  | [], ts, j, h => by
    refine Ev.succ ?_
    simp only [s_f94_l11, allK]
    exact Ev.f (cj_f (drop_n h)) (Ev.mk _)
  | x :: r, ts, j, h => by
    obtain ⟨hj, hx, hr⟩ := drop_c h
    refine Ev.succ ?_
    simp only [s_f94_l11, allK]
    exact Ev.t (cj_t hj) (Ev.bindc hx (Ev.if (fun _ => Ev.mk _) (fun _ => e94_11 r ts (j + 1) hr)))
theorem e94_12 : ∀ (r ts : List Ty) (j : Nat), ts.drop j = r → Ev (fun n => s_f94_l12 n ts j) (allK 0 r (.mk 0 []))
  | [], ts, j, h => by
    refine Ev.succ ?_
    simp only [s_f94_l12, allK]
    exact Ev.f (cj_f (drop_n h)) (Ev.mk _)
  | x :: r, ts, j, h => by
    obtain ⟨hj, hx, hr⟩ := drop_c h
    refine Ev.succ ?_
    simp only [s_f94_l12, allK]
    exact Ev.t (cj_t hj) (Ev.bindc hx (Ev.if (fun _ => Ev.mk _) (fun _ => e94_12 r ts (j + 1) hr)))

abbrev th (ts : List Ty) (j : Nat) : Ty := (ts[j]?).getD zT
/-- What an op makes of types. -/
def opTy (o : List UInt8) (m : Int) (ts : List Ty) : Ty × Int :=
  bif o == [97, 116] then (bif (th ts 0).kind != 4 then (zT, 5) else bif decide (m < 0) then (zT, 1) else bif decide (m ≥ ((th ts 0).of.length : Int)) then (zT, 1) else (th (th ts 0).of m.toNat, 0))
  else bif o == [116, 117, 112] then (bif ckT (.mk 4 ts) 0 != 0 then (zT, 9) else (.mk 4 ts, 0))
  else bif o == [101, 113] then (bif !(sameT (th ts 0) (th ts 1)) then (zT, 5) else (.mk 2 [], 0))
  else bif o == [108, 116] then (bif !(sameT (th ts 0) (th ts 1)) then (zT, 5) else (.mk 2 [], 0))
  else bif o == [105, 102] then (bif (th ts 0).kind != 2 then (zT, 5) else bif !(sameT (th ts 1) (th ts 2)) then (zT, 5) else (th ts 1, 0))
  else bif o == [110, 101, 103] then allK 1 ts (.mk 1 []) else bif o == [97, 100, 100] then allK 1 ts (.mk 1 []) else bif o == [115, 117, 98] then allK 1 ts (.mk 1 []) else bif o == [109, 117, 108] then allK 1 ts (.mk 1 []) else bif o == [100, 105, 118] then allK 1 ts (.mk 1 []) else bif o == [114, 101, 109] then allK 1 ts (.mk 1 [])
  else bif o == [110, 111, 116] then allK 2 ts (.mk 2 []) else bif o == [97, 110, 100] then allK 2 ts (.mk 2 []) else bif o == [111, 114] then allK 2 ts (.mk 2 [])
  else bif o == [99, 97, 116] then allK 3 ts (.mk 3 []) else bif o == [108, 101, 110] then allK 3 ts (.mk 1 []) else allK 0 ts (.mk 0 [])
theorem th_get {ts : List Ty} {j : Nat} (h : j < ts.length) : ts[j]? = some (th ts j) := by
  simp [th, List.getElem?_eq_getElem h]
theorem e94 (op : ByteArray) (m : Int) (ts : List Ty) (h1 : op.data.toList = [97, 116] → 0 < ts.length) (h2 : op.data.toList = [101, 113] ∨ op.data.toList = [108, 116] → 1 < ts.length) (h3 : op.data.toList = [105, 102] → 2 < ts.length) : Ev (fun n => s_f94 n op m ts) (opTy op.data.toList m ts) := by
  unfold s_f94 opTy
  generalize op.data.toList = o at *
  refine Ev.if (fun h => ?_) (fun _ => Ev.if (fun h => ?_) (fun _ => Ev.if (fun h => ?_) (fun _ => Ev.if (fun h => ?_) (fun _ => Ev.if (fun h => ?_) (fun _ => Ev.if (fun h => ?_) (fun _ => Ev.if (fun h => ?_) (fun _ => Ev.if (fun h => ?_) (fun _ => Ev.if (fun h => ?_) (fun _ => Ev.if (fun h => ?_) (fun _ => Ev.if (fun h => ?_) (fun _ => Ev.if (fun h => ?_) (fun _ => Ev.if (fun h => ?_) (fun _ => Ev.if (fun h => ?_) (fun _ => Ev.if (fun h => ?_) (fun _ => Ev.if (fun h => ?_) (fun _ => ?_))))))))))))))))
  · have h0 := th_get (h1 (eq_of_beq h))
    refine Ev.bindc h0 (Ev.if (fun _ => Ev.mk _) (fun _ => Ev.if (fun _ => Ev.mk _) (fun hm => Ev.bindc h0 (Ev.if (fun _ => Ev.mk _) (fun hl => Ev.bindc h0 (Ev.g ?_ (Ev.bindc (th_get ?_) (Ev.mk _))))))))
    · simpa using hm
    · simp at hm hl; omega
  · exact Ev.bind (e56 _) (Ev.if (fun _ => Ev.mk _) (fun _ => Ev.mk _))
  · have hl := h2 (.inl (eq_of_beq h))
    exact Ev.bindc (th_get (by omega)) (Ev.bindc (th_get hl) (Ev.bind (e65 _ _) (Ev.if (fun _ => Ev.mk _) (fun _ => Ev.mk _))))
  · have hl := h2 (.inr (eq_of_beq h))
    exact Ev.bindc (th_get (by omega)) (Ev.bindc (th_get hl) (Ev.bind (e65 _ _) (Ev.if (fun _ => Ev.mk _) (fun _ => Ev.mk _))))
  · have hl := h3 (eq_of_beq h)
    exact Ev.bindc (th_get (by omega)) (Ev.if (fun _ => Ev.mk _) (fun _ => Ev.bindc (th_get (by omega)) (Ev.bindc (th_get hl) (Ev.bind (e65 _ _) (Ev.if (fun _ => Ev.mk _) (fun _ => Ev.bindc (th_get (by omega)) (Ev.mk _)))))))
  all_goals first | exact e94_1 _ _ _ rfl | exact e94_7 _ _ _ rfl | exact e94_10 _ _ _ rfl | exact e94_11 _ _ _ rfl | exact e94_12 _ _ _ rfl

/-! ### what is few of expressions -/
mutual
def BdE : Ex → Prop
  | .mk o v m a => a.length ≤ 12 ∧ BdV v ∧ BdEs a
def BdEs : List Ex → Prop
  | [] => True
  | x :: r => BdE x ∧ BdEs r
end
mutual
def bgE : Ex → Int → Int → Int
  | .mk o v m a, d, l => bif decide (l ≤ 0) then 0 else bif decide (d ≤ 0) then 0 else bif decide ((a.length : Int) > 12) then 0 else bif decide ((o.size : Int) > 20) then 0 else bif !(decide (bgV v 12 300 > 0)) then 0 else bgEs a (d - 1) (l - 1)
def bgEs : List Ex → Int → Int → Int
  | [], _, l => l
  | x :: r, d, l => bif decide (l > 0) then bgEs r d (bgE x d l) else l
end
mutual
theorem bgE_le : ∀ (v : Ex) (d l : Int), 0 ≤ l → 0 ≤ bgE v d l ∧ bgE v d l ≤ l
  | .mk o v m a, d, l, h => by
    simp only [bgE]
    cases h1 : decide (l ≤ 0)
    · cases h2 : decide (d ≤ 0)
      · cases h3 : decide ((a.length : Int) > 12)
        · cases h4 : decide ((o.size : Int) > 20)
          · cases h5 : !(decide (bgV v 12 300 > 0))
            · simp only [cond_false]
              simp at h1
              have := bgEs_le a (d - 1) (l - 1) (by omega)
              omega
            · simpa using h
          · simpa using h
        · simpa using h
      · simpa using h
    · simpa using h
theorem bgEs_le : ∀ (r : List Ex) (d l : Int), 0 ≤ l → 0 ≤ bgEs r d l ∧ bgEs r d l ≤ l
  | [], d, l, h => by simp only [bgEs]; omega
  | x :: r, d, l, h => by
    simp only [bgEs]
    cases hc : decide (l > 0) with
    | true =>
      simp only [cond_true]
      have h1 := bgE_le x d l h
      have h2 := bgEs_le r d (bgE x d l) h1.1
      omega
    | false => simp only [cond_false]; omega
end
mutual
theorem e54 : ∀ (v : Ex) (d l : Int), -5 ≤ d → d ≤ 30 → -5 ≤ l → l ≤ 1000 → Ev (fun n => s_f54 n v d l) (bgE v d l)
  | .mk o v m a, d, l, h0, h1, h2, h3 => by
    refine Ev.succ ?_
    simp only [s_f54, bgE, Ex.a, Ex.op, Ex.v]
    refine Ev.if (fun _ => Ev.mk _) (fun c1 => Ev.if (fun _ => Ev.mk _) (fun c2 => Ev.if (fun _ => Ev.mk _) (fun c3 => Ev.if (fun _ => Ev.mk _) (fun c4 => Ev.bind (e55 v) (Ev.if (fun _ => Ev.mk _) (fun c5 => ?_))))))
    have c1 := of_decide_eq_false c1
    have c2 := of_decide_eq_false c2
    have c3 := of_decide_eq_false c3
    have c3 : ¬ ((a.length : Int) > 12) := c3
    rw [w1m (by omega) (by omega)]
    exact e54s a o v m a 0 d (l - 1) rfl (by omega) h1 (by omega) (by omega) (by omega)
theorem e54s : ∀ (r : List Ex) (o : ByteArray) (v : Val) (m : Int) (a : List Ex) (j : Nat) (d l : Int), a.drop j = r → 0 < d → d ≤ 30 → 0 ≤ l → l ≤ 1000 → a.length ≤ 20 → Ev (fun n => s_f54_l1 n (.mk o v m a) d l j) (bgEs r (d - 1) l)
  | [], o, v, m, t, j, d, l, h, h0, h1, h2, h3, h4 => by
    refine Ev.succ ?_
    simp only [s_f54_l1, bgEs, Ex.a]
    exact Ev.f (and_f (cj_f (drop_n h))) (Ev.mk _)
  | x :: r, o, v, m, t, j, d, l, h, h0, h1, h2, h3, h4 => by
    obtain ⟨hj, hx, hr⟩ := drop_c h
    refine Ev.succ ?_
    simp only [s_f54_l1, bgEs, Ex.a]
    refine Ev.ifa (cj_t hj) (fun hl => ?_) (fun hl => Ev.mk _)
    have hb := bgE_le x (d - 1) l h2
    refine Ev.g (Int.natCast_nonneg j) (Ev.bindc (by rw [Int.toNat_natCast]; exact hx) (Ev.bind (a := bgE x (d - 1) l) ?_ ?_))
    · rw [w1m (by omega) (by omega)]
      exact e54 x (d - 1) l (by omega) (by omega) (by omega) (by omega)
    · rw [w1 (by omega) (by omega)]
      exact e54s r o v m t (j + 1) d _ hr h0 h1 hb.1 (by omega) h4
end
mutual
theorem bgE_bd : ∀ (v : Ex) (d l : Int), 0 < bgE v d l → BdE v
  | .mk o v m a, d, l, h => by
    simp only [bgE] at h
    cases h1 : decide (l ≤ 0)
    · cases h2 : decide (d ≤ 0)
      · cases h3 : decide ((a.length : Int) > 12)
        · cases h4 : decide ((o.size : Int) > 20)
          · cases h5 : !(decide (bgV v 12 300 > 0))
            · simp only [h1, h2, h3, h4, h5, cond_false] at h
              simp at h3 h5
              exact ⟨by omega, bg_bd v 12 300 h5, bgEs_bd a (d - 1) (l - 1) h⟩
            · simp [h1, h2, h3, h4, h5] at h
          · simp [h1, h2, h3, h4] at h
        · simp [h1, h2, h3] at h
      · simp [h1, h2] at h
    · simp [h1] at h
theorem bgEs_bd : ∀ (r : List Ex) (d l : Int), 0 < bgEs r d l → BdEs r
  | [], d, l, h => trivial
  | x :: r, d, l, h => by
    simp only [bgEs] at h
    cases hc : decide (l > 0) with
    | true =>
      rw [hc] at h
      simp only [cond_true] at h
      have h2 := bgEs_bd r d _ h
      refine ⟨bgE_bd x d l ?_, h2⟩
      rcases Int.lt_or_le 0 (bgE x d l) with h3 | h3
      · exact h3
      · have h4 := bgE_le x d l (by simp at hc; omega)
        have h5 := bgEs_le r d (bgE x d l) h4.1
        omega
    | false =>
      rw [hc] at h
      simp only [cond_false] at h
      simp at hc
      omega
end
theorem e17 (e : Ex) : (BdE e ∧ Ev (fun n => s_f17 n e) true) ∨ Ev (fun n => s_f17 n e) false := by
  unfold s_f17
  have h : Ev (fun n => (s_f54 n e 20 400).bind fun q1 => some (decide (q1 > 0))) (decide (bgE e 20 400 > 0)) := Ev.ret (e54 e 20 400 (by omega) (by omega) (by omega) (by omega))
  cases hb : decide (bgE e 20 400 > 0) with
  | false => right; rw [hb] at h; exact h
  | true => left; rw [hb] at h; exact ⟨bgE_bd e 20 400 (of_decide_eq_true hb), h⟩

/-! ### as the document's -/
mutual
theorem e19 : ∀ v : Ex, BdE v → Ev (fun n => s_f19 n v) v
  | .mk o v m a, h => by
    refine Ev.succ ?_
    simp only [s_f19]
    exact Ev.bind (e22 v h.2.1) (e19s a o v m a 0 [] rfl rfl h.1 h.2.2)
theorem e19s : ∀ (r : List Ex) (o : ByteArray) (v : Val) (m : Int) (t : List Ex) (j : Nat) (acc : List Ex), acc ++ r = t → acc.length = j → t.length ≤ 12 → BdEs r → Ev (fun n => s_f19_l1 n (.mk o v m t) v j acc) (.mk o v m t)
  | [], o, v, m, t, j, acc, h, hj, hl, hb => by
    refine Ev.succ ?_
    subst hj
    simp only [List.append_nil] at h
    subst h
    simp only [s_f19_l1, Ex.op, Ex.n, Ex.a]
    exact Ev.f (cj_f (Nat.le_refl _)) (Ev.mk _)
  | x :: r, o, v, m, t, j, acc, h, hj, hl, hb => by
    refine Ev.succ ?_
    have hx : t[j]? = some x := by subst h hj; simp
    have hlt : j < t.length := (List.getElem?_eq_some_iff.1 hx).1
    simp only [s_f19_l1, Ex.a]
    exact Ev.t (cj_t hlt) (Ev.bindc hx (Ev.bind (e19 x hb.1) (Ev.g (by omega) (e19s r o v m t (j + 1) (acc ++ [x]) (by simp [h]) (by simp [hj]) hl hb.2))))
end

/-! ### size -/
mutual
def szE : Ex → Int
  | .mk o v m a => szEs a 1
def szEs : List Ex → Int → Int
  | [], s => s
  | x :: r, s => szEs r (IntKind.i64.wrap (s + szE x))
end
mutual
theorem e57 : ∀ v : Ex, Ev (fun n => s_f57 n v) (szE v)
  | .mk o v m a => by
    refine Ev.succ ?_
    simp only [s_f57, szE]
    exact e57s a o v m a 0 1 rfl
theorem e57s : ∀ (r : List Ex) (o : ByteArray) (v : Val) (m : Int) (t : List Ex) (j : Nat) (s : Int), t.drop j = r → Ev (fun n => s_f57_l1 n (.mk o v m t) s j) (szEs r s)
  | [], o, v, m, t, j, s, h => by
    refine Ev.succ ?_
    simp only [s_f57_l1, szEs, Ex.a]
    exact Ev.f (cj_f (drop_n h)) (Ev.mk _)
  | x :: r, o, v, m, t, j, s, h => by
    obtain ⟨hj, hx, hr⟩ := drop_c h
    refine Ev.succ ?_
    simp only [s_f57_l1, szEs, Ex.a]
    exact Ev.t (cj_t hj) (Ev.bindc hx (Ev.bind (e57 x) (e57s r o v m t (j + 1) _ hr)))
end

/-! ### the type of an expression -/
mutual
def ckE : Ex → Ty → Int → Ty × Int
  | .mk o v m a, ty, d =>
    bif arS o.data.toList == (-2) then (zT, 6) else bif decide (d > 12) then (zT, 9)
    else bif ((decide (arS o.data.toList ≥ 0)) && ((a.length : Int) != arS o.data.toList)) || ((decide (arS o.data.toList < 0)) && ((decide ((a.length : Int) < 1)) || (decide ((a.length : Int) > 8)))) then (zT, 1)
    else bif ((o.data.toList != [97, 116]) && (m != 0)) || ((o.data.toList != [108, 105, 116]) && (!(((((v.kind == 0) && (v.i == 0)) && (!v.b)) && (v.s.data.toList == [])) && ((v.t.length : Int) == 0)))) then (zT, 1)
    else bif o.data.toList == [108, 105, 116] then (bif ckV v 0 != 0 then (zT, ckV v 0) else (tyV v, 0))
    else bif o.data.toList == [120] then (ty, 0)
    else bif (ckEs a ty (d + 1)).2 != 0 then (zT, (ckEs a ty (d + 1)).2) else opTy o.data.toList m (ckEs a ty (d + 1)).1
def ckEs : List Ex → Ty → Int → List Ty × Int
  | [], _, _ => ([], 0)
  | e :: r, ty, d => bif (ckE e ty d).2 != 0 then ([], (ckE e ty d).2) else bif (ckEs r ty d).2 != 0 then ([], (ckEs r ty d).2) else ((ckE e ty d).1 :: (ckEs r ty d).1, 0)
end
theorem ckEs_length : ∀ (l : List Ex) (ty : Ty) (d : Int), (ckEs l ty d).2 = 0 → (ckEs l ty d).1.length = l.length
  | [], _, _, _ => rfl
  | e :: r, ty, d, h => by
    simp only [ckEs] at h ⊢
    cases h1 : (ckE e ty d).2 != 0 with
    | true => rw [h1] at h; simp only [cond_true] at h; simp [h] at h1
    | false =>
      rw [h1] at h
      simp only [cond_false] at h ⊢
      cases h2 : (ckEs r ty d).2 != 0 with
      | true => rw [h2] at h; simp only [cond_true] at h; simp [h] at h2
      | false => simp only [cond_false, List.length_cons, ckEs_length r ty d (by simpa using h2)]
/-- How many arguments ops have. -/
def arOk (o : List UInt8) (m : Nat) : Prop := (o = [97, 116] → 0 < m) ∧ (o = [101, 113] ∨ o = [108, 116] → 1 < m) ∧ (o = [105, 102] → 2 < m)
theorem arOk_of {o : List UInt8} {m : Nat} (h : (((decide (arS o ≥ 0)) && ((m : Int) != arS o)) || ((decide (arS o < 0)) && ((decide ((m : Int) < 1)) || (decide ((m : Int) > 8))))) = false) : arOk o m := by
  refine ⟨?_, ?_, ?_⟩
  · rintro rfl
    have e : arS [97, 116] = 1 := rfl
    rw [e] at h
    simp at h
    omega
  · rintro (rfl | rfl)
    · have e : arS [101, 113] = 2 := rfl
      rw [e] at h
      simp at h
      omega
    · have e : arS [108, 116] = 2 := rfl
      rw [e] at h
      simp at h
      omega
  · rintro rfl
    have e : arS [105, 102] = 3 := rfl
    rw [e] at h
    simp at h
    omega
mutual
theorem e58 : ∀ (e : Ex) (ty : Ty) (d : Int), 0 ≤ d → d ≤ 13 → BdE e → Ev (fun n => s_f58 n e ty d) (ckE e ty d)
  | .mk o v m a, ty, d, h0, h1, hb => by
    refine Ev.succ ?_
    simp only [s_f58, ckE, Ex.op, Ex.v, Ex.n, Ex.a]
    refine Ev.bind (e92 o) (Ev.if (fun _ => Ev.mk _) (fun _ => Ev.if (fun _ => Ev.mk _) (fun hd => Ev.if (fun _ => Ev.mk _) (fun har => Ev.if (fun _ => Ev.mk _) (fun _ => Ev.if (fun _ => Ev.bind (e34 v) (Ev.if (fun _ => Ev.mk _) (fun _ => Ev.bind (e21 v hb.2.1) (Ev.mk _)))) (fun _ => Ev.if (fun _ => Ev.mk _) (fun _ => ?_)))))))
    have hd : d ≤ 12 := by simpa using hd
    have := e58s a o v m a ty d [] 0 rfl rfl h0 hd (arOk_of har) hb.1 hb.2.2
    simpa using this
theorem e58s : ∀ (r : List Ex) (o : ByteArray) (v : Val) (m : Int) (a : List Ex) (ty : Ty) (d : Int) (acc : List Ty) (j : Nat), a.drop j = r → acc.length = j → 0 ≤ d → d ≤ 12 → arOk o.data.toList a.length → a.length ≤ 12 → BdEs r →
    Ev (fun n => s_f58_l1 n (.mk o v m a) ty d acc j) (bif (ckEs r ty (d + 1)).2 != 0 then (zT, (ckEs r ty (d + 1)).2) else opTy o.data.toList m (acc ++ (ckEs r ty (d + 1)).1))
  | [], o, v, m, a, ty, d, acc, j, h, hj, h0, h1, har, hl, hb => by
    refine Ev.succ ?_
    simp only [s_f58_l1, ckEs, Ex.a, Ex.op, Ex.n, List.append_nil]
    have hle := drop_n h
    refine Ev.f (cj_f hle) ?_
    show Ev _ (opTy o.data.toList m acc)
    exact Ev.bind (e94 o m acc (fun q => by have := har.1 q; omega) (fun q => by have := har.2.1 q; omega) (fun q => by have := har.2.2 q; omega)) (Ev.mk _)
  | x :: r, o, v, m, a, ty, d, acc, j, h, hj, h0, h1, har, hl, hb => by
    obtain ⟨hlt, hx, hr⟩ := drop_c h
    refine Ev.succ ?_
    simp only [s_f58_l1, ckEs, Ex.a]
    refine Ev.t (cj_t hlt) (Ev.bindc hx (Ev.bind (a := ckE x ty (d + 1)) ?_ ?_))
    · rw [w1 (by omega) (by omega)]
      exact e58 x ty (d + 1) (by omega) (by omega) hb.1
    · cases hc : (ckE x ty (d + 1)).2 != 0 with
      | true => simp only [cond_true, hc]; exact Ev.mk _
      | false =>
        simp only [cond_false]
        refine Ev.g (by omega) ((e58s r o v m a ty d (acc ++ [(ckE x ty (d + 1)).1]) (j + 1) hr (by simp [hj]) h0 h1 har hl hb.2).congr ?_)
        cases hq : (ckEs r ty (d + 1)).2 != 0 with
        | true => simp [hq]
        | false => simp
end
/-- CheckExpr. -/
def ckX (e : Ex) (ty : Ty) : Ty × Int := bif ckT ty 0 != 0 then (zT, 5) else bif decide (szE e > 256) then (zT, 10) else ckE e ty 0
theorem e20 (e : Ex) (ty : Ty) (hb : BdE e) : Ev (fun n => s_f20 n e ty) (ckX e ty) := by
  unfold s_f20 ckX
  exact Ev.bind (e56 ty) (Ev.if (fun _ => Ev.mk _) (fun _ => Ev.bind (e57 e) (Ev.if (fun _ => Ev.mk _) (fun _ => Ev.bind (e58 e ty 0 (by omega) (by omega) hb) (Ev.mk _)))))
end Go.Proofs.Ytbcjcekoonebiaa.Tl

set_option linter.unusedVariables false
set_option linter.unusedSimpArgs false
namespace Go.Proofs.Ytbcjcekoonebiaa.Tl
open Go Go.RowKit
theorem e26 (v : Val) (t : Ty) (h : BdV v) : Ev (fun n => s_f26 n v t) (bif ckV v 0 == 0 then sameT (tyV v) t else false) := by
  unfold s_f26
  exact Ev.bind (e34 v) (Ev.if (fun _ => Ev.bind (e21 v h) (Ev.ret (g := id) (e65 _ _))) (fun _ => Ev.mk _))

/-! ### values that may be, of a type -/
mutual
def lfV : Val → Prop
  | .mk k i b s t => (((decide (k < 1)) || (decide (k > 4))) = false) ∧ ((((((k != 1) && (i != 0)) || ((k != 2) && b)) || ((k != 3) && (s.data.toList != []))) || ((k != 4) && (decide ((t.length : Int) > 0)))) = false) ∧ s.size ≤ 255 ∧ lfVs t
def lfVs : List Val → Prop
  | [] => True
  | x :: r => lfV x ∧ lfVs r
end
mutual
theorem ckV_lf : ∀ (v : Val) (d : Int), ckV v d = 0 ↔ lfV v ∧ ckT (tyV v) d = 0
  | .mk k i b s t, d => by
    simp only [ckV, lfV, tyV, ckT, tyVs_length]
    cases h1 : (decide (k < 1)) || (decide (k > 4)) with
    | true => simp
    | false =>
      cases h2 : ((((k != 1) && (i != 0)) || ((k != 2) && b)) || ((k != 3) && (s.data.toList != []))) || ((k != 4) && (decide ((t.length : Int) > 0))) with
      | true => simp
      | false =>
        have h3 := (or_f h2).2
        simp only [h3, Bool.or_false, cond_false, true_and, Bool.false_or]
        by_cases h4 : s.size ≤ 255
        · rw [show decide ((s.size : Int) > 255) = false from decide_eq_false (by omega)]
          simp only [cond_false, h4, true_and]
          cases h5 : k != 4 with
          | true =>
            have h6 : t = [] := by
              rw [h5, Bool.true_and] at h3
              exact nil_of h3
            subst h6
            simp [lfVs]
          | false =>
            simp only [cond_false]
            cases h7 : (t.length : Int) == 0 with
            | true => simp
            | false =>
              simp only [cond_false]
              cases h8 : decide ((t.length : Int) > 8) with
              | true => simp
              | false =>
                simp only [cond_false]
                cases h9 : decide (d > 4) with
                | true => simp
                | false => simp only [cond_false]; exact ckVs_lf t (d + 1)
        · rw [show decide ((s.size : Int) > 255) = true from decide_eq_true (by omega)]
          simp [h4]
theorem ckVs_lf : ∀ (v : List Val) (d : Int), ckVs v d = 0 ↔ lfVs v ∧ ckTs (tyVs v) d = 0
  | [], d => by simp [ckVs, lfVs, tyVs, ckTs]
  | x :: r, d => by
    have h1 := ckV_lf x d
    have h2 := ckVs_lf r d
    simp only [ckVs, lfVs, tyVs, ckTs]
    by_cases h3 : ckV x d = 0
    · obtain ⟨h4, h5⟩ := h1.1 h3
      simp [h3, h5, h2, h4]
    · rw [show (ckV x d != 0) = true by simpa using h3]
      simp only [cond_true, h3, false_iff, not_and]
      rintro ⟨h4, _⟩
      have h5 : ckT (tyV x) d ≠ 0 := fun q => h3 (h1.2 ⟨h4, q⟩)
      rw [show (ckT (tyV x) d != 0) = true by simpa using h5]
      simpa using h5
end
mutual
theorem ckT_down : ∀ (t : Ty) (d : Int), ckT t (d + 1) = 0 → ckT t d = 0
  | .mk k l, d, h => by
    simp only [ckT] at h ⊢
    cases h1 : ((decide (k < 1)) || (decide (k > 4))) || ((k != 4) && (decide ((l.length : Int) > 0))) with
    | true => rw [h1] at h; simp at h
    | false =>
      rw [h1] at h
      simp only [cond_false] at h ⊢
      cases h2 : k != 4 with
      | true => rfl
      | false =>
        rw [h2] at h
        simp only [cond_false] at h ⊢
        cases h3 : (l.length : Int) == 0 with
        | true => rw [h3] at h; simp at h
        | false =>
          rw [h3] at h
          simp only [cond_false] at h ⊢
          cases h4 : decide ((l.length : Int) > 8) with
          | true => rw [h4] at h; simp at h
          | false =>
            rw [h4] at h
            simp only [cond_false] at h ⊢
            cases h5 : decide (d + 1 > 4) with
            | true => rw [h5] at h; simp at h
            | false =>
              rw [h5] at h
              simp only [cond_false] at h
              have h6 := of_decide_eq_false h5
              rw [show decide (d > 4) = false from decide_eq_false (by omega)]
              exact ckTs_down l (d + 1) h
theorem ckTs_down : ∀ (t : List Ty) (d : Int), ckTs t (d + 1) = 0 → ckTs t d = 0
  | [], d, h => rfl
  | x :: r, d, h => by
    simp only [ckTs] at h ⊢
    by_cases h1 : ckT x (d + 1) = 0
    · rw [h1] at h
      simp only [bne_self_eq_false, cond_false] at h
      rw [ckT_down x d h1]
      simp only [bne_self_eq_false, cond_false]
      exact ckTs_down r d h
    · rw [show (ckT x (d + 1) != 0) = true by simpa using h1] at h
      exact absurd h h1
end
theorem ckTs_get : ∀ {ts : List Ty} {d : Int} {j : Nat} {t : Ty}, ckTs ts d = 0 → ts[j]? = some t → ckT t d = 0
  | [], d, j, t, h, hj => by simp at hj
  | x :: r, d, j, t, h, hj => by
    simp only [ckTs] at h
    by_cases h1 : ckT x d = 0
    · rw [h1] at h
      simp only [bne_self_eq_false, cond_false] at h
      cases j with
      | zero => simp at hj; subst hj; exact h1
      | succ j => exact ckTs_get h (by simpa using hj)
    · rw [show (ckT x d != 0) = true by simpa using h1] at h
      exact absurd h h1
/-- A tuple's type: its parts are. -/
theorem ckT_tup {k : Int} {ts : List Ty} {d : Int} (hk : k = 4) (h : ckT (.mk k ts) d = 0) : ts ≠ [] ∧ ts.length ≤ 8 ∧ d ≤ 4 ∧ ckTs ts (d + 1) = 0 := by
  subst hk
  simp only [ckT] at h
  simp at h
  cases h3 : (ts.length : Int) == 0 with
  | true =>
    rw [h3] at h
    simp at h
  | false =>
    have hne : ts ≠ [] := by rintro rfl; simp at h3
    rw [h3] at h
    simp only [cond_false] at h
    cases h4 : decide (8 < (ts.length : Int)) with
    | true => rw [h4] at h; simp at h
    | false =>
      rw [h4] at h
      simp only [cond_false] at h
      have h4 := of_decide_eq_false h4
      cases h5 : decide (4 < d) with
      | true => rw [h5] at h; simp at h
      | false =>
        rw [h5] at h
        simp only [cond_false] at h
        exact ⟨hne, by omega, by have := of_decide_eq_false h5; omega, h⟩
mutual
theorem lf_bd : ∀ (v : Val) (d : Int), lfV v → ckT (tyV v) d = 0 → BdV v
  | .mk k i b s t, d, h, hc => by
    by_cases hk : k = 4
    · obtain ⟨h1, h2, h3, h4⟩ := ckT_tup hk hc
      rw [tyVs_length] at h2
      exact ⟨by omega, lfs_bd t (d + 1) h.2.2.2 h4⟩
    · have h3 := (or_f h.2.1).2
      rw [show (k != 4) = true by simpa using hk] at h3
      have h6 : t = [] := by
        rw [Bool.true_and] at h3
        exact nil_of h3
      subst h6
      exact ⟨by simp, trivial⟩
theorem lfs_bd : ∀ (v : List Val) (d : Int), lfVs v → ckTs (tyVs v) d = 0 → BdVs v
  | [], d, _, _ => trivial
  | x :: r, d, h, hc => by
    simp only [tyVs, ckTs] at hc
    by_cases h1 : ckT (tyV x) d = 0
    · rw [h1] at hc
      simp only [bne_self_eq_false, cond_false] at hc
      exact ⟨lf_bd x d h.1 h1, lfs_bd r d h.2 hc⟩
    · rw [show (ckT (tyV x) d != 0) = true by simpa using h1] at hc
      exact absurd hc h1
end
end Go.Proofs.Ytbcjcekoonebiaa.Tl

set_option linter.unusedVariables false
set_option linter.unusedSimpArgs false
namespace Go.Proofs.Ytbcjcekoonebiaa.Tl
open Go Go.RowKit
/-- A value of a type that may be. -/
def OKv (v : Val) (t : Ty) : Prop := lfV v ∧ tyV v = t ∧ ckT t 0 = 0
def OKvs : List Val → List Ty → Prop
  | [], [] => True
  | v :: vs, t :: ts => OKv v t ∧ OKvs vs ts
  | _, _ => False
theorem OKvs.len : ∀ {vs : List Val} {ts : List Ty}, OKvs vs ts → vs.length = ts.length
  | [], [], _ => rfl
  | [], _ :: _, h => by simp [OKvs] at h
  | _ :: _, [], h => by simp [OKvs] at h
  | v :: vs, t :: ts, h => by simp only [List.length_cons, OKvs.len h.2]
theorem OKvs.lf : ∀ {vs : List Val} {ts : List Ty}, OKvs vs ts → lfVs vs ∧ tyVs vs = ts
  | [], [], _ => ⟨trivial, rfl⟩
  | [], _ :: _, h => by simp [OKvs] at h
  | _ :: _, [], h => by simp [OKvs] at h
  | v :: vs, t :: ts, h => ⟨⟨h.1.1, (OKvs.lf h.2).1⟩, by simp only [tyVs, h.1.2.1, (OKvs.lf h.2).2]⟩
theorem OKv.bd {v : Val} {t : Ty} (h : OKv v t) : BdV v := lf_bd v 0 h.1 (by rw [h.2.1]; exact h.2.2)
theorem OKv.text {v : Val} {t : Ty} (h : OKv v t) : v.s.size ≤ 255 := by
  cases v; exact h.1.2.2.1
theorem ok_int (i : Int) : OKv (.mk 1 i false ⟨#[]⟩ []) (.mk 1 []) := ⟨⟨rfl, rfl, Nat.zero_le _, trivial⟩, rfl, rfl⟩
theorem ok_bool (b : Bool) : OKv (.mk 2 0 b ⟨#[]⟩ []) (.mk 2 []) := ⟨⟨rfl, rfl, Nat.zero_le _, trivial⟩, rfl, rfl⟩
theorem ok_text (s : ByteArray) (h : s.size ≤ 255) : OKv (.mk 3 0 false s []) (.mk 3 []) := ⟨by simp [lfV, lfVs, h], rfl, rfl⟩
theorem ok_plain {v : Val} {t : Ty} (h : OKv v t) (hk : t.kind ≠ 4) : t = .mk t.kind [] := by
  obtain ⟨h1, rfl, h2⟩ := h
  cases v with
  | mk k i b s l =>
    have hk : k ≠ 4 := hk
    have h3 := (or_f h1.2.1).2
    rw [show (k != 4) = true by simpa using hk, Bool.true_and] at h3
    have h6 : l = [] := nil_of h3
    subst h6
    rfl
theorem lfVs_get : ∀ {l : List Val} {j : Nat} {v : Val}, lfVs l → l[j]? = some v → lfV v
  | [], j, v, h, hj => by simp at hj
  | x :: r, j, v, h, hj => by
    cases j with
    | zero => simp at hj; subst hj; exact h.1
    | succ j => exact lfVs_get h.2 (by simpa using hj)
theorem tyVs_get : ∀ {l : List Val} {j : Nat}, (tyVs l)[j]? = (l[j]?).map tyV
  | [], j => by simp [tyVs]
  | x :: r, j => by
    cases j with
    | zero => simp [tyVs]
    | succ j => simp [tyVs, tyVs_get (l := r)]
/-- A tuple's part. -/
theorem ok_part {v : Val} {t : Ty} (h : OKv v t) (hk : t.kind = 4) {j : Nat} (hj : j < t.of.length) : ∃ w, v.t[j]? = some w ∧ OKv w (th t.of j) := by
  obtain ⟨h1, rfl, h2⟩ := h
  cases v with
  | mk k i b s l =>
    have hk : k = 4 := hk
    obtain ⟨_, _, _, h4⟩ := ckT_tup hk h2
    have hj : j < (tyVs l).length := hj
    have hg : (tyVs l)[j]? = some (th (tyVs l) j) := th_get hj
    have hg2 := hg
    rw [tyVs_get] at hg2
    simp only [Option.map_eq_some_iff] at hg2
    obtain ⟨w, hw, he⟩ := hg2
    exact ⟨w, hw, lfVs_get h1.2.2.2 hw, he, ckT_down _ 0 (ckTs_get h4 hg)⟩

/-- What is made of values. -/
theorem arS_cases {o : List UInt8} (h : arS o ≠ -2) : o = [108, 105, 116] ∨ o = [120] ∨ o = [97, 116] ∨ o = [110, 101, 103] ∨ o = [110, 111, 116] ∨ o = [108, 101, 110] ∨ o = [97, 100, 100] ∨ o = [115, 117, 98] ∨ o = [109, 117, 108] ∨ o = [100, 105, 118] ∨ o = [114, 101, 109] ∨ o = [101, 113] ∨ o = [108, 116] ∨ o = [97, 110, 100] ∨ o = [111, 114] ∨ o = [99, 97, 116] ∨ o = [105, 102] ∨ o = [116, 117, 112] := by
  apply Classical.byContradiction
  intro hn
  simp only [not_or] at hn
  apply h
  obtain ⟨h1, h2, h3, h4, h5, h6, h7, h8, h9, h10, h11, h12, h13, h14, h15, h16, h17, h18⟩ := hn
  simp only [arS, beq_false_of_ne h1, beq_false_of_ne h2, beq_false_of_ne h3, beq_false_of_ne h4, beq_false_of_ne h5, beq_false_of_ne h6, beq_false_of_ne h7, beq_false_of_ne h8, beq_false_of_ne h9, beq_false_of_ne h10, beq_false_of_ne h11, beq_false_of_ne h12, beq_false_of_ne h13, beq_false_of_ne h14, beq_false_of_ne h15, beq_false_of_ne h16, beq_false_of_ne h17, beq_false_of_ne h18, cond_false]

theorem two_of {ws : List Val} {ts : List Ty} (h : OKvs ws ts) (hl : ts.length = 2) : ∃ a b s t, ws = [a, b] ∧ ts = [s, t] ∧ OKv a s ∧ OKv b t := by
  rcases ts with _ | ⟨s, _ | ⟨t, _ | ⟨u, ts⟩⟩⟩ <;> simp at hl
  rcases ws with _ | ⟨a, _ | ⟨b, _ | ⟨c, ws⟩⟩⟩ <;> simp [OKvs] at h
  exact ⟨a, b, s, t, rfl, rfl, h.1, h.2⟩
theorem one_of {ws : List Val} {ts : List Ty} (h : OKvs ws ts) (hl : ts.length = 1) : ∃ a s, ws = [a] ∧ ts = [s] ∧ OKv a s := by
  rcases ts with _ | ⟨s, _ | ⟨u, ts⟩⟩ <;> simp at hl
  rcases ws with _ | ⟨a, _ | ⟨c, ws⟩⟩ <;> simp [OKvs] at h
  exact ⟨a, s, rfl, rfl, h⟩
theorem allK2 {k : Int} {s t r u : Ty} (h : allK k [s, t] r = (u, 0)) : s.kind = k ∧ t.kind = k ∧ u = r := by
  simp only [allK] at h
  cases h1 : s.kind != k with
  | true => rw [h1] at h; simp at h
  | false =>
    cases h2 : t.kind != k with
    | true => rw [h1, h2] at h; simp at h
    | false => rw [h1, h2] at h; simp at h; exact ⟨bne_f h1, bne_f h2, h.symm⟩
theorem allK1 {k : Int} {s r u : Ty} (h : allK k [s] r = (u, 0)) : s.kind = k ∧ u = r := by
  simp only [allK] at h
  cases h1 : s.kind != k with
  | true => rw [h1] at h; simp at h
  | false => rw [h1] at h; simp at h; exact ⟨bne_f h1, h.symm⟩

/-- The two ways come to the same, of a type. -/
def Made (op : ByteArray) (m : Int) (ws : List Val) (t : Ty) : Prop :=
  ∃ w h, applyS op m ws = some (w, h) ∧ Ev (fun n => s_f63 n op m ws) (w, h) ∧ (h = 0 → OKv w t) ∧ (h ≠ 0 → w = zeroV)

theorem made {op : ByteArray} {m : Int} {ws : List Val} {ts : List Ty} {t : Ty} (hw : OKvs ws ts) (har : arS op.data.toList ≠ -2)
    (hlen : (((decide (arS op.data.toList ≥ 0)) && ((ts.length : Int) != arS op.data.toList)) || ((decide (arS op.data.toList < 0)) && ((decide ((ts.length : Int) < 1)) || (decide ((ts.length : Int) > 8))))) = false)
    (h1 : op.data.toList ≠ [108, 105, 116]) (h2 : op.data.toList ≠ [120]) (h3 : op.data.toList ≠ [97, 110, 100]) (h4 : op.data.toList ≠ [111, 114]) (h5 : op.data.toList ≠ [105, 102]) (ht : opTy op.data.toList m ts = (t, 0)) : Made op m ws t := by
  have hl : ∀ c : Int, 0 ≤ c → arS op.data.toList = c → (ts.length : Int) = c := by
    intro c hc e
    rw [e] at hlen
    simp only [decide_eq_true (show c ≥ 0 from hc), decide_eq_false (show ¬ c < 0 by omega), Bool.true_and, Bool.false_and, Bool.or_false] at hlen
    exact bne_f hlen
  unfold Made applyS s_f63
  generalize hop : op.data.toList = o at *
  rcases arS_cases har with rfl | rfl | rfl | rfl | rfl | rfl | rfl | rfl | rfl | rfl | rfl | rfl | rfl | rfl | rfl | rfl | rfl | rfl
  · exact absurd rfl h1
  · exact absurd rfl h2
  · -- at
    obtain ⟨a, s, rfl, rfl, ha⟩ := one_of hw (by have := hl 1 (by omega) rfl; omega)
    have ht : (bif s.kind != 4 then (zT, (5 : Int)) else bif decide (m < 0) then (zT, (1 : Int)) else bif decide (m ≥ (s.of.length : Int)) then (zT, (1 : Int)) else (th s.of m.toNat, (0 : Int))) = (t, 0) := ht
    cases c1 : s.kind != 4 with
    | true => rw [c1] at ht; simp at ht
    | false =>
      cases c2 : decide (m < 0) with
      | true => rw [c1, c2] at ht; simp at ht
      | false =>
        cases c3 : decide (m ≥ (s.of.length : Int)) with
        | true => rw [c1, c2, c3] at ht; simp at ht
        | false =>
          rw [c1, c2, c3] at ht
          simp only [cond_false, Prod.mk.injEq, and_true] at ht
          have c2 := of_decide_eq_false c2
          have c3 := of_decide_eq_false c3
          obtain ⟨w, q1, q2⟩ := ok_part ha (bne_f c1) (j := m.toNat) (by omega)
          refine ⟨w, 0, ?_, ?_, fun _ => ht ▸ q2, fun q => absurd rfl q⟩
          · simp only [if_true, if_pos (show 0 ≤ m by omega), q1]
          · exact Ev.t rfl (Ev.bindc rfl (Ev.g (by omega) (Ev.bindc q1 (Ev.mk _))))
  · -- neg
    obtain ⟨a, s, rfl, rfl, ha⟩ := one_of hw (by have := hl 1 (by omega) rfl; omega)
    obtain ⟨_, rfl⟩ := allK1 (show allK 1 [s] (.mk 1 []) = (t, 0) from ht)
    exact ⟨_, 0, by simp [oneS, hop], Ev.bindc rfl (Ev.mk _), fun _ => ok_int _, fun q => absurd rfl q⟩
  · -- not
    obtain ⟨a, s, rfl, rfl, ha⟩ := one_of hw (by have := hl 1 (by omega) rfl; omega)
    obtain ⟨_, rfl⟩ := allK1 (show allK 2 [s] (.mk 2 []) = (t, 0) from ht)
    exact ⟨_, 0, by simp [oneS, hop], Ev.bindc rfl (Ev.mk _), fun _ => ok_bool _, fun q => absurd rfl q⟩
  · -- len
    obtain ⟨a, s, rfl, rfl, ha⟩ := one_of hw (by have := hl 1 (by omega) rfl; omega)
    obtain ⟨_, rfl⟩ := allK1 (show allK 3 [s] (.mk 1 []) = (t, 0) from ht)
    exact ⟨_, 0, by simp [oneS, hop], Ev.bindc rfl (Ev.mk _), fun _ => ok_int _, fun q => absurd rfl q⟩
  · -- add
    obtain ⟨a, b, s, s', rfl, rfl, ha, hb⟩ := two_of hw (by have := hl 2 (by omega) rfl; omega)
    obtain ⟨_, _, rfl⟩ := allK2 (show allK 1 [s, s'] (.mk 1 []) = (t, 0) from ht)
    exact ⟨_, 0, by simp [bothS, hop], Ev.bindc rfl (Ev.bindc rfl (Ev.mk _)), fun _ => ok_int _, fun q => absurd rfl q⟩
  · -- sub
    obtain ⟨a, b, s, s', rfl, rfl, ha, hb⟩ := two_of hw (by have := hl 2 (by omega) rfl; omega)
    obtain ⟨_, _, rfl⟩ := allK2 (show allK 1 [s, s'] (.mk 1 []) = (t, 0) from ht)
    exact ⟨_, 0, by simp [bothS, hop], Ev.bindc rfl (Ev.bindc rfl (Ev.mk _)), fun _ => ok_int _, fun q => absurd rfl q⟩
  · -- mul
    obtain ⟨a, b, s, s', rfl, rfl, ha, hb⟩ := two_of hw (by have := hl 2 (by omega) rfl; omega)
    obtain ⟨_, _, rfl⟩ := allK2 (show allK 1 [s, s'] (.mk 1 []) = (t, 0) from ht)
    exact ⟨_, 0, by simp [bothS, hop], Ev.bindc rfl (Ev.bindc rfl (Ev.mk _)), fun _ => ok_int _, fun q => absurd rfl q⟩
  · -- div
    obtain ⟨a, b, s, s', rfl, rfl, ha, hb⟩ := two_of hw (by have := hl 2 (by omega) rfl; omega)
    obtain ⟨_, _, rfl⟩ := allK2 (show allK 1 [s, s'] (.mk 1 []) = (t, 0) from ht)
    by_cases h0 : b.i = 0
    · exact ⟨zeroV, 8, by simp [bothS, hop, h0], Ev.bindc rfl (Ev.t (by simp [h0]) (Ev.mk _)), (fun q => by cases q), fun _ => rfl⟩
    · refine ⟨.mk 1 (W64 (a.i.tdiv b.i)) false ⟨#[]⟩ [], 0, by simp [bothS, hop, h0], ?_, fun _ => ok_int _, fun q => absurd rfl q⟩
      refine Ev.bindc rfl (Ev.f (by simpa using h0) (Ev.bindc rfl ?_))
      by_cases h6 : b.i = -1
      · refine Ev.t (by simp [h6]) (Ev.t rfl (Ev.bindc rfl ((Ev.mk _).congr ?_)))
        rw [h6, show a.i.tdiv (-1) = 0 - a.i by rw [Int.tdiv_neg, Int.tdiv_one]; omega]
      · exact Ev.f (by simpa using h6) (Ev.t rfl (Ev.bindc rfl (Ev.bindc rfl (Ev.g h0 (Ev.mk _)))))
  · -- rem
    obtain ⟨a, b, s, s', rfl, rfl, ha, hb⟩ := two_of hw (by have := hl 2 (by omega) rfl; omega)
    obtain ⟨_, _, rfl⟩ := allK2 (show allK 1 [s, s'] (.mk 1 []) = (t, 0) from ht)
    by_cases h0 : b.i = 0
    · exact ⟨zeroV, 8, by simp [bothS, hop, h0], Ev.bindc rfl (Ev.t (by simp [h0]) (Ev.mk _)), (fun q => by cases q), fun _ => rfl⟩
    · refine ⟨.mk 1 (a.i.tmod b.i) false ⟨#[]⟩ [], 0, by simp [bothS, hop, h0], ?_, fun _ => ok_int _, fun q => absurd rfl q⟩
      refine Ev.bindc rfl (Ev.f (by simpa using h0) (Ev.bindc rfl ?_))
      by_cases h6 : b.i = -1
      · refine Ev.t (by simp [h6]) (Ev.f rfl ((Ev.mk _).congr ?_))
        rw [h6, show a.i.tmod (-1) = 0 by rw [Int.tmod_neg, Int.tmod_one]]
      · exact Ev.f (by simpa using h6) (Ev.f rfl (Ev.bindc rfl (Ev.bindc rfl (Ev.g h0 (Ev.mk _)))))
  · -- eq
    obtain ⟨a, b, s, s', rfl, rfl, ha, hb⟩ := two_of hw (by have := hl 2 (by omega) rfl; omega)
    have ht : (bif !(sameT s s') then (zT, 5) else ((.mk 2 [] : Ty), (0 : Int))) = (t, 0) := ht
    cases c1 : !(sameT s s') with
    | true => rw [c1] at ht; simp at ht
    | false =>
      rw [c1] at ht
      simp at ht
      exact ⟨_, 0, by simp [bothS, hop], Ev.bindc rfl (Ev.bindc rfl (Ev.bind (e25 a b ha.bd) (Ev.mk _))), fun _ => ht ▸ ok_bool _, fun q => absurd rfl q⟩
  · -- lt
    obtain ⟨a, b, s, s', rfl, rfl, ha, hb⟩ := two_of hw (by have := hl 2 (by omega) rfl; omega)
    have ht : (bif !(sameT s s') then (zT, 5) else ((.mk 2 [] : Ty), (0 : Int))) = (t, 0) := ht
    cases c1 : !(sameT s s') with
    | true => rw [c1] at ht; simp at ht
    | false =>
      rw [c1] at ht
      simp at ht
      exact ⟨_, 0, by simp [bothS, hop], Ev.bindc rfl (Ev.bindc rfl (Ev.bind (e64 a b ha.bd) (Ev.mk _))), fun _ => ht ▸ ok_bool _, fun q => absurd rfl q⟩
  · exact absurd rfl h3
  · exact absurd rfl h4
  · -- cat
    obtain ⟨a, b, s, s', rfl, rfl, ha, hb⟩ := two_of hw (by have := hl 2 (by omega) rfl; omega)
    obtain ⟨_, _, rfl⟩ := allK2 (show allK 3 [s, s'] (.mk 3 []) = (t, 0) from ht)
    have l1 := ha.text
    have l2 := hb.text
    by_cases h6 : 255 < a.s.size + b.s.size
    · refine ⟨zeroV, 4, by simp [bothS, hop, h6]; omega, Ev.bindc rfl (Ev.bindc rfl (Ev.g (by omega) (Ev.t ?_ (Ev.mk _)))), (fun q => by cases q), fun _ => rfl⟩
      rw [ByteArray.size_append]; exact decide_eq_true (by omega)
    · refine ⟨.mk 3 0 false (a.s ++ b.s) [], 0, by simp [bothS, hop, h6]; omega, Ev.bindc rfl (Ev.bindc rfl (Ev.g (by omega) (Ev.f ?_ (Ev.mk _)))), fun _ => ok_text _ (by rw [ByteArray.size_append]; omega), fun q => absurd rfl q⟩
      rw [ByteArray.size_append]; exact decide_eq_false (by omega)
  · exact absurd rfl h5
  · -- tup
    have ht : (bif ckT (.mk 4 ts) 0 != 0 then (zT, 9) else ((.mk 4 ts : Ty), (0 : Int))) = (t, 0) := ht
    cases c1 : ckT (.mk 4 ts) 0 != 0 with
    | true => rw [c1] at ht; simp at ht
    | false =>
      rw [c1] at ht
      simp at ht
      subst ht
      have c1 := bne_f c1
      obtain ⟨q1, q2, _, _⟩ := ckT_tup rfl c1
      have ql := hw.len
      obtain ⟨q3, q4⟩ := hw.lf
      cases ws with
      | nil => have q5 : ts = [] := List.eq_nil_of_length_eq_zero (by simpa using ql.symm); exact absurd q5 q1
      | cons w ws =>
        refine ⟨.mk 4 0 false ⟨#[]⟩ (w :: ws), 0, ?_, Ev.f rfl (Ev.t rfl (Ev.g (by omega) (Ev.mk _))), fun _ => ⟨?_, by simp only [tyV, q4], c1⟩, fun q => absurd rfl q⟩
        · simp at ql
          simp
          omega
        · exact ⟨rfl, rfl, Nat.zero_le _, q3⟩
end Go.Proofs.Ytbcjcekoonebiaa.Tl

set_option linter.unusedVariables false
set_option linter.unusedSimpArgs false
namespace Go.Proofs.Ytbcjcekoonebiaa.Tl
open Go Go.RowKit
def s_f3 (n : Nat) (a0 : Ex) (a1 : Val) : Option Bool :=
  (bif (!true) then some false else ((s_f17 n a0).bind fun q2 => (bif (!q2) then some true else ((s_f18 n a1).bind fun q5 => (bif (!q5) then some true else ((s_f19 n a0).bind fun q8 => ((s_f22 n a1).bind fun q10 => ((s_f21 n q10).bind fun q12 => ((s_f20 n q8 q12).bind fun q14 => (bif (q14.2 != 0) then some true else ((evalS a0 a1).bind fun q17 => ((s_f22 n a1).bind fun q19 => ((s_f24 n q8 q19).bind fun q21 => (bif (q17.2 == q21.2) then ((s_f22 n q17.1).bind fun q24 => ((s_f25 n q24 q21.1).bind fun q26 => (bif q26 then (bif (q21.2 != 0) then some true else ((s_f22 n q17.1).bind fun q30 => ((s_f26 n q30 q14.1).bind fun q32 => some q32))) else some false))) else some false))))))))))))))

end Go.Proofs.Ytbcjcekoonebiaa.Tl

set_option linter.unusedVariables false
set_option linter.unusedSimpArgs false
namespace Go.Proofs.Ytbcjcekoonebiaa.Tl
open Go Go.RowKit
def Res (e : Ex) (x : Val) (t : Ty) : Prop := ∃ w h, evalS e x = some (w, h) ∧ Ev (fun n => s_f24 n e x) (w, h) ∧ (h = 0 → OKv w t) ∧ (h ≠ 0 → w = zeroV)
def Ress : List Ex → Val → List Ty → Prop
  | [], _, [] => True
  | e :: r, x, t :: ts => Res e x t ∧ Ress r x ts
  | _, _, _ => False
theorem Ress.len : ∀ {l : List Ex} {x : Val} {ts : List Ty}, Ress l x ts → l.length = ts.length
  | [], _, [], _ => rfl
  | [], _, _ :: _, h => by simp [Ress] at h
  | _ :: _, _, [], h => by simp [Ress] at h
  | _ :: _, _, _ :: _, h => by simp only [List.length_cons, Ress.len h.2]

theorem loopR (op : ByteArray) (v : Val) (m : Int) (a : List Ex) (x : Val) (ha : a.length ≤ 1000) : ∀ (r : List Ex) (rt : List Ty) (acc : List Val) (j : Nat), a.drop j = r → acc.length = j → Ress r x rt →
    ∃ ws g, allS r x = some (ws, g) ∧ (g = 0 → OKvs ws rt) ∧ ∀ M : Val × Int, (g = 0 → Ev (fun n => s_f63 n op m (acc ++ ws)) M) → Ev (fun n => s_f24_l1 n (.mk op v m a) x acc j) (if g = 0 then M else (zeroV, g))
  | [], [], acc, j, h, hj, hr => by
    refine ⟨[], 0, rfl, fun _ => trivial, fun M hM => Ev.succ ?_⟩
    have hM := hM rfl
    rw [List.append_nil] at hM
    simp only [s_f24_l1, Ex.a, Ex.op, Ex.n, if_true]
    exact Ev.f (cj_f (drop_n h)) (Ev.bind hM (Ev.mk _))
  | [], _ :: _, acc, j, h, hj, hr => by simp [Ress] at hr
  | _ :: _, [], acc, j, h, hj, hr => by simp [Ress] at hr
  | e :: r, t :: rt, acc, j, h, hj, hr => by
    obtain ⟨hlt, hx, hd⟩ := drop_c h
    obtain ⟨⟨w, f, h1, h2, h3, h4⟩, hr⟩ := hr
    obtain ⟨ws, g, k1, k2, k3⟩ := loopR op v m a x ha r rt (acc ++ [w]) (j + 1) hd (by simp [hj]) hr
    by_cases hf : f = 0
    · subst hf
      by_cases hg : g = 0
      · subst hg
        refine ⟨w :: ws, 0, by simp [allS, h1, k1], fun _ => ⟨h3 rfl, k2 rfl⟩, fun M hM => Ev.succ ?_⟩
        have hk := k3 M (fun _ => by simpa using hM rfl)
        simp only [s_f24_l1, Ex.a]
        exact Ev.t (cj_t hlt) (Ev.bindc hx (Ev.bind h2 (Ev.f rfl (Ev.g (by omega) hk))))
      · refine ⟨[], g, by simp [allS, h1, k1, hg], fun q => absurd q hg, fun M hM => Ev.succ ?_⟩
        have hk := k3 M (fun q => absurd q hg)
        simp only [s_f24_l1, Ex.a]
        exact Ev.t (cj_t hlt) (Ev.bindc hx (Ev.bind h2 (Ev.f rfl (Ev.g (by omega) hk))))
    · refine ⟨[], f, by simp [allS, h1, hf], fun q => absurd q hf, fun M hM => Ev.succ ?_⟩
      simp only [s_f24_l1, Ex.a, if_neg hf]
      exact Ev.t (cj_t hlt) (Ev.bindc hx (Ev.bind h2 (Ev.t (by simpa using hf) (Ev.mk _))))

theorem bif_zt {c : Bool} {e : Int} {p : Ty × Int} {t : Ty} (h : (bif c then (zT, e) else p) = (t, 0)) (he : e ≠ 0) : c = false ∧ p = (t, 0) := by
  cases c with
  | true => simp only [cond_true, Prod.mk.injEq] at h; exact absurd h.2 he
  | false => exact ⟨rfl, h⟩

/-- What may look at the first alone. -/
theorem lazy {op : ByteArray} {v : Val} {m : Int} {a : List Ex} {x : Val} {ts : List Ty} {t : Ty} (hop : op.data.toList = [97, 110, 100] ∨ op.data.toList = [111, 114] ∨ op.data.toList = [105, 102]) (hr : Ress a x ts)
    (hlen : (((decide (arS op.data.toList ≥ 0)) && ((a.length : Int) != arS op.data.toList)) || ((decide (arS op.data.toList < 0)) && ((decide ((a.length : Int) < 1)) || (decide ((a.length : Int) > 8))))) = false) (ht : opTy op.data.toList m ts = (t, 0)) : Res (.mk op v m a) x t := by
  have hal : ∀ c : Int, 0 ≤ c → arS op.data.toList = c → (a.length : Int) = c := by
    intro c hc e
    rw [e] at hlen
    simp only [decide_eq_true (show c ≥ 0 from hc), decide_eq_false (show ¬ c < 0 by omega), Bool.true_and, Bool.false_and, Bool.or_false] at hlen
    exact bne_f hlen
  have hl2 := hr.len
  rcases hop with hop | hop | hop
  · have h2 := hal 2 (by omega) (by rw [hop]; rfl)
    rw [hop] at ht
    rcases a with _ | ⟨e0, _ | ⟨e1, _ | ⟨e2, a⟩⟩⟩ <;> simp at h2
    · rcases ts with _ | ⟨t0, _ | ⟨t1, _ | ⟨t2, ts⟩⟩⟩ <;> simp at hl2
      obtain ⟨⟨w, f, q1, q2, q3, q4⟩, ⟨w', f', r1, r2, r3, r4⟩, _⟩ := hr
      obtain ⟨c1, c2, rfl⟩ := allK2 (show allK 2 [t0, t1] (.mk 2 []) = (t, 0) from ht)
      by_cases hf : f = 0
      · subst hf
        have q3 := q3 rfl
        have ht0 := ok_plain q3 (by omega)
        rw [c1] at ht0
        cases hb : w.b with
        | true =>
          refine ⟨w', f', ?_, Ev.succ ?_, fun q => ?_, r4⟩
          · simp [evalS, hop, isLazy, nthS, q1, chooseS, hb, r1]
          · simp only [s_f24, Ex.op, Ex.a, hop]
            exact Ev.f rfl (Ev.f rfl (Ev.bindc rfl (Ev.bind q2 (Ev.f rfl (Ev.t rfl (Ev.f (by simp [hb]) (Ev.bindc rfl (Ev.bind r2 (Ev.mk _)))))))))
          · have := r3 q
            rw [ok_plain this (by omega), c2] at this
            exact this
        | false =>
          refine ⟨w, 0, ?_, Ev.succ ?_, fun q => ht0 ▸ q3, fun q => absurd rfl q⟩
          · simp [evalS, hop, isLazy, nthS, q1, chooseS, hb]
          · simp only [s_f24, Ex.op, Ex.a, hop]
            exact Ev.f rfl (Ev.f rfl (Ev.bindc rfl (Ev.bind q2 (Ev.f rfl (Ev.t rfl (Ev.t (by simp [hb]) (Ev.mk _)))))))
      · have q4 := q4 hf
        subst q4
        refine ⟨zeroV, f, ?_, Ev.succ ?_, fun q => absurd q hf, fun _ => rfl⟩
        · simp [evalS, hop, isLazy, nthS, q1, hf]
        · simp only [s_f24, Ex.op, Ex.a, hop]
          exact Ev.f rfl (Ev.f rfl (Ev.bindc rfl (Ev.bind q2 (Ev.t (by simpa using hf) (Ev.mk _)))))
    · omega
  · have h2 := hal 2 (by omega) (by rw [hop]; rfl)
    rw [hop] at ht
    rcases a with _ | ⟨e0, _ | ⟨e1, _ | ⟨e2, a⟩⟩⟩ <;> simp at h2
    · rcases ts with _ | ⟨t0, _ | ⟨t1, _ | ⟨t2, ts⟩⟩⟩ <;> simp at hl2
      obtain ⟨⟨w, f, q1, q2, q3, q4⟩, ⟨w', f', r1, r2, r3, r4⟩, _⟩ := hr
      obtain ⟨c1, c2, rfl⟩ := allK2 (show allK 2 [t0, t1] (.mk 2 []) = (t, 0) from ht)
      by_cases hf : f = 0
      · subst hf
        have q3 := q3 rfl
        have ht0 := ok_plain q3 (by omega)
        rw [c1] at ht0
        cases hb : w.b with
        | false =>
          refine ⟨w', f', ?_, Ev.succ ?_, fun q => ?_, r4⟩
          · simp [evalS, hop, isLazy, nthS, q1, chooseS, hb, r1]
          · simp only [s_f24, Ex.op, Ex.a, hop]
            exact Ev.f rfl (Ev.f rfl (Ev.bindc rfl (Ev.bind q2 (Ev.f rfl (Ev.f rfl (Ev.t rfl (Ev.f hb (Ev.bindc rfl (Ev.bind r2 (Ev.mk _))))))))))
          · have := r3 q
            rw [ok_plain this (by omega), c2] at this
            exact this
        | true =>
          refine ⟨w, 0, ?_, Ev.succ ?_, fun q => ht0 ▸ q3, fun q => absurd rfl q⟩
          · simp [evalS, hop, isLazy, nthS, q1, chooseS, hb]
          · simp only [s_f24, Ex.op, Ex.a, hop]
            exact Ev.f rfl (Ev.f rfl (Ev.bindc rfl (Ev.bind q2 (Ev.f rfl (Ev.f rfl (Ev.t rfl (Ev.t hb (Ev.mk _))))))))
      · have q4 := q4 hf
        subst q4
        refine ⟨zeroV, f, ?_, Ev.succ ?_, fun q => absurd q hf, fun _ => rfl⟩
        · simp [evalS, hop, isLazy, nthS, q1, hf]
        · simp only [s_f24, Ex.op, Ex.a, hop]
          exact Ev.f rfl (Ev.f rfl (Ev.bindc rfl (Ev.bind q2 (Ev.t (by simpa using hf) (Ev.mk _)))))
    · omega
  · have h2 := hal 3 (by omega) (by rw [hop]; rfl)
    rw [hop] at ht
    rcases a with _ | ⟨e0, _ | ⟨e1, _ | ⟨e2, _ | ⟨e3, a⟩⟩⟩⟩ <;> simp at h2
    · rcases ts with _ | ⟨t0, _ | ⟨t1, _ | ⟨t2, _ | ⟨t3, ts⟩⟩⟩⟩ <;> simp at hl2
      obtain ⟨⟨w, f, q1, q2, q3, q4⟩, ⟨w', f', r1, r2, r3, r4⟩, ⟨w2, f2, p1, p2, p3, p4⟩, _⟩ := hr
      have ht : (bif t0.kind != 2 then (zT, (5 : Int)) else bif !(sameT t1 t2) then (zT, (5 : Int)) else (t1, (0 : Int))) = (t, 0) := ht
      obtain ⟨c1, ht⟩ := bif_zt ht (by omega)
      obtain ⟨c2, ht⟩ := bif_zt ht (by omega)
      simp only [Prod.mk.injEq, and_true] at ht
      subst ht
      have c2 := (sameT_eq t1 t2).1 (by simpa using c2)
      by_cases hf : f = 0
      · subst hf
        cases hb : w.b with
        | true =>
          refine ⟨w', f', ?_, Ev.succ ?_, r3, r4⟩
          · simp [evalS, hop, isLazy, nthS, q1, chooseS, hb, r1]
          · simp only [s_f24, Ex.op, Ex.a, hop]
            exact Ev.f rfl (Ev.f rfl (Ev.bindc rfl (Ev.bind q2 (Ev.f rfl (Ev.f rfl (Ev.f rfl (Ev.t rfl (Ev.t hb (Ev.bindc rfl (Ev.bind r2 (Ev.mk _)))))))))))
        | false =>
          refine ⟨w2, f2, ?_, Ev.succ ?_, fun q => c2 ▸ p3 q, p4⟩
          · simp [evalS, hop, isLazy, nthS, q1, chooseS, hb, p1]
          · simp only [s_f24, Ex.op, Ex.a, hop]
            exact Ev.f rfl (Ev.f rfl (Ev.bindc rfl (Ev.bind q2 (Ev.f rfl (Ev.f rfl (Ev.f rfl (Ev.t rfl (Ev.f hb (Ev.bindc rfl (Ev.bind p2 (Ev.mk _)))))))))))
      · have q4 := q4 hf
        subst q4
        refine ⟨zeroV, f, ?_, Ev.succ ?_, fun q => absurd q hf, fun _ => rfl⟩
        · simp [evalS, hop, isLazy, nthS, q1, hf]
        · simp only [s_f24, Ex.op, Ex.a, hop]
          exact Ev.f rfl (Ev.f rfl (Ev.bindc rfl (Ev.bind q2 (Ev.t (by simpa using hf) (Ev.mk _)))))
    · omega

theorem eager {op : ByteArray} {v : Val} {m : Int} {a : List Ex} {x : Val} {ts : List Ty} {t : Ty} (h1 : op.data.toList ≠ [108, 105, 116]) (h2 : op.data.toList ≠ [120]) (h3 : op.data.toList ≠ [97, 110, 100]) (h4 : op.data.toList ≠ [111, 114]) (h5 : op.data.toList ≠ [105, 102]) (har : arS op.data.toList ≠ -2)
    (hr : Ress a x ts) (ha : a.length ≤ 12)
    (hlen : (((decide (arS op.data.toList ≥ 0)) && ((a.length : Int) != arS op.data.toList)) || ((decide (arS op.data.toList < 0)) && ((decide ((a.length : Int) < 1)) || (decide ((a.length : Int) > 8))))) = false) (ht : opTy op.data.toList m ts = (t, 0)) : Res (.mk op v m a) x t := by
  have hz : isLazy op = false := by
    simp only [isLazy, beq_false_of_ne h3, beq_false_of_ne h4, beq_false_of_ne h5, Bool.or_self]
  have hl2 := hr.len
  have hne : a ≠ [] := by
    rintro rfl
    rcases arS_cases har with q | q | q | q | q | q | q | q | q | q | q | q | q | q | q | q | q | q
    all_goals first
      | (exact absurd q h1) | (exact absurd q h2)
      | (rw [q] at hlen; exact absurd hlen (by decide))
  cases a with
  | nil => exact absurd rfl hne
  | cons e0 r =>
    cases ts with
    | nil => simp at hl2
    | cons t0 rt =>
      obtain ⟨⟨w, f, q1, q2, q3, q4⟩, hr'⟩ := hr
      obtain ⟨ws, g, k1, k2, k3⟩ := loopR op v m (e0 :: r) x (by omega) r rt [w] 1 rfl rfl hr'
      have c1 := beq_false_of_ne h1
      have c2 := beq_false_of_ne h2
      have c3 := beq_false_of_ne h3
      have c4 := beq_false_of_ne h4
      have c5 := beq_false_of_ne h5
      by_cases hf : f = 0
      · subst hf
        by_cases hg : g = 0
        · subst hg
          obtain ⟨w2, f2, m1, m2, m3, m4⟩ := made (op := op) (m := m) (ws := w :: ws) (ts := t0 :: rt) ⟨q3 rfl, k2 rfl⟩ har (by rw [← hl2]; exact hlen) h1 h2 h3 h4 h5 ht
          refine ⟨w2, f2, ?_, Ev.succ ?_, m3, m4⟩
          · simp only [evalS, if_neg h1, if_neg h2, hz, Bool.false_eq_true, if_false]
            rw [if_pos (by omega)]
            simp only [allS, q1, if_true, k1]
            exact m1
          · simp only [s_f24, Ex.op, Ex.a]
            exact Ev.f c1 (Ev.f c2 (Ev.bindc rfl (Ev.bind q2 (Ev.f rfl (Ev.f c3 (Ev.f c4 (Ev.f c5 (by simpa using k3 (w2, f2) (fun _ => m2)))))))))
        · refine ⟨zeroV, g, ?_, Ev.succ ?_, fun q => absurd q hg, fun _ => rfl⟩
          · simp only [evalS, if_neg h1, if_neg h2, hz, Bool.false_eq_true, if_false]
            rw [if_pos (by omega)]
            simp only [allS, q1, if_true, k1, if_neg hg]
          · simp only [s_f24, Ex.op, Ex.a]
            exact Ev.f c1 (Ev.f c2 (Ev.bindc rfl (Ev.bind q2 (Ev.f rfl (Ev.f c3 (Ev.f c4 (Ev.f c5 (by simpa [hg] using k3 (zeroV, 0) (fun q => absurd q hg)))))))))
      · refine ⟨zeroV, f, ?_, Ev.succ ?_, fun q => absurd q hf, fun _ => rfl⟩
        · simp only [evalS, if_neg h1, if_neg h2, hz, Bool.false_eq_true, if_false]
          rw [if_pos (by omega)]
          simp only [allS, q1, if_neg hf]
        · simp only [s_f24, Ex.op, Ex.a]
          exact Ev.f c1 (Ev.f c2 (Ev.bindc rfl (Ev.bind q2 (Ev.t (by simpa using hf) (Ev.mk _)))))

mutual
theorem sound : ∀ (e : Ex) (ty : Ty) (d : Int) (t : Ty) (x : Val), BdE e → OKv x ty → ckE e ty d = (t, 0) → Res e x t
  | .mk o v m a, ty, d, t, x, hb, hx, h => by
    simp only [ckE] at h
    obtain ⟨c1, h⟩ := bif_zt h (by omega)
    obtain ⟨c2, h⟩ := bif_zt h (by omega)
    obtain ⟨c3, h⟩ := bif_zt h (by omega)
    obtain ⟨c4, h⟩ := bif_zt h (by omega)
    have har : arS o.data.toList ≠ -2 := by simpa using c1
    by_cases h1 : o.data.toList = [108, 105, 116]
    · rw [show (o.data.toList == [108, 105, 116]) = true by simpa using h1] at h
      simp only [cond_true] at h
      by_cases hv : ckV v 0 = 0
      · rw [hv] at h
        simp at h
        subst h
        obtain ⟨q1, q2⟩ := (ckV_lf v 0).1 hv
        refine ⟨v, 0, by simp [evalS, h1], Ev.succ ?_, fun _ => ⟨q1, rfl, q2⟩, fun q => absurd rfl q⟩
        simp only [s_f24, Ex.op, Ex.v]
        exact Ev.t (by simpa using h1) (Ev.mk _)
      · rw [show (ckV v 0 != 0) = true by simpa using hv] at h
        simp only [cond_true, Prod.mk.injEq] at h
        exact absurd h.2 hv
    · rw [show (o.data.toList == [108, 105, 116]) = false from beq_false_of_ne h1] at h
      simp only [cond_false] at h
      by_cases h2 : o.data.toList = [120]
      · rw [show (o.data.toList == [120]) = true by simpa using h2] at h
        simp only [cond_true, Prod.mk.injEq, and_true] at h
        subst h
        refine ⟨x, 0, by simp [evalS, h2], Ev.succ ?_, fun _ => hx, fun q => absurd rfl q⟩
        simp only [s_f24, Ex.op]
        exact Ev.f (beq_false_of_ne h1) (Ev.t (by simpa using h2) (Ev.mk _))
      · rw [show (o.data.toList == [120]) = false from beq_false_of_ne h2] at h
        simp only [cond_false] at h
        by_cases hp : (ckEs a ty (d + 1)).2 = 0
        · rw [hp] at h
          simp only [bne_self_eq_false, cond_false] at h
          have hr := sounds a ty (d + 1) x hb.2.2 hx hp
          by_cases hop : o.data.toList = [97, 110, 100] ∨ o.data.toList = [111, 114] ∨ o.data.toList = [105, 102]
          · exact lazy hop hr c3 h
          · simp only [not_or] at hop
            exact eager h1 h2 hop.1 hop.2.1 hop.2.2 har hr hb.1 c3 h
        · rw [show ((ckEs a ty (d + 1)).2 != 0) = true by simpa using hp] at h
          simp only [cond_true, Prod.mk.injEq] at h
          exact absurd h.2 hp
theorem sounds : ∀ (l : List Ex) (ty : Ty) (d : Int) (x : Val), BdEs l → OKv x ty → (ckEs l ty d).2 = 0 → Ress l x (ckEs l ty d).1
  | [], ty, d, x, hb, hx, h => trivial
  | e :: r, ty, d, x, hb, hx, h => by
    simp only [ckEs] at h ⊢
    by_cases h1 : (ckE e ty d).2 = 0
    · rw [h1] at h ⊢
      simp only [bne_self_eq_false, cond_false] at h ⊢
      by_cases h2 : (ckEs r ty d).2 = 0
      · rw [h2]
        simp only [bne_self_eq_false, cond_false]
        exact ⟨sound e ty d _ x hb.1 hx (by rw [← h1]), sounds r ty d x hb.2 hx h2⟩
      · rw [show ((ckEs r ty d).2 != 0) = true by simpa using h2] at h
        exact absurd h h2
    · rw [show ((ckE e ty d).2 != 0) = true by simpa using h1] at h
      exact absurd h h1
end

theorem s3 (e : Ex) (x : Val) : Ev (fun n => s_f3 n e x) true := by
  unfold s_f3
  refine Ev.f rfl ?_
  rcases e17 e with ⟨hbe, hf⟩ | hf
  · refine Ev.bind hf (Ev.f rfl ?_)
    rcases e18 x with ⟨hbx, hcx, hg⟩ | hg
    · refine Ev.bind hg (Ev.f rfl (Ev.bind (e19 e hbe) (Ev.bind (e22 x hbx) (Ev.bind (e21 x hbx) (Ev.bind (e20 e (tyV x) hbe) ?_)))))
      cases hq : (ckX e (tyV x)).2 != 0 with
      | true => exact Ev.t rfl (Ev.mk _)
      | false =>
        refine Ev.f rfl ?_
        have hq := bne_f hq
        obtain ⟨l1, l2⟩ := (ckV_lf x 0).1 hcx
        have hx : OKv x (tyV x) := ⟨l1, rfl, l2⟩
        have hE : ckE e (tyV x) 0 = ((ckX e (tyV x)).1, 0) := by
          have h0 : ckX e (tyV x) = ((ckX e (tyV x)).1, 0) := by rw [← hq]
          generalize (ckX e (tyV x)).1 = t at h0 ⊢
          unfold ckX at h0
          obtain ⟨_, h0⟩ := bif_zt h0 (by omega)
          obtain ⟨_, h0⟩ := bif_zt h0 (by omega)
          exact h0
        obtain ⟨w, f, q1, q2, q3, q4⟩ := sound e (tyV x) 0 _ x hbe hx hE
        have hbw : BdV w := by
          by_cases hf0 : f = 0
          · exact (q3 hf0).bd
          · rw [q4 hf0]; exact ⟨Nat.zero_le _, trivial⟩
        refine Ev.bindc q1 (Ev.bind (e22 x hbx) (Ev.bind q2 (Ev.t (by simp) (Ev.bind (e22 w hbw) (Ev.bind (e25 w w hbw) (Ev.t (by simp [cmpV_self]) ?_))))))
        cases hf0 : f != 0 with
        | true => exact Ev.t rfl (Ev.mk _)
        | false =>
          have hok := q3 (bne_f hf0)
          refine Ev.f rfl (Ev.bind (e22 w hbw) ?_)
          have h26 := e26 w (ckX e (tyV x)).1 hbw
          have hc0 : ckV w 0 = 0 := (ckV_lf w 0).2 ⟨hok.1, by rw [hok.2.1]; exact hok.2.2⟩
          rw [hc0, (sameT_eq _ _).2 hok.2.1] at h26
          exact Ev.bind h26 (Ev.mk _)
    · exact Ev.bind hg (Ev.t rfl (Ev.mk _))
  · exact Ev.bind hf (Ev.t rfl (Ev.mk _))
end Go.Proofs.Ytbcjcekoonebiaa.Tl

set_option linter.unusedVariables false
set_option linter.unusedSimpArgs false
namespace Go.Proofs.Ytbcjcekoonebiaa.Tl
open Go Go.RowKit
/-! ### what is made anew is as it was -/
mutual
theorem e85 : ∀ v : Val, BdV v → Ev (fun n => s_f85 n v) v
  | .mk k i b s t, h => by
    refine Ev.succ ?_
    simp only [s_f85]
    exact e85s t k i b s t 0 [] rfl rfl h.1 h.2
theorem e85s : ∀ (r : List Val) (k i : Int) (b : Bool) (s : ByteArray) (t : List Val) (j : Nat) (acc : List Val), acc ++ r = t → acc.length = j → t.length ≤ 20 → BdVs r → Ev (fun n => s_f85_l1 n (.mk k i b s t) j acc) (.mk k i b s t)
  | [], k, i, b, s, t, j, acc, h, hj, hl, hb => by
    refine Ev.succ ?_
    subst hj
    simp only [List.append_nil] at h
    subst h
    simp only [s_f85_l1, Val.kind, Val.i, Val.b, Val.s, Val.t]
    exact Ev.f (cj_f (Nat.le_refl _)) (Ev.mk _)
  | x :: r, k, i, b, s, t, j, acc, h, hj, hl, hb => by
    refine Ev.succ ?_
    have hx : t[j]? = some x := by subst h hj; simp
    have hlt : j < t.length := (List.getElem?_eq_some_iff.1 hx).1
    simp only [s_f85_l1, Val.t]
    exact Ev.t (cj_t hlt) (Ev.bindc hx (Ev.bind (e85 x hb.1) (Ev.g (by omega) (e85s r k i b s t (j + 1) (acc ++ [x]) (by simp [h]) (by simp [hj]) hl hb.2))))
end
theorem GInst.eta (x : GInst) : GInst.mk x.f0 x.f1 x.f2 = x := by cases x; rfl
theorem e51l (p : List GInst) (hp : p.length ≤ 1000000) (hb : ∀ i ∈ p, BdV i.f1) : ∀ (r acc : List GInst) (j : Nat), acc ++ r = p → acc.length = j → Ev (fun n => s_f51_l1 n p acc j) p
  | [], acc, j, h, hj => by
    refine Ev.succ ?_
    subst hj
    simp only [List.append_nil] at h
    subst h
    simp only [s_f51_l1]
    exact Ev.f (cj_f (Nat.le_refl _)) (Ev.mk _)
  | x :: r, acc, j, h, hj => by
    refine Ev.succ ?_
    have hx : p[j]? = some x := by subst h hj; simp
    have hlt : j < p.length := (List.getElem?_eq_some_iff.1 hx).1
    have hm : x ∈ p := by rw [← h]; simp
    simp only [s_f51_l1]
    refine Ev.t (cj_t hlt) (Ev.bindc hx (Ev.bindc hx (Ev.bind (e85 _ (hb x hm)) (Ev.bindc hx (Ev.g (by omega) ?_)))))
    rw [GInst.eta]
    exact e51l p hp hb r (acc ++ [x]) (j + 1) (by simp [h]) (by simp [hj])
theorem e51 (p : List GInst) (hp : p.length ≤ 1000000) (hb : ∀ i ∈ p, BdV i.f1) : Ev (fun n => s_f51 n p) p := by
  unfold s_f51
  exact e51l p hp hb p [] 0 rfl rfl

/-! ### programs put together -/
def isJ (i : GInst) : Bool := (i.f0.data.toList == [106, 109, 112]) || (i.f0.data.toList == [106, 102])
def mvI (k : Int) (i : GInst) : GInst := bif isJ i then GInst.mk i.f0 i.f1 (IntKind.i64.wrap (i.f2 + k)) else i
def mvP (k : Int) (p : List GInst) : List GInst := p.map (mvI k)
def joinP (p q : List GInst) : List GInst := p ++ mvP (p.length : Int) q
theorem mvP_length (k : Int) (p : List GInst) : (mvP k p).length = p.length := by simp [mvP]
theorem joinP_length (p q : List GInst) : (joinP p q).length = p.length + q.length := by simp [joinP, mvP]
theorem e120l (p : List GInst) (k : Int) (hp : p.length ≤ 1000000) : ∀ (r acc : List GInst) (j : Nat), p.drop j = r → acc.length = j → Ev (fun n => s_f120_l1 n p k acc j) (acc ++ mvP k r)
  | [], acc, j, h, hj => by
    refine Ev.succ ?_
    simp only [s_f120_l1]
    exact Ev.f (cj_f (drop_n h)) ((Ev.mk _).congr (by simp [mvP]))
  | x :: r, acc, j, h, hj => by
    obtain ⟨h1, h2, h3⟩ := drop_c h
    refine Ev.succ ?_
    simp only [s_f120_l1]
    refine Ev.t (cj_t h1) (Ev.bindc h2 ?_)
    have h4 := e120l p k hp r (acc ++ [mvI k x]) (j + 1) h3 (by simp [hj])
    have h5 : Ev (fun n => s_f120_l1 n p k (acc ++ [mvI k x]) (j + 1)) (acc ++ mvP k (x :: r)) := Ev.congr h4 (by simp [mvP])
    cases hc : isJ x with
    | true =>
      simp only [mvI, hc, cond_true] at h5
      exact Ev.t hc (Ev.g (by omega) h5)
    | false =>
      simp only [mvI, hc, cond_false] at h5
      exact Ev.f hc (Ev.g (by omega) h5)
theorem e120 (p : List GInst) (k : Int) (hp : p.length ≤ 1000000) : Ev (fun n => s_f120 n p k) (mvP k p) := by
  unfold s_f120
  have := e120l p k hp p [] 0 rfl rfl
  simpa using this
theorem e89 (p q : List GInst) (h : p.length + q.length ≤ 1000000) : Ev (fun n => s_f89 n p q) (joinP p q) := by
  unfold s_f89
  exact Ev.g (by omega) (Ev.bind (e120 q _ (by omega)) (Ev.g (by rw [mvP_length]; omega) (Ev.mk _)))
abbrev jfI (k : Int) : GInst := ⟨⟨#[106, 102]⟩, zeroV, k⟩
abbrev jmpI (k : Int) : GInst := ⟨⟨#[106, 109, 112]⟩, zeroV, k⟩
def chooseP (a b c : List GInst) : List GInst := joinP (joinP (a ++ [jfI ((a.length + 1 + b.length + 1 : Nat) : Int)]) b ++ [jmpI ((a.length + 1 + b.length + 1 + c.length : Nat) : Int)]) c
theorem chooseP_length (a b c : List GInst) : (chooseP a b c).length = a.length + 1 + b.length + 1 + c.length := by simp [chooseP, joinP_length]
theorem e87 (a b c : List GInst) (h : a.length + 1 + b.length + 1 + c.length ≤ 1000000) : Ev (fun n => s_f87 n a b c) (chooseP a b c) := by
  unfold s_f87
  have w1 : IntKind.i64.wrap ((a.length : Int) + 1) = ((a.length + 1 : Nat) : Int) := by rw [wrap64 (by omega) (by omega)]; omega
  have w2 : IntKind.i64.wrap (((a.length + 1 : Nat) : Int) + (b.length : Int)) = ((a.length + 1 + b.length : Nat) : Int) := by rw [wrap64 (by omega) (by omega)]; omega
  have w3 : IntKind.i64.wrap (((a.length + 1 + b.length : Nat) : Int) + 1) = ((a.length + 1 + b.length + 1 : Nat) : Int) := by rw [wrap64 (by omega) (by omega)]; omega
  have w4 : IntKind.i64.wrap (((a.length + 1 + b.length + 1 : Nat) : Int) + (c.length : Int)) = ((a.length + 1 + b.length + 1 + c.length : Nat) : Int) := by rw [wrap64 (by omega) (by omega)]; omega
  simp only [w1, w2, w3, w4]
  refine Ev.g (by omega) (Ev.g (by omega) (Ev.bind (e89 _ b (by simp; omega)) (Ev.g (by simp [joinP_length]; omega) (Ev.bind (e89 _ c (by simp [joinP_length]; omega)) (Ev.mk _)))))

/-! ### the program of an expression -/
abbrev pushI (v : Val) : GInst := ⟨⟨#[112, 117, 115, 104]⟩, v, 0⟩
/-- What stands at the end. -/
def opI (o : ByteArray) (m : Int) (k : Nat) : GInst :=
  bif o.data.toList == [97, 116] then ⟨⟨#[97, 116]⟩, zeroV, m⟩ else bif o.data.toList == [116, 117, 112] then ⟨⟨#[116, 117, 112]⟩, zeroV, (k : Int)⟩ else ⟨o, zeroV, 0⟩
def genO (o : ByteArray) (v : Val) (m : Int) (k : Nat) (ps : List (List GInst)) : List GInst :=
  bif o.data.toList == [108, 105, 116] then [pushI v]
  else bif o.data.toList == [120] then [⟨⟨#[120]⟩, zeroV, 0⟩]
  else bif o.data.toList == [97, 110, 100] then chooseP (ps.getD 0 []) (ps.getD 1 []) [pushI (.mk 2 0 false ⟨#[]⟩ [])]
  else bif o.data.toList == [111, 114] then chooseP (ps.getD 0 []) [pushI (.mk 2 0 true ⟨#[]⟩ [])] (ps.getD 1 [])
  else bif o.data.toList == [105, 102] then chooseP (ps.getD 0 []) (ps.getD 1 []) (ps.getD 2 [])
  else ps.foldl joinP [] ++ [opI o m k]
mutual
def genE : Ex → List GInst
  | .mk o v m a => genO o v m a.length (genEs a)
def genEs : List Ex → List (List GInst)
  | [] => []
  | e :: r => genE e :: genEs r
end
theorem genEs_get : ∀ {l : List Ex} {j : Nat} {e : Ex}, l[j]? = some e → (genEs l).getD j [] = genE e
  | [], j, e, h => by simp at h
  | x :: r, 0, e, h => by simp at h; subst h; simp [genEs]
  | x :: r, j + 1, e, h => by
    simp only [List.getElem?_cons_succ] at h
    have := genEs_get h
    simpa [genEs] using this
def lenL : List (List GInst) → Nat
  | [] => 0
  | g :: r => g.length + lenL r
theorem foldl_length : ∀ (gs : List (List GInst)) (acc : List GInst), (gs.foldl joinP acc).length = acc.length + lenL gs
  | [], acc => by simp [lenL]
  | g :: r, acc => by
    simp only [List.foldl_cons, foldl_length r, joinP_length, lenL]
    omega
/-- An expression whose ops are known, with as many arguments as they have. -/
def ArN (o : List UInt8) (k : Nat) : Prop := arS o ≠ -2 ∧ (0 ≤ arS o → (k : Int) = arS o) ∧ (arS o < 0 → 1 ≤ k)
mutual
def WfE : Ex → Prop
  | .mk o v m a => ArN o.data.toList a.length ∧ WfEs a
def WfEs : List Ex → Prop
  | [] => True
  | e :: r => WfE e ∧ WfEs r
end
def Gens : List Ex → Prop
  | [] => True
  | e :: r => ((genE e).length ≤ 1000000 → Ev (fun n => s_f52 n e) (genE e)) ∧ Gens r
theorem Gens.get : ∀ {l : List Ex} {j : Nat} {e : Ex}, Gens l → l[j]? = some e → (genE e).length ≤ 1000000 → Ev (fun n => s_f52 n e) (genE e)
  | [], j, e, _, h => by simp at h
  | x :: r, 0, e, hg, h => by simp at h; subst h; exact hg.1
  | x :: r, j + 1, e, hg, h => by
    simp only [List.getElem?_cons_succ] at h
    exact Gens.get hg.2 h
theorem e52l (o : ByteArray) (v : Val) (m : Int) (a : List Ex) (ha : a.length ≤ 1000000) : ∀ (r : List Ex) (acc : List GInst) (j : Nat), a.drop j = r → Gens r → acc.length + lenL (genEs r) + 1 ≤ 1000000 → Ev (fun n => s_f52_l1 n (.mk o v m a) acc j) ((genEs r).foldl joinP acc ++ [opI o m a.length])
  | [], acc, j, h, hg, hl => by
    refine Ev.succ ?_
    simp only [s_f52_l1, Ex.op, Ex.a, Ex.n, genEs, List.foldl_nil, opI]
    simp only [genEs, lenL] at hl
    refine Ev.f (cj_f (drop_n h)) ?_
    cases o.data.toList == [97, 116] with
    | true => exact Ev.t rfl (Ev.g (by omega) (Ev.mk _))
    | false =>
      refine Ev.f rfl ?_
      cases o.data.toList == [116, 117, 112] with
      | true => exact Ev.t rfl (Ev.g (by omega) (Ev.mk _))
      | false => exact Ev.f rfl (Ev.g (by omega) (Ev.mk _))
  | x :: r, acc, j, h, hg, hl => by
    obtain ⟨h1, h2, h3⟩ := drop_c h
    simp only [genEs, lenL] at hl
    refine Ev.succ ?_
    simp only [s_f52_l1, Ex.a, genEs, List.foldl_cons]
    exact Ev.t (cj_t h1) (Ev.bindc h2 (Ev.bind (hg.1 (by omega)) (Ev.bind (e89 _ _ (by omega)) (e52l o v m a ha r _ (j + 1) h3 hg.2 (by rw [joinP_length]; omega)))))
theorem ArN.eq {o : List UInt8} {k : Nat} (h : ArN o k) {c : Nat} (hc : arS o = (c : Int)) : k = c := by have := h.2.1 (by omega); omega
theorem get_lt {α : Type} {l : List α} {j : Nat} (h : j < l.length) : ∃ e, l[j]? = some e := ⟨_, List.getElem?_eq_getElem h⟩
theorem e52a (o : ByteArray) (v : Val) (m : Int) (a : List Ex) (h : ArN o.data.toList a.length) (ha : a.length ≤ 1000000) (hg : Gens a) (hl : (genE (.mk o v m a)).length ≤ 1000000) : Ev (fun n => s_f52 n (.mk o v m a)) (genE (.mk o v m a)) := by
  refine Ev.succ ?_
  simp only [genE, genO] at hl ⊢
  simp only [s_f52, Ex.op, Ex.v, Ex.a, Ex.n]
  cases c1 : o.data.toList == [108, 105, 116] with
  | true => exact Ev.t rfl (Ev.mk _)
  | false =>
    rw [c1] at hl
    simp only [cond_false] at hl ⊢
    cases c2 : o.data.toList == [120] with
    | true => exact Ev.t rfl (Ev.mk _)
    | false =>
      rw [c2] at hl
      simp only [cond_false] at hl ⊢
      cases c3 : o.data.toList == [97, 110, 100] with
      | true =>
        rw [c3] at hl
        simp only [cond_true, chooseP_length, List.length_cons, List.length_nil] at hl ⊢
        have hk := h.eq (c := 2) (by rw [eq_of_beq c3]; rfl)
        obtain ⟨x, hx⟩ := get_lt (l := a) (j := 0) (by omega)
        obtain ⟨y, hy⟩ := get_lt (l := a) (j := 1) (by omega)
        rw [genEs_get hx, genEs_get hy] at hl ⊢
        exact Ev.bindc hx (Ev.bind (hg.get hx (by omega)) (Ev.bindc hy (Ev.bind (hg.get hy (by omega)) (Ev.bind (e87 _ _ _ (by simp; omega)) (Ev.mk _)))))
      | false =>
        rw [c3] at hl
        simp only [cond_false] at hl ⊢
        cases c4 : o.data.toList == [111, 114] with
        | true =>
          rw [c4] at hl
          simp only [cond_true, chooseP_length, List.length_cons, List.length_nil] at hl ⊢
          have hk := h.eq (c := 2) (by rw [eq_of_beq c4]; rfl)
          obtain ⟨x, hx⟩ := get_lt (l := a) (j := 0) (by omega)
          obtain ⟨y, hy⟩ := get_lt (l := a) (j := 1) (by omega)
          rw [genEs_get hx, genEs_get hy] at hl ⊢
          exact Ev.bindc hx (Ev.bind (hg.get hx (by omega)) (Ev.bindc hy (Ev.bind (hg.get hy (by omega)) (Ev.bind (e87 _ _ _ (by simp; omega)) (Ev.mk _)))))
        | false =>
          rw [c4] at hl
          simp only [cond_false] at hl ⊢
          cases c5 : o.data.toList == [105, 102] with
          | true =>
            rw [c5] at hl
            simp only [cond_true, chooseP_length] at hl ⊢
            have hk := h.eq (c := 3) (by rw [eq_of_beq c5]; rfl)
            obtain ⟨x, hx⟩ := get_lt (l := a) (j := 0) (by omega)
            obtain ⟨y, hy⟩ := get_lt (l := a) (j := 1) (by omega)
            obtain ⟨z, hz⟩ := get_lt (l := a) (j := 2) (by omega)
            rw [genEs_get hx, genEs_get hy, genEs_get hz] at hl ⊢
            exact Ev.bindc hx (Ev.bind (hg.get hx (by omega)) (Ev.bindc hy (Ev.bind (hg.get hy (by omega)) (Ev.bindc hz (Ev.bind (hg.get hz (by omega)) (Ev.bind (e87 _ _ _ (by omega)) (Ev.mk _)))))))
          | false =>
            rw [c5] at hl
            simp only [cond_false, List.length_append, foldl_length, List.length_cons, List.length_nil] at hl ⊢
            exact e52l o v m a ha a [] 0 rfl hg (by simp; omega)
theorem chooseP_pos (a b c : List GInst) : 1 ≤ (chooseP a b c).length := by rw [chooseP_length]; omega
theorem genE_pos : ∀ e : Ex, 1 ≤ (genE e).length
  | .mk o v m a => by
    simp only [genE, genO]
    cases o.data.toList == [108, 105, 116] <;> cases o.data.toList == [120] <;> cases o.data.toList == [97, 110, 100] <;> cases o.data.toList == [111, 114] <;> cases o.data.toList == [105, 102] <;> simp only [cond_true, cond_false, List.length_cons, List.length_nil, List.length_append] <;> first | omega | exact chooseP_pos _ _ _
theorem lenL_ge : ∀ l : List Ex, l.length ≤ lenL (genEs l)
  | [] => Nat.zero_le _
  | e :: r => by
    have := genE_pos e
    have := lenL_ge r
    simp only [List.length_cons, genEs, lenL]
    omega
theorem ArN.le {o : List UInt8} {k : Nat} (h : ArN o k) (hn : arS o ≠ -1) : k ≤ 3 := by
  have h1 : arS o ≤ 3 ∧ (0 ≤ arS o ∨ arS o = -1 ∨ arS o = -2) := by
    rcases arS_cases h.1 with e | e | e | e | e | e | e | e | e | e | e | e | e | e | e | e | e | e <;> (subst e; decide)
  rcases h1.2 with h2 | h2 | h2
  · have := h.2.1 h2; omega
  · exact absurd h2 hn
  · exact absurd h2 h.1
mutual
theorem e52 : ∀ e : Ex, WfE e → (genE e).length ≤ 1000000 → Ev (fun n => s_f52 n e) (genE e)
  | .mk o v m a, h, hl => by
    refine e52a o v m a h.1 ?_ (e52s a h.2) hl
    by_cases hn : arS o.data.toList = -1
    · have ht : o.data.toList = [116, 117, 112] := by
        rcases arS_cases h.1.1 with e | e | e | e | e | e | e | e | e | e | e | e | e | e | e | e | e | e <;> first | exact e | (rw [e] at hn; exact absurd hn (by decide))
      simp only [genE, genO, ht] at hl
      have := lenL_ge a
      simp [foldl_length] at hl
      omega
    · have := h.1.le hn
      omega
theorem e52s : ∀ l : List Ex, WfEs l → Gens l
  | [], _ => trivial
  | e :: r, h => ⟨e52 e h.1, e52s r h.2⟩
end
end Go.Proofs.Ytbcjcekoonebiaa.Tl

set_option linter.unusedVariables false
set_option linter.unusedSimpArgs false
namespace Go.Proofs.Ytbcjcekoonebiaa.Tl
open Go Go.RowKit
end Go.Proofs.Ytbcjcekoonebiaa.Tl

set_option linter.unusedVariables false
set_option linter.unusedSimpArgs false
namespace Go.Proofs.Ytbcjcekoonebiaa.Tl
open Go Go.RowKit
theorem W64_shift (x k : Int) : W64 (x + 18446744073709551616 * k) = W64 x := by
  simp only [W64, IntKind.wrap_i64]; omega
theorem W64_ex (x : Int) : ∃ k, W64 x = x + 18446744073709551616 * k := by
  refine ⟨-((x + 9223372036854775808) / 18446744073709551616), ?_⟩
  simp only [W64, IntKind.wrap_i64]; omega
theorem W64_add_left (x y : Int) : W64 (W64 x + y) = W64 (x + y) := by
  obtain ⟨k, hk⟩ := W64_ex x
  rw [hk, show x + 18446744073709551616 * k + y = x + y + 18446744073709551616 * k by omega, W64_shift]
abbrev two (a b : Int) : Val := tupV [intV a, intV b]
end Go.Proofs.Ytbcjcekoonebiaa.Tl

set_option linter.unusedVariables false
set_option linter.unusedSimpArgs false
namespace Go.Proofs.Ytbcjcekoonebiaa.Tl
open Go Go.RowKit
/-! ### where a program stands -/
def At (p : List GInst) (j : Nat) (q : List GInst) : Prop := j + q.length ≤ p.length ∧ ∀ (k : Nat) (i : GInst), q[k]? = some i → p[j + k]? = some (mvI (j : Int) i)
theorem isJ_mv (k : Int) (i : GInst) : isJ (mvI k i) = isJ i := by
  unfold mvI
  cases h : isJ i with
  | true => exact h
  | false => exact h
theorem mvI_mv (j k : Int) (i : GInst) : mvI j (mvI k i) = mvI (j + k) i := by
  cases h : isJ i with
  | true =>
    have e : mvI k i = GInst.mk i.f0 i.f1 (IntKind.i64.wrap (i.f2 + k)) := by simp [mvI, h]
    have e2 : isJ (mvI k i) = true := (isJ_mv k i).trans h
    rw [mvI, e2, cond_true, e, mvI, h, cond_true]
    simp only
    have := W64_add_left (i.f2 + k) j
    simp only [W64] at this
    rw [this, show i.f2 + k + j = i.f2 + (j + k) by omega]
  | false =>
    have e : mvI k i = i := by simp [mvI, h]
    rw [e, mvI, h, mvI, h]
    rfl
theorem At.left {p : List GInst} {j : Nat} {a b : List GInst} (h : At p j (a ++ b)) : At p j a := by
  refine ⟨by have := h.1; simp at this; omega, fun k i hk => h.2 k i ?_⟩
  have hlt : k < a.length := (List.getElem?_eq_some_iff.1 hk).1
  rw [List.getElem?_append_left hlt]
  exact hk
theorem At.mid {p : List GInst} {j : Nat} {a : List GInst} {i : GInst} {b : List GInst} (h : At p j (a ++ i :: b)) : p[j + a.length]? = some (mvI (j : Int) i) := h.2 a.length i (by simp)
theorem At.join {p : List GInst} {j : Nat} {a b : List GInst} (h : At p j (joinP a b)) : At p j a ∧ At p (j + a.length) b := by
  refine ⟨h.left, by have := h.1; rw [joinP_length] at this; omega, fun k i hk => ?_⟩
  have hlt : k < b.length := (List.getElem?_eq_some_iff.1 hk).1
  have := h.2 (a.length + k) (mvI (a.length : Int) i) (by
    rw [joinP, List.getElem?_append_right (by omega), Nat.add_sub_cancel_left, mvP, List.getElem?_map, hk]
    rfl)
  rw [mvI_mv] at this
  rw [Nat.add_assoc, this]
  congr 2
theorem mv_jf {j f : Nat} (h : f + j ≤ 1000000) : mvI (j : Int) (jfI (f : Int)) = jfI ((j + f : Nat) : Int) := by
  have : isJ (jfI (f : Int)) = true := rfl
  rw [mvI, this, cond_true]
  simp only
  rw [wrap64 (by omega) (by omega)]
  congr 1
  omega
theorem mv_jmp {j f : Nat} (h : f + j ≤ 1000000) : mvI (j : Int) (jmpI (f : Int)) = jmpI ((j + f : Nat) : Int) := by
  have : isJ (jmpI (f : Int)) = true := rfl
  rw [mvI, this, cond_true]
  simp only
  rw [wrap64 (by omega) (by omega)]
  congr 1
  omega
def Ats (p : List GInst) : Nat → List (List GInst) → Prop
  | _, [] => True
  | j, g :: r => At p j g ∧ Ats p (j + g.length) r
theorem At.fold {p : List GInst} {j : Nat} : ∀ {gs : List (List GInst)} {acc : List GInst}, At p j (gs.foldl joinP acc) → At p j acc ∧ Ats p (j + acc.length) gs
  | [], acc, h => ⟨h, trivial⟩
  | g :: r, acc, h => by
    obtain ⟨h1, h2⟩ := At.fold (gs := r) h
    rw [joinP_length, ← Nat.add_assoc] at h2
    exact ⟨h1.join.1, h1.join.2, h2⟩

/-! ### runs -/
abbrev RunsTo (p : List GInst) (x : Val) (j : Nat) (st out : List Val) (R : List Val × Int) : Prop := ∀ v, Ev (RunF p x j st out v) R
/-- From where it stands: a value on the stack, behind it; or an error. -/
def Goes (g : List GInst) (x w : Val) (h : Int) : Prop :=
  ∀ (p : List GInst) (j : Nat) (st out : List Val) (R : List Val × Int), At p j g → p.length ≤ 1000000 → out.length + st.length + g.length + 1 ≤ 1000000 →
    (h = 0 → RunsTo p x (j + g.length) (st ++ [w]) out R) → (h ≠ 0 → R = ([], h)) → RunsTo p x j st out R
def GoesL (gs : List (List GInst)) (x : Val) (ws : List Val) (h : Int) : Prop :=
  ∀ (p : List GInst) (j : Nat) (st out : List Val) (R : List Val × Int), Ats p j gs → p.length ≤ 1000000 → out.length + st.length + lenL gs + 1 ≤ 1000000 →
    (h = 0 → RunsTo p x (j + lenL gs) (st ++ ws) out R) → (h ≠ 0 → R = ([], h)) → RunsTo p x j st out R
theorem goes_push (v x : Val) : Goes [pushI v] x v 0 := fun p j st out R hA hp hs k1 k2 =>
  run_step (i := pushI v) (hA.2 0 _ rfl) rfl rfl rfl (show stepM (pushI v) x st out = some (st ++ [v], out, 0) from rfl) (by simp at hs; omega) (by simp at hs; omega) hp (k1 rfl)
theorem goes_x (x : Val) : Goes [⟨⟨#[120]⟩, zeroV, 0⟩] x x 0 := fun p j st out R hA hp hs k1 k2 =>
  run_step (i := ⟨⟨#[120]⟩, zeroV, 0⟩) (hA.2 0 _ rfl) rfl rfl rfl (show stepM ⟨⟨#[120]⟩, zeroV, 0⟩ x st out = some (st ++ [x], out, 0) from rfl) (by simp at hs; omega) (by simp at hs; omega) hp (k1 rfl)
theorem goes_choose {a b c : List GInst} {x w0 w : Val} {h0 h : Int} (ha : Goes a x w0 h0) (hb : h0 = 0 → w0.b = true → Goes b x w h) (hc : h0 = 0 → w0.b = false → Goes c x w h) (he : h0 ≠ 0 → h = h0) : Goes (chooseP a b c) x w h := by
  intro p j st out R hA hp hs k1 k2
  rw [chooseP_length] at hs k1
  have hlen := hA.1
  rw [chooseP_length] at hlen
  obtain ⟨g1, gC⟩ := hA.join
  have gj := g1.mid
  obtain ⟨g2, gB⟩ := g1.left.join
  have gf := g2.mid
  have gA := g2.left
  simp only [joinP_length, List.length_append, List.length_cons, List.length_nil] at gC gj gB
  rw [mv_jf (by omega)] at gf
  rw [mv_jmp (by omega)] at gj
  refine ha p j st out R gA hp (by omega) (fun hz => ?_) (fun hne => ?_)
  · refine run_jf (k := j + (a.length + 1 + b.length + 1)) gf rfl rfl (by omega) hp (by omega) ?_
    cases hw : w0.b with
    | true =>
      refine hb hz hw p (j + a.length + 1) st out R gB hp (by omega) (fun hz2 => ?_) k2
      refine run_jmp (k := j + (a.length + 1 + b.length + 1 + c.length)) (by rw [← gj]; congr 1; omega) rfl rfl (by omega) (k1 hz2)
    | false =>
      refine hc hz hw p (j + (a.length + 1 + b.length + 1)) st out R ?_ hp (by omega) (fun hz2 => ?_) k2
      · have e : j + (a.length + (0 + 1) + b.length + (0 + 1)) = j + (a.length + 1 + b.length + 1) := by omega
        rw [e] at gC
        exact gC
      · have := k1 hz2
        rw [show j + (a.length + 1 + b.length + 1 + c.length) = j + (a.length + 1 + b.length + 1) + c.length by omega] at this
        exact this
  · have := he hne
    rw [← this]
    exact k2 (by rw [this]; exact hne)
theorem goes_nil (x : Val) : GoesL [] x [] 0 := fun p j st out R hA hp hs k1 k2 => by
  have := k1 rfl
  simpa [lenL] using this
theorem goes_cons {g : List GInst} {gs : List (List GInst)} {x w : Val} {ws : List Val} {h h' : Int} (hg : 1 ≤ g.length) (h1 : Goes g x w h) (h2 : h = 0 → GoesL gs x ws h') : GoesL (g :: gs) x (bif h == 0 then w :: ws else []) (bif h == 0 then h' else h) := by
  intro p j st out R hA hp hs k1 k2
  simp only [lenL] at hs k1
  refine h1 p j st out R hA.1 hp (by omega) (fun hz => ?_) (fun hne => ?_)
  · subst hz
    refine h2 rfl p (j + g.length) (st ++ [w]) out R hA.2 hp (by simp; omega) (fun hz2 => ?_) (fun hne => k2 hne)
    have := k1 hz2
    simp only [beq_self_eq_true, cond_true] at this
    rw [List.append_assoc]
    rw [Nat.add_assoc]
    exact this
  · rw [show (h == 0) = false from beq_false_of_ne hne] at k2
    exact k2 hne

/-! ### what is at the end -/
theorem ba_eq {o : ByteArray} {l : List UInt8} (h : o.data.toList = l) : o = ⟨⟨l⟩⟩ := by
  cases o with
  | mk d => cases d with
    | mk l' => simp at h; subst h; rfl
theorem opI_f0 (o : ByteArray) (m : Int) (k : Nat) : (opI o m k).f0 = o := by
  unfold opI
  cases h1 : o.data.toList == [97, 116] with
  | true => exact (ba_eq (eq_of_beq h1)).symm
  | false =>
    cases h2 : o.data.toList == [116, 117, 112] with
    | true => exact (ba_eq (eq_of_beq h2)).symm
    | false => rfl
theorem drop_st (st ws : List Val) : (st ++ ws).drop ((st ++ ws).length - ws.length) = ws := by
  rw [List.length_append, Nat.add_sub_cancel]; simp
theorem take_st (st ws : List Val) : (st ++ ws).take ((st ++ ws).length - ws.length) = st := by
  rw [List.length_append, Nat.add_sub_cancel]; simp
theorem step_op {o : ByteArray} {m : Int} {ws : List Val} {w : Val} {h : Int} (har : ArN o.data.toList ws.length) (h1 : o.data.toList ≠ [108, 105, 116]) (h2 : o.data.toList ≠ [120]) (h3 : o.data.toList ≠ [97, 110, 100]) (h4 : o.data.toList ≠ [111, 114]) (h5 : o.data.toList ≠ [105, 102])
    (ha : applyS o m ws = some (w, h)) (x : Val) (st out : List Val) (hw : ws.length ≤ 1000000) : stepM (opI o m ws.length) x (st ++ ws) out = some (bif h == 0 then st ++ [w] else st, out, h) := by
  have hone : ∀ v : Val, ws = [v] → (o.data.toList = [110, 101, 103] ∨ o.data.toList = [110, 111, 116] ∨ o.data.toList = [108, 101, 110]) → oneS o v = some w → h = 0 → stepM ⟨o, zeroV, 0⟩ x (st ++ ws) out = some (bif h == 0 then st ++ [w] else st, out, h) := by
    rintro v rfl ho h6 rfl
    have d := drop_st st [v]
    have t := take_st st [v]
    simp only [List.length_cons, List.length_nil] at d t
    have h7 : one3 o v = some (w, true) := by simp [one3, h6]
    have hl : 1 ≤ (st ++ [v]).length := by simp
    unfold stepM
    rcases ho with ho | ho | ho <;> (simp only [ho]; simp [hl, h7])
  have htwo : ∀ u v : Val, ws = [u, v] → arS o.data.toList = 2 → bothS o u v = some (w, h) → stepM ⟨o, zeroV, 0⟩ x (st ++ ws) out = some (bif h == 0 then st ++ [w] else st, out, h) := by
    rintro u v rfl ho h6
    have d := drop_st st [u, v]
    have t := take_st st [u, v]
    simp only [List.length_cons, List.length_nil] at d t
    have h7 : both3 o u v = some (w, h, true) := by simp [both3, h6]
    have hl : 2 ≤ (st ++ [u, v]).length := by simp
    have hc : ∀ l : List UInt8, arS l ≠ 2 → (o.data.toList == l) = false := fun l hl => beq_false_of_ne fun e => hl (e ▸ ho)
    unfold stepM
    simp only [hc [112, 117, 115, 104] (by decide), hc [120] (by decide), hc [97, 116] (by decide), hc [116, 117, 112] (by decide), hc [101, 109, 105, 116] (by decide), hc [110, 101, 103] (by decide), hc [110, 111, 116] (by decide), hc [108, 101, 110] (by decide), cond_false]
    rw [if_pos hl, d, t]
    simp only [List.getElem?_cons_zero, List.getElem?_cons_succ, Option.bind_some, h7]
    by_cases hz : h = 0
    · subst hz; rfl
    · rw [show (h != 0) = true by simpa using hz, show (h == 0) = false from beq_false_of_ne hz]; rfl
  by_cases c1 : o.data.toList = [97, 116]
  · obtain rfl := ba_eq c1
    obtain ⟨v, t, w', rfl, hm, hw', hr⟩ := applyS_at ha rfl
    have hk := har.eq (c := 1) rfl
    obtain rfl : t = [] := by cases t <;> simp at hk ⊢
    simp only [Prod.mk.injEq] at hr
    obtain ⟨rfl, rfl⟩ := hr
    have d := drop_st st [v]
    have t := take_st st [v]
    simp only [List.length_cons, List.length_nil] at d t
    show (if 1 ≤ (st ++ [v]).length then (((st ++ [v]).drop ((st ++ [v]).length - 1))[0]?).bind fun y => (if 0 ≤ m then (y.t[m.toNat]?).bind fun z => some ((st ++ [v]).take ((st ++ [v]).length - 1) ++ [z], out, (0 : Int)) else none) else none) = _
    rw [if_pos (by simp), d, t]
    simp only [List.getElem?_cons_zero, Option.bind_some, if_pos hm, hw']
    rfl
  · by_cases c2 : o.data.toList = [116, 117, 112]
    · obtain rfl := ba_eq c2
      obtain ⟨v, t, rfl, hl, hr⟩ := applyS_tup ha (by decide) rfl
      simp only [Prod.mk.injEq] at hr
      obtain ⟨rfl, rfl⟩ := hr
      have d := drop_st st (v :: t)
      have t' := take_st st (v :: t)
      show (if 0 ≤ (((v :: t).length : Nat) : Int) ∧ (((v :: t).length : Nat) : Int).toNat ≤ (st ++ v :: t).length then (tupS ((st ++ v :: t).drop ((st ++ v :: t).length - (((v :: t).length : Nat) : Int).toNat))).bind fun q => some ((st ++ v :: t).take ((st ++ v :: t).length - (((v :: t).length : Nat) : Int).toNat) ++ [q], out, (0 : Int)) else none) = _
      rw [Int.toNat_natCast, if_pos ⟨by omega, by simp⟩, d, t']
      simp only [tupS, if_pos hl, Option.bind_some]
      rfl
    · have e : opI o m ws.length = ⟨o, zeroV, 0⟩ := by
        unfold opI
        rw [beq_false_of_ne c1, beq_false_of_ne c2]
        rfl
      rw [e]
      have one : arS o.data.toList = 1 → (o.data.toList = [110, 101, 103] ∨ o.data.toList = [110, 111, 116] ∨ o.data.toList = [108, 101, 110]) → stepM ⟨o, zeroV, 0⟩ x (st ++ ws) out = some (bif h == 0 then st ++ [w] else st, out, h) := fun hr ho => by
        have hl := har.eq (c := 1) hr
        obtain ⟨v, w', q1, q2, q3⟩ := applyS_one ha c1 c2 hl
        simp only [Prod.mk.injEq] at q3
        obtain ⟨rfl, rfl⟩ := q3
        exact hone v q1 ho q2 rfl
      have two : arS o.data.toList = 2 → stepM ⟨o, zeroV, 0⟩ x (st ++ ws) out = some (bif h == 0 then st ++ [w] else st, out, h) := fun hr => by
        have hl := har.eq (c := 2) hr
        obtain ⟨v, w', t, q1, q2⟩ := applyS_two ha c1 c2 (by omega)
        have : t = [] := by rw [q1] at hl; simp at hl; exact hl
        subst this
        exact htwo v w' q1 hr q2
      rcases arS_cases har.1 with q | q | q | q | q | q | q | q | q | q | q | q | q | q | q | q | q | q
      · exact absurd q h1
      · exact absurd q h2
      · exact absurd q c1
      · exact one (by rw [q]; rfl) (.inl q)
      · exact one (by rw [q]; rfl) (.inr (.inl q))
      · exact one (by rw [q]; rfl) (.inr (.inr q))
      · exact two (by rw [q]; rfl)
      · exact two (by rw [q]; rfl)
      · exact two (by rw [q]; rfl)
      · exact two (by rw [q]; rfl)
      · exact two (by rw [q]; rfl)
      · exact two (by rw [q]; rfl)
      · exact two (by rw [q]; rfl)
      · exact absurd q h3
      · exact absurd q h4
      · exact two (by rw [q]; rfl)
      · exact absurd q h5
      · exact absurd q c2
theorem goes_eager {o : ByteArray} {m : Int} {gs : List (List GInst)} {ws : List Val} {w x : Val} {h g : Int} (h1 : o.data.toList ≠ [108, 105, 116]) (h2 : o.data.toList ≠ [120]) (h3 : o.data.toList ≠ [97, 110, 100]) (h4 : o.data.toList ≠ [111, 114]) (h5 : o.data.toList ≠ [105, 102])
    (har : arS o.data.toList ≠ -2) (hL : GoesL gs x ws g) (hg : g ≠ 0 → h = g) (hs : g = 0 → ArN o.data.toList ws.length ∧ applyS o m ws = some (w, h)) (k : Nat) (hk : g = 0 → ws.length = k ∧ k ≤ lenL gs) : Goes (gs.foldl joinP [] ++ [opI o m k]) x w h := by
  intro p j st out R hA hp hsz k1 k2
  have hlen := hA.1
  simp only [List.length_append, foldl_length, List.length_cons, List.length_nil, Nat.zero_add] at hsz k1 hlen
  have hop := hA.mid
  obtain ⟨_, hB⟩ := hA.left.fold
  simp only [List.length_nil, Nat.add_zero, foldl_length, Nat.zero_add] at hop hB
  have hJ : isJ (opI o m k) = false := by
    unfold isJ
    rw [opI_f0]
    rcases arS_cases har with q | q | q | q | q | q | q | q | q | q | q | q | q | q | q | q | q | q <;> (rw [q]; rfl)
  have hR : ((opI o m k).f0.data.toList == [114, 101, 116]) = false := by
    rw [opI_f0]
    rcases arS_cases har with q | q | q | q | q | q | q | q | q | q | q | q | q | q | q | q | q | q <;> (rw [q]; rfl)
  rw [mvI, hJ, cond_false] at hop
  unfold isJ at hJ
  have hJ := or_f hJ
  refine hL p j st out R hB hp (by omega) (fun hz => ?_) (fun hne => ?_)
  · obtain ⟨ha, hap⟩ := hs hz
    obtain ⟨hk1, hk2⟩ := hk hz
    subst hk1
    have hst := step_op ha h1 h2 h3 h4 h5 hap x st out (by omega)
    by_cases hz2 : h = 0
    · subst hz2
      refine run_step hop hR hJ.1 hJ.2 hst (by simp; omega) (by simp; omega) hp ?_
      have := k1 rfl
      rw [← Nat.add_assoc] at this
      exact this
    · rw [k2 hz2]
      exact run_err hop hR hJ.1 hJ.2 hst hz2 (by simp; omega) (by simp; omega)
  · have := hg hne
    rw [← this]
    exact k2 (by rw [this]; exact hne)

/-! ### expressions that may be -/
def GRes (e : Ex) (x : Val) (t : Ty) : Prop := ∃ w h, evalS e x = some (w, h) ∧ (h = 0 → OKv w t) ∧ Goes (genE e) x w h
def GRess : List Ex → Val → List Ty → Prop
  | [], _, [] => True
  | e :: r, x, t :: ts => GRes e x t ∧ GRess r x ts
  | _, _, _ => False
theorem GRess.len : ∀ {l : List Ex} {x : Val} {ts : List Ty}, GRess l x ts → l.length = ts.length
  | [], _, [], _ => rfl
  | [], _, _ :: _, h => by simp [GRess] at h
  | _ :: _, _, [], h => by simp [GRess] at h
  | _ :: _, _, _ :: _, h => by simp only [List.length_cons, GRess.len h.2]
theorem GRess.go : ∀ {l : List Ex} {x : Val} {ts : List Ty}, GRess l x ts → ∃ ws g, allS l x = some (ws, g) ∧ (g = 0 → OKvs ws ts) ∧ GoesL (genEs l) x ws g
  | [], x, [], _ => ⟨[], 0, rfl, fun _ => trivial, goes_nil x⟩
  | [], _, _ :: _, h => by simp [GRess] at h
  | _ :: _, _, [], h => by simp [GRess] at h
  | e :: r, x, t :: ts, h => by
    obtain ⟨⟨w, f, q1, q2, q3⟩, hr⟩ := h
    obtain ⟨ws, g, r1, r2, r3⟩ := hr.go
    have hG := goes_cons (genE_pos e) q3 (fun _ => r3)
    by_cases hf : f = 0
    · subst hf
      by_cases hg : g = 0
      · subst hg
        exact ⟨w :: ws, 0, by simp [allS, q1, r1], fun _ => ⟨q2 rfl, r2 rfl⟩, hG⟩
      · refine ⟨[], g, by simp [allS, q1, r1, hg], fun q => absurd q hg, ?_⟩
        intro p j st out R hA hp hs k1 k2
        exact hG p j st out R hA hp hs (fun q => absurd q hg) k2
    · refine ⟨[], f, by simp [allS, q1, hf], fun q => absurd q hf, ?_⟩
      rw [show (f == 0) = false from beq_false_of_ne hf] at hG
      exact hG
theorem arn_of {o : List UInt8} {k : Nat} (h : arS o ≠ -2) (hlen : (((decide (arS o ≥ 0)) && ((k : Int) != arS o)) || ((decide (arS o < 0)) && ((decide ((k : Int) < 1)) || (decide ((k : Int) > 8))))) = false) : ArN o k := by
  refine ⟨h, fun hc => ?_, fun hc => ?_⟩
  · simp only [decide_eq_true (show arS o ≥ 0 from hc), decide_eq_false (show ¬ arS o < 0 by omega), Bool.true_and, Bool.false_and, Bool.or_false] at hlen
    exact bne_f hlen
  · simp only [decide_eq_false (show ¬ arS o ≥ 0 by omega), decide_eq_true hc, Bool.true_and, Bool.false_and, Bool.false_or] at hlen
    have := of_decide_eq_false (or_f hlen).1
    omega
theorem okb {w : Val} {t : Ty} (h : OKv w t) (hk : t.kind = 2) : w = .mk 2 0 w.b ⟨#[]⟩ [] := by
  have ht := ok_plain h (by omega)
  rw [hk] at ht
  obtain ⟨h1, h2, _⟩ := h
  cases w with
  | mk k i b s l =>
    rw [ht] at h2
    simp only [tyV, Ty.mk.injEq] at h2
    obtain ⟨rfl, h3⟩ := h2
    have hl : l = [] := by cases l <;> simp [tyVs] at h3 ⊢
    subst hl
    obtain ⟨_, h4, _, _⟩ := h1
    simp at h4
    obtain ⟨hi, hs⟩ := h4
    subst hi
    have : s = ⟨#[]⟩ := by
      cases s with
      | mk d => simp at hs; subst hs; rfl
    subst this
    rfl
mutual
theorem gens : ∀ (e : Ex) (ty : Ty) (d : Int) (t : Ty) (x : Val), BdE e → OKv x ty → ckE e ty d = (t, 0) → WfE e ∧ GRes e x t
  | .mk o v m a, ty, d, t, x, hb, hx, h => by
    obtain ⟨w, f, s1, _, s3, _⟩ := sound (.mk o v m a) ty d t x hb hx h
    simp only [ckE] at h
    obtain ⟨c1, h⟩ := bif_zt h (by omega)
    obtain ⟨c2, h⟩ := bif_zt h (by omega)
    obtain ⟨c3, h⟩ := bif_zt h (by omega)
    obtain ⟨c4, h⟩ := bif_zt h (by omega)
    have har : arS o.data.toList ≠ -2 := by simpa using c1
    have harn := arn_of har c3
    by_cases h1 : o.data.toList = [108, 105, 116]
    · have ha0 : a = [] := List.eq_nil_of_length_eq_zero (harn.eq (c := 0) (by rw [h1]; rfl))
      subst ha0
      refine ⟨⟨harn, trivial⟩, w, f, s1, s3, ?_⟩
      simp only [evalS, h1, if_true, Option.some.injEq, Prod.mk.injEq] at s1
      obtain ⟨rfl, rfl⟩ := s1
      simp only [genE, genO, h1]
      exact goes_push _ _
    · rw [show (o.data.toList == [108, 105, 116]) = false from beq_false_of_ne h1] at h
      simp only [cond_false] at h
      by_cases h2 : o.data.toList = [120]
      · have ha0 : a = [] := List.eq_nil_of_length_eq_zero (harn.eq (c := 0) (by rw [h2]; rfl))
        subst ha0
        refine ⟨⟨harn, trivial⟩, w, f, s1, s3, ?_⟩
        simp only [evalS, h1, h2, if_true, if_false, Option.some.injEq, Prod.mk.injEq] at s1
        simp at s1
        obtain ⟨rfl, rfl⟩ := s1
        simp only [genE, genO, h2]
        exact goes_x _
      · rw [show (o.data.toList == [120]) = false from beq_false_of_ne h2] at h
        simp only [cond_false] at h
        by_cases hp : (ckEs a ty (d + 1)).2 = 0
        · rw [hp] at h
          simp only [bne_self_eq_false, cond_false] at h
          obtain ⟨hwf, hr⟩ := genss a ty (d + 1) x hb.2.2 hx hp
          have hts := ckEs_length a ty (d + 1) hp
          revert hr h hts
          generalize (ckEs a ty (d + 1)).1 = ts
          intro h hr hts
          refine ⟨⟨harn, hwf⟩, w, f, s1, s3, ?_⟩
          by_cases h3 : o.data.toList = [97, 110, 100]
          · have hk := harn.eq (c := 2) (by rw [h3]; rfl)
            rcases a with _ | ⟨e0, _ | ⟨e1, _ | ⟨e2, a⟩⟩⟩ <;> simp at hk
            rcases ts with _ | ⟨t0, _ | ⟨t1, _ | ⟨t2, ts⟩⟩⟩ <;> simp at hts
            obtain ⟨⟨w0, f0, q1, q2, q3⟩, ⟨w1, f1, r1, r2, r3⟩, _⟩ := hr
            rw [h3] at h
            obtain ⟨k1, k2, _⟩ := allK2 (show allK 2 [t0, t1] (.mk 2 []) = (t, 0) from h)
            simp only [genE, genO, h3]
            refine goes_choose q3 (fun hz hw => ?_) (fun hz hw => ?_) (fun hne => ?_)
            · subst hz
              simp [evalS, h3, isLazy, nthS, q1, chooseS, hw, r1] at s1
              obtain ⟨rfl, rfl⟩ := s1
              exact r3
            · subst hz
              simp [evalS, h3, isLazy, nthS, q1, chooseS, hw, r1] at s1
              obtain ⟨rfl, rfl⟩ := s1
              rw [okb (q2 rfl) k1, hw]
              exact goes_push _ _
            · simp [evalS, h3, isLazy, nthS, q1, hne] at s1
              exact s1.2.symm
          · by_cases h4 : o.data.toList = [111, 114]
            · have hk := harn.eq (c := 2) (by rw [h4]; rfl)
              rcases a with _ | ⟨e0, _ | ⟨e1, _ | ⟨e2, a⟩⟩⟩ <;> simp at hk
              rcases ts with _ | ⟨t0, _ | ⟨t1, _ | ⟨t2, ts⟩⟩⟩ <;> simp at hts
              obtain ⟨⟨w0, f0, q1, q2, q3⟩, ⟨w1, f1, r1, r2, r3⟩, _⟩ := hr
              rw [h4] at h
              obtain ⟨k1, k2, _⟩ := allK2 (show allK 2 [t0, t1] (.mk 2 []) = (t, 0) from h)
              simp only [genE, genO, h4]
              refine goes_choose q3 (fun hz hw => ?_) (fun hz hw => ?_) (fun hne => ?_)
              · subst hz
                simp [evalS, h4, isLazy, nthS, q1, chooseS, hw, r1] at s1
                obtain ⟨rfl, rfl⟩ := s1
                rw [okb (q2 rfl) k1, hw]
                exact goes_push _ _
              · subst hz
                simp [evalS, h4, isLazy, nthS, q1, chooseS, hw, r1] at s1
                obtain ⟨rfl, rfl⟩ := s1
                exact r3
              · simp [evalS, h4, isLazy, nthS, q1, hne] at s1
                exact s1.2.symm
            · by_cases h5 : o.data.toList = [105, 102]
              · have hk := harn.eq (c := 3) (by rw [h5]; rfl)
                rcases a with _ | ⟨e0, _ | ⟨e1, _ | ⟨e2, _ | ⟨e3, a⟩⟩⟩⟩ <;> simp at hk
                rcases ts with _ | ⟨t0, _ | ⟨t1, _ | ⟨t2, _ | ⟨t3, ts⟩⟩⟩⟩ <;> simp at hts
                obtain ⟨⟨w0, f0, q1, q2, q3⟩, ⟨w1, f1, r1, r2, r3⟩, ⟨w2, f2, u1, u2, u3⟩, _⟩ := hr
                simp only [genE, genO, h5]
                refine goes_choose q3 (fun hz hw => ?_) (fun hz hw => ?_) (fun hne => ?_)
                · subst hz
                  simp [evalS, h5, isLazy, nthS, q1, chooseS, hw, r1] at s1
                  obtain ⟨rfl, rfl⟩ := s1
                  exact r3
                · subst hz
                  simp [evalS, h5, isLazy, nthS, q1, chooseS, hw, u1] at s1
                  obtain ⟨rfl, rfl⟩ := s1
                  exact u3
                · simp [evalS, h5, isLazy, nthS, q1, hne] at s1
                  exact s1.2.symm
              · obtain ⟨ws, g, r1, r2, r3⟩ := hr.go
                have hz : isLazy o = false := by simp [isLazy, h3, h4, h5]
                simp only [evalS, if_neg h1, if_neg h2, hz, Bool.false_eq_true, if_false] at s1
                have ha : a.length ≤ 1000000 := by have := hb.1; omega
                rw [if_pos ha, r1] at s1
                simp only at s1
                simp only [genE, genO, beq_false_of_ne h1, beq_false_of_ne h2, beq_false_of_ne h3, beq_false_of_ne h4, beq_false_of_ne h5, cond_false]
                refine goes_eager h1 h2 h3 h4 h5 har r3 (fun hne => ?_) (fun hz => ?_) a.length (fun hz => ?_)
                · rw [if_neg hne] at s1
                  simp only [Option.some.injEq, Prod.mk.injEq] at s1
                  exact s1.2.symm
                · rw [if_pos hz] at s1
                  refine ⟨?_, s1⟩
                  rw [(r2 hz).len, hts]
                  exact harn
                · exact ⟨by rw [(r2 hz).len, hts], lenL_ge a⟩
        · rw [show ((ckEs a ty (d + 1)).2 != 0) = true by simpa using hp] at h
          simp only [cond_true, Prod.mk.injEq] at h
          exact absurd h.2 hp
theorem genss : ∀ (l : List Ex) (ty : Ty) (d : Int) (x : Val), BdEs l → OKv x ty → (ckEs l ty d).2 = 0 → WfEs l ∧ GRess l x (ckEs l ty d).1
  | [], ty, d, x, hb, hx, h => ⟨trivial, trivial⟩
  | e :: r, ty, d, x, hb, hx, h => by
    simp only [ckEs] at h ⊢
    by_cases h1 : (ckE e ty d).2 = 0
    · rw [h1] at h ⊢
      simp only [bne_self_eq_false, cond_false] at h ⊢
      by_cases h2 : (ckEs r ty d).2 = 0
      · rw [h2]
        simp only [bne_self_eq_false, cond_false]
        have q1 := gens e ty d _ x hb.1 hx (by rw [← h1])
        have q2 := genss r ty d x hb.2 hx h2
        exact ⟨⟨q1.1, q2.1⟩, q1.2, q2.2⟩
      · rw [show ((ckEs r ty d).2 != 0) = true by simpa using h2] at h
        exact absurd h h2
    · rw [show ((ckE e ty d).2 != 0) = true by simpa using h1] at h
      exact absurd h h1
end
end Go.Proofs.Ytbcjcekoonebiaa.Tl

set_option linter.unusedVariables false
set_option linter.unusedSimpArgs false
namespace Go.Proofs.Ytbcjcekoonebiaa.Tl
open Go Go.RowKit
mutual
def s_f15_l1 : Nat → (List Int) → Int → Nat → ByteArray → (List Ex) → Option Bool
  | 0, _, _, _, _, _ => none
  | n + 1, a0, a1, v1_1, v1_2, v1_3 => (bif (decide ((v1_1 : Int) < (a0.length : Int))) then ((a0[v1_1]?).bind fun x20 => ((a0[v1_1]?).bind fun x22 => (bif ((x22.tmod 6) == 0) then (s_f15_l1 n a0 a1 (v1_1 + 1) ⟨#[97, 110, 100]⟩ [(Ex.mk ⟨#[108, 105, 116]⟩ (Val.mk 2 0 (((IntKind.u8.wrap (x20.tdiv 8)).tmod 2) == 0) ⟨#[]⟩ []) 0 []), (Ex.mk v1_2 (Val.mk 0 0 false ⟨#[]⟩ []) 0 v1_3)]) else (bif ((x22.tmod 6) == 1) then (s_f15_l1 n a0 a1 (v1_1 + 1) ⟨#[111, 114]⟩ [(Ex.mk ⟨#[108, 105, 116]⟩ (Val.mk 2 0 (((IntKind.u8.wrap (x20.tdiv 8)).tmod 2) == 0) ⟨#[]⟩ []) 0 []), (Ex.mk v1_2 (Val.mk 0 0 false ⟨#[]⟩ []) 0 v1_3)]) else (bif ((x22.tmod 6) == 2) then (s_f15_l1 n a0 a1 (v1_1 + 1) ⟨#[105, 102]⟩ [(Ex.mk ⟨#[108, 105, 116]⟩ (Val.mk 2 0 (((IntKind.u8.wrap (x20.tdiv 8)).tmod 2) == 0) ⟨#[]⟩ []) 0 []), (Ex.mk v1_2 (Val.mk 0 0 false ⟨#[]⟩ []) 0 v1_3), (Ex.mk ⟨#[101, 113]⟩ (Val.mk 0 0 false ⟨#[]⟩ []) 0 [(Ex.mk ⟨#[114, 101, 109]⟩ (Val.mk 0 0 false ⟨#[]⟩ []) 0 [(Ex.mk ⟨#[120]⟩ (Val.mk 0 0 false ⟨#[]⟩ []) 0 []), (Ex.mk ⟨#[108, 105, 116]⟩ (Val.mk 1 0 false ⟨#[]⟩ []) 0 [])]), (Ex.mk ⟨#[120]⟩ (Val.mk 0 0 false ⟨#[]⟩ []) 0 [])])]) else (bif ((x22.tmod 6) == 3) then (s_f15_l1 n a0 a1 (v1_1 + 1) ⟨#[97, 110, 100]⟩ [(Ex.mk v1_2 (Val.mk 0 0 false ⟨#[]⟩ []) 0 v1_3), (Ex.mk ⟨#[101, 113]⟩ (Val.mk 0 0 false ⟨#[]⟩ []) 0 [(Ex.mk ⟨#[114, 101, 109]⟩ (Val.mk 0 0 false ⟨#[]⟩ []) 0 [(Ex.mk ⟨#[120]⟩ (Val.mk 0 0 false ⟨#[]⟩ []) 0 []), (Ex.mk ⟨#[108, 105, 116]⟩ (Val.mk 1 0 false ⟨#[]⟩ []) 0 [])]), (Ex.mk ⟨#[120]⟩ (Val.mk 0 0 false ⟨#[]⟩ []) 0 [])])]) else (bif ((x22.tmod 6) == 4) then (s_f15_l1 n a0 a1 (v1_1 + 1) ⟨#[111, 114]⟩ [(Ex.mk v1_2 (Val.mk 0 0 false ⟨#[]⟩ []) 0 v1_3), (Ex.mk ⟨#[101, 113]⟩ (Val.mk 0 0 false ⟨#[]⟩ []) 0 [(Ex.mk ⟨#[114, 101, 109]⟩ (Val.mk 0 0 false ⟨#[]⟩ []) 0 [(Ex.mk ⟨#[120]⟩ (Val.mk 0 0 false ⟨#[]⟩ []) 0 []), (Ex.mk ⟨#[108, 105, 116]⟩ (Val.mk 1 0 false ⟨#[]⟩ []) 0 [])]), (Ex.mk ⟨#[120]⟩ (Val.mk 0 0 false ⟨#[]⟩ []) 0 [])])]) else (bif ((x22.tmod 6) == 5) then (s_f15_l1 n a0 a1 (v1_1 + 1) ⟨#[105, 102]⟩ [(Ex.mk v1_2 (Val.mk 0 0 false ⟨#[]⟩ []) 0 v1_3), (Ex.mk ⟨#[108, 105, 116]⟩ (Val.mk 2 0 (((IntKind.u8.wrap (x20.tdiv 8)).tmod 2) == 0) ⟨#[]⟩ []) 0 []), (Ex.mk ⟨#[101, 113]⟩ (Val.mk 0 0 false ⟨#[]⟩ []) 0 [(Ex.mk ⟨#[114, 101, 109]⟩ (Val.mk 0 0 false ⟨#[]⟩ []) 0 [(Ex.mk ⟨#[120]⟩ (Val.mk 0 0 false ⟨#[]⟩ []) 0 []), (Ex.mk ⟨#[108, 105, 116]⟩ (Val.mk 1 0 false ⟨#[]⟩ []) 0 [])]), (Ex.mk ⟨#[120]⟩ (Val.mk 0 0 false ⟨#[]⟩ []) 0 [])])]) else (s_f15_l1 n a0 a1 (v1_1 + 1) v1_2 v1_3))))))))) else ((s_f19 n (Ex.mk v1_2 (Val.mk 0 0 false ⟨#[]⟩ []) 0 v1_3)).bind fun q30 => ((s_f52 n q30).bind fun q32 => ((s_f51 n q32).bind fun q34 => (if q34.length + 2 ≤ 1000000 then ((s_f40 n (q34 ++ [(GInst.mk ⟨#[101, 109, 105, 116]⟩ (Val.mk 0 0 false ⟨#[]⟩ []) 1), (GInst.mk ⟨#[114, 101, 116]⟩ (Val.mk 0 0 false ⟨#[]⟩ []) 0)]) (Val.mk 1 a1 false ⟨#[]⟩ [])).bind fun q37 => ((evalS (Ex.mk v1_2 (Val.mk 0 0 false ⟨#[]⟩ []) 0 v1_3) (Val.mk 1 a1 false ⟨#[]⟩ [])).bind fun q39 => ((s_f19 n (Ex.mk v1_2 (Val.mk 0 0 false ⟨#[]⟩ []) 0 v1_3)).bind fun q41 => ((s_f24 n q41 (Val.mk 1 a1 false ⟨#[]⟩ [])).bind fun q43 => (bif ((q37.2 != q43.2) || (q39.2 != q43.2)) then some false else (bif (q43.2 != 0) then (bif ((q37.1.length : Int) == 0) then some true else some false) else (bif ((q37.1.length : Int) == 1) then ((q37.1[0]?).bind fun x51 => (bif (x51.b == q43.1.b) then (bif (q39.1.b == q43.1.b) then ((q37.1[0]?).bind fun x55 => some (x55.kind == 2)) else some false) else some false)) else some false))))))) else none)))))
end
def s_f15 (n : Nat) (a0 : List Int) (a1 : Int) : Option Bool :=
  ((s_f36 n).bind fun q1 => (bif (!q1) then some false else (bif (decide ((a0.length : Int) > 9)) then some true else (s_f15_l1 n a0 a1 0 ⟨#[108, 116]⟩ [(Ex.mk ⟨#[120]⟩ (Val.mk 0 0 false ⟨#[]⟩ []) 0 []), (Ex.mk ⟨#[108, 105, 116]⟩ (Val.mk 1 5 false ⟨#[]⟩ []) 0 [])]))))

theorem w_f15 (n : Nat) (a0 : List Int) (a1 : Int) (r : Bool) (hr : s_f15 n a0 a1 = some r) : ACall Try.prog 15 [.sl .ro 1 (r_int_u8 a0), .int .i64 a1] (.bool r) := by
  refine ACall.go [(0, .sl .ro 1 (r_int_u8 a0)), (1, .int .i64 a1)] Try.func15 rfl Try.ntmps15 rfl rfl (by simp [pureA, pureL, pureR, inA, inL, inR, inO, idsIn, encs_pure, enxs_pure, enys_pure, valC_pure, exC_pure, tyC_pure, r_int_u8_pure, r_st_GInst_pure, r_sl_st_GInst_pure, r_st_GMiss_pure]) ?_
  rw [s_f15] at hr
  refine AW.seq ?_
  refine AW.region (M := fun _ => true) ?_
  refine AL.v good (d := 4) (v := .bool false) rfl rfl rfl rfl ?_
  refine AW.seq ?_
  refine AW.seq ?_
  refine AW.region (M := fun _ => true) ?_
  obtain ⟨q1, h2, hr⟩ := bnd1 hr
  refine AL.cw good (d := 16) (xs := []) (res := .bool q1) rfl rfl rfl rfl rfl rfl rfl (w_f36 _ _ h2) trivial (by simp [pureA, pureL, pureR, inA, inL, inR, inO, idsIn, encs_pure, enxs_pure, enys_pure, valC_pure, exC_pure, tyC_pure, r_int_u8_pure, r_st_GInst_pure, r_sl_st_GInst_pure, r_st_GMiss_pure]) ?_
  refine AL.v good (d := 17) (v := .bool (!q1)) rfl rfl rfl rfl ?_
  refine AW.if rfl (fun h3 => ?_) (fun h3 => ?_)
  · replace hr := cnd_t h3 hr
    refine AW.seq ?_
    refine AW.region (M := fun _ => true) ?_
    refine AL.v good (d := 4) (v := .bool false) rfl rfl rfl rfl ?_
    refine AW.ret ?_
    obtain rfl := Option.some.inj hr
    exact RetQ.w good (.inr rfl) rfl rfl (Wv.refl _) (by simp [pureA, pureL, pureR, inA, inL, inR, inO, idsIn, encs_pure, enxs_pure, enys_pure, valC_pure, exC_pure, tyC_pure, r_int_u8_pure, r_st_GInst_pure, r_sl_st_GInst_pure, r_st_GMiss_pure])
  · replace hr := cnd_f h3 hr
    refine AW.skip ?_
    refine AW.seq ?_
    refine AW.seq ?_
    refine AW.region (M := fun _ => true) ?_
    refine AL.v good (d := 18) (v := .sl .ro 1 (r_int_u8 a0)) rfl rfl rfl rfl ?_
    refine AL.ln good (d := 19) (m := a0.length) rfl rfl rfl rfl rfl rfl (r_int_u8_length _) ?_
    refine AL.v good (d := 20) (v := .bool (decide ((a0.length : Int) > 9))) rfl rfl rfl rfl ?_
    refine AW.if rfl (fun h4 => ?_) (fun h4 => ?_)
    · replace hr := cnd_t h4 hr
      refine AW.seq ?_
      refine AW.region (M := fun _ => true) ?_
      refine AL.v good (d := 4) (v := .bool true) rfl rfl rfl rfl ?_
      refine AW.ret ?_
      obtain rfl := Option.some.inj hr
      exact RetQ.w good (.inr rfl) rfl rfl (Wv.refl _) (by simp [pureA, pureL, pureR, inA, inL, inR, inO, idsIn, encs_pure, enxs_pure, enys_pure, valC_pure, exC_pure, tyC_pure, r_int_u8_pure, r_st_GInst_pure, r_sl_st_GInst_pure, r_st_GMiss_pure])
    · replace hr := cnd_f h4 hr
      refine AW.skip ?_
      refine AW.seq ?_
      refine AW.region (M := fun _ => true) ?_
      refine AL.cw good (d := 21) (xs := []) (res := .agg [.str ⟨#[120]⟩, .int .i64 0, .int .i64 0, .bool false, .str ⟨#[]⟩, .sl .ro 5 (encs []), .int .i64 0, .sl .ro 8 (enxs [])]) rfl rfl rfl rfl rfl rfl rfl (w_f29) trivial (by simp [pureA, pureL, pureR, inA, inL, inR, inO, idsIn, encs_pure, enxs_pure, enys_pure, valC_pure, exC_pure, tyC_pure, r_int_u8_pure, r_st_GInst_pure, r_sl_st_GInst_pure, r_st_GMiss_pure]) ?_
      refine AL.cw good (d := 22) (xs := [.int .i64 0]) (res := .agg [.int .i64 1, .int .i64 0, .bool false, .str ⟨#[]⟩, .sl .ro 5 (encs [])]) rfl rfl rfl rfl rfl rfl rfl (w_f28 0) ⟨(Wv.refl _), trivial⟩ (by simp [pureA, pureL, pureR, inA, inL, inR, inO, idsIn, encs_pure, enxs_pure, enys_pure, valC_pure, exC_pure, tyC_pure, r_int_u8_pure, r_st_GInst_pure, r_sl_st_GInst_pure, r_st_GMiss_pure]) ?_
      refine AL.cw good (d := 23) (xs := [.agg (valC (Val.mk 1 0 false ⟨#[]⟩ []))]) (res := .agg [.str ⟨#[108, 105, 116]⟩, .int .i64 1, .int .i64 0, .bool false, .str ⟨#[]⟩, .sl .ro 5 (encs []), .int .i64 0, .sl .ro 8 (enxs [])]) rfl rfl rfl rfl rfl rfl rfl (w_f31 (Val.mk 1 0 false ⟨#[]⟩ [])) ⟨(Wv.refl _), trivial⟩ (by simp [pureA, pureL, pureR, inA, inL, inR, inO, idsIn, encs_pure, enxs_pure, enys_pure, valC_pure, exC_pure, tyC_pure, r_int_u8_pure, r_st_GInst_pure, r_sl_st_GInst_pure, r_st_GMiss_pure]) ?_
      refine AL.lit good (d := 24) (rows := [[.str ⟨#[120]⟩, .int .i64 0, .int .i64 0, .bool false, .str ⟨#[]⟩, .sl .ro 5 (encs []), .int .i64 0, .sl .ro 8 (enxs [])], [.str ⟨#[108, 105, 116]⟩, .int .i64 1, .int .i64 0, .bool false, .str ⟨#[]⟩, .sl .ro 5 (encs []), .int .i64 0, .sl .ro 8 (enxs [])]]) rfl rfl rfl rfl rfl rfl rfl rfl rfl 0 rfl ?_
      refine AL.cw good (d := 25) (xs := [.str ⟨#[114, 101, 109]⟩, .sl .ro 8 (enxs [(Ex.mk ⟨#[120]⟩ (Val.mk 0 0 false ⟨#[]⟩ []) 0 []), (Ex.mk ⟨#[108, 105, 116]⟩ (Val.mk 1 0 false ⟨#[]⟩ []) 0 [])])]) (res := .agg [.str ⟨#[114, 101, 109]⟩, .int .i64 0, .int .i64 0, .bool false, .str ⟨#[]⟩, .sl .ro 5 (encs []), .int .i64 0, .sl .ro 8 (enxs [(Ex.mk ⟨#[120]⟩ (Val.mk 0 0 false ⟨#[]⟩ []) 0 []), (Ex.mk ⟨#[108, 105, 116]⟩ (Val.mk 1 0 false ⟨#[]⟩ []) 0 [])])]) rfl rfl rfl rfl rfl rfl rfl (w_f30 ⟨#[114, 101, 109]⟩ [(Ex.mk ⟨#[120]⟩ (Val.mk 0 0 false ⟨#[]⟩ []) 0 []), (Ex.mk ⟨#[108, 105, 116]⟩ (Val.mk 1 0 false ⟨#[]⟩ []) 0 [])]) ⟨(Wv.refl _), ⟨.inr rfl, (WvR_enxs ⟨⟨Wv.refl _, Wv.refl _, Wv.refl _, Wv.refl _, Wv.refl _, Wv.refl _, Wv.refl _, Wv.refl _, trivial⟩, ⟨Wv.refl _, Wv.refl _, Wv.refl _, Wv.refl _, Wv.refl _, Wv.refl _, Wv.refl _, Wv.refl _, trivial⟩, trivial⟩), .inl rfl⟩, trivial⟩ (by simp [pureA, pureL, pureR, inA, inL, inR, inO, idsIn, encs_pure, enxs_pure, enys_pure, valC_pure, exC_pure, tyC_pure, r_int_u8_pure, r_st_GInst_pure, r_sl_st_GInst_pure, r_st_GMiss_pure]) ?_
      refine AL.cw good (d := 26) (xs := []) (res := .agg [.str ⟨#[120]⟩, .int .i64 0, .int .i64 0, .bool false, .str ⟨#[]⟩, .sl .ro 5 (encs []), .int .i64 0, .sl .ro 8 (enxs [])]) rfl rfl rfl rfl rfl rfl rfl (w_f29) trivial (by simp [pureA, pureL, pureR, inA, inL, inR, inO, idsIn, encs_pure, enxs_pure, enys_pure, valC_pure, exC_pure, tyC_pure, r_int_u8_pure, r_st_GInst_pure, r_sl_st_GInst_pure, r_st_GMiss_pure]) ?_
      refine AL.lit good (d := 27) (rows := [[.str ⟨#[114, 101, 109]⟩, .int .i64 0, .int .i64 0, .bool false, .str ⟨#[]⟩, .sl .ro 5 (encs []), .int .i64 0, .sl .ro 8 (enxs [(Ex.mk ⟨#[120]⟩ (Val.mk 0 0 false ⟨#[]⟩ []) 0 []), (Ex.mk ⟨#[108, 105, 116]⟩ (Val.mk 1 0 false ⟨#[]⟩ []) 0 [])])], [.str ⟨#[120]⟩, .int .i64 0, .int .i64 0, .bool false, .str ⟨#[]⟩, .sl .ro 5 (encs []), .int .i64 0, .sl .ro 8 (enxs [])]]) rfl rfl rfl rfl rfl rfl rfl rfl rfl 1 rfl ?_
      refine AL.cw good (d := 28) (xs := [.str ⟨#[101, 113]⟩, .sl .ro 8 (enxs [(Ex.mk ⟨#[114, 101, 109]⟩ (Val.mk 0 0 false ⟨#[]⟩ []) 0 [(Ex.mk ⟨#[120]⟩ (Val.mk 0 0 false ⟨#[]⟩ []) 0 []), (Ex.mk ⟨#[108, 105, 116]⟩ (Val.mk 1 0 false ⟨#[]⟩ []) 0 [])]), (Ex.mk ⟨#[120]⟩ (Val.mk 0 0 false ⟨#[]⟩ []) 0 [])])]) (res := .agg [.str ⟨#[101, 113]⟩, .int .i64 0, .int .i64 0, .bool false, .str ⟨#[]⟩, .sl .ro 5 (encs []), .int .i64 0, .sl .ro 8 (enxs [(Ex.mk ⟨#[114, 101, 109]⟩ (Val.mk 0 0 false ⟨#[]⟩ []) 0 [(Ex.mk ⟨#[120]⟩ (Val.mk 0 0 false ⟨#[]⟩ []) 0 []), (Ex.mk ⟨#[108, 105, 116]⟩ (Val.mk 1 0 false ⟨#[]⟩ []) 0 [])]), (Ex.mk ⟨#[120]⟩ (Val.mk 0 0 false ⟨#[]⟩ []) 0 [])])]) rfl rfl rfl rfl rfl rfl rfl (w_f30 ⟨#[101, 113]⟩ [(Ex.mk ⟨#[114, 101, 109]⟩ (Val.mk 0 0 false ⟨#[]⟩ []) 0 [(Ex.mk ⟨#[120]⟩ (Val.mk 0 0 false ⟨#[]⟩ []) 0 []), (Ex.mk ⟨#[108, 105, 116]⟩ (Val.mk 1 0 false ⟨#[]⟩ []) 0 [])]), (Ex.mk ⟨#[120]⟩ (Val.mk 0 0 false ⟨#[]⟩ []) 0 [])]) ⟨(Wv.refl _), ⟨.inr rfl, (WvR_enxs ⟨⟨Wv.refl _, Wv.refl _, Wv.refl _, Wv.refl _, Wv.refl _, Wv.refl _, Wv.refl _, Wv.refl _, trivial⟩, ⟨Wv.refl _, Wv.refl _, Wv.refl _, Wv.refl _, Wv.refl _, Wv.refl _, Wv.refl _, Wv.refl _, trivial⟩, trivial⟩), .inl rfl⟩, trivial⟩ (by simp [pureA, pureL, pureR, inA, inL, inR, inO, idsIn, encs_pure, enxs_pure, enys_pure, valC_pure, exC_pure, tyC_pure, r_int_u8_pure, r_st_GInst_pure, r_sl_st_GInst_pure, r_st_GMiss_pure]) ?_
      refine AL.alc good (d := 5) rfl rfl rfl rfl rfl 2 rfl ?_
      refine AL.st2 good (c2 := [.str ⟨#[101, 113]⟩, .int .i64 0, .int .i64 0, .bool false, .str ⟨#[]⟩, .sl .ro 5 (encs []), .int .i64 0, .sl .ro 8 (enxs [(Ex.mk ⟨#[114, 101, 109]⟩ (Val.mk 0 0 false ⟨#[]⟩ []) 0 [(Ex.mk ⟨#[120]⟩ (Val.mk 0 0 false ⟨#[]⟩ []) 0 []), (Ex.mk ⟨#[108, 105, 116]⟩ (Val.mk 1 0 false ⟨#[]⟩ []) 0 [])]), (Ex.mk ⟨#[120]⟩ (Val.mk 0 0 false ⟨#[]⟩ []) 0 [])])]) rfl rfl rfl rfl rfl rfl rfl rfl rfl rfl rfl rfl ?_
      refine AW.seq ?_
      refine AW.region (M := fun _ => true) ?_
      refine AL.cw good (d := 29) (xs := []) (res := .agg [.str ⟨#[120]⟩, .int .i64 0, .int .i64 0, .bool false, .str ⟨#[]⟩, .sl .ro 5 (encs []), .int .i64 0, .sl .ro 8 (enxs [])]) rfl rfl rfl rfl rfl rfl rfl (w_f29) trivial (by simp [pureA, pureL, pureR, inA, inL, inR, inO, idsIn, encs_pure, enxs_pure, enys_pure, valC_pure, exC_pure, tyC_pure, r_int_u8_pure, r_st_GInst_pure, r_sl_st_GInst_pure, r_st_GMiss_pure]) ?_
      refine AL.cw good (d := 30) (xs := [.int .i64 5]) (res := .agg [.int .i64 1, .int .i64 5, .bool false, .str ⟨#[]⟩, .sl .ro 5 (encs [])]) rfl rfl rfl rfl rfl rfl rfl (w_f28 5) ⟨(Wv.refl _), trivial⟩ (by simp [pureA, pureL, pureR, inA, inL, inR, inO, idsIn, encs_pure, enxs_pure, enys_pure, valC_pure, exC_pure, tyC_pure, r_int_u8_pure, r_st_GInst_pure, r_sl_st_GInst_pure, r_st_GMiss_pure]) ?_
      refine AL.cw good (d := 31) (xs := [.agg (valC (Val.mk 1 5 false ⟨#[]⟩ []))]) (res := .agg [.str ⟨#[108, 105, 116]⟩, .int .i64 1, .int .i64 5, .bool false, .str ⟨#[]⟩, .sl .ro 5 (encs []), .int .i64 0, .sl .ro 8 (enxs [])]) rfl rfl rfl rfl rfl rfl rfl (w_f31 (Val.mk 1 5 false ⟨#[]⟩ [])) ⟨(Wv.refl _), trivial⟩ (by simp [pureA, pureL, pureR, inA, inL, inR, inO, idsIn, encs_pure, enxs_pure, enys_pure, valC_pure, exC_pure, tyC_pure, r_int_u8_pure, r_st_GInst_pure, r_sl_st_GInst_pure, r_st_GMiss_pure]) ?_
      refine AL.lit good (d := 32) (rows := [[.str ⟨#[120]⟩, .int .i64 0, .int .i64 0, .bool false, .str ⟨#[]⟩, .sl .ro 5 (encs []), .int .i64 0, .sl .ro 8 (enxs [])], [.str ⟨#[108, 105, 116]⟩, .int .i64 1, .int .i64 5, .bool false, .str ⟨#[]⟩, .sl .ro 5 (encs []), .int .i64 0, .sl .ro 8 (enxs [])]]) rfl rfl rfl rfl rfl rfl rfl rfl rfl 3 rfl ?_
      refine AL.cw good (d := 33) (xs := [.str ⟨#[108, 116]⟩, .sl .ro 8 (enxs [(Ex.mk ⟨#[120]⟩ (Val.mk 0 0 false ⟨#[]⟩ []) 0 []), (Ex.mk ⟨#[108, 105, 116]⟩ (Val.mk 1 5 false ⟨#[]⟩ []) 0 [])])]) (res := .agg [.str ⟨#[108, 116]⟩, .int .i64 0, .int .i64 0, .bool false, .str ⟨#[]⟩, .sl .ro 5 (encs []), .int .i64 0, .sl .ro 8 (enxs [(Ex.mk ⟨#[120]⟩ (Val.mk 0 0 false ⟨#[]⟩ []) 0 []), (Ex.mk ⟨#[108, 105, 116]⟩ (Val.mk 1 5 false ⟨#[]⟩ []) 0 [])])]) rfl rfl rfl rfl rfl rfl rfl (w_f30 ⟨#[108, 116]⟩ [(Ex.mk ⟨#[120]⟩ (Val.mk 0 0 false ⟨#[]⟩ []) 0 []), (Ex.mk ⟨#[108, 105, 116]⟩ (Val.mk 1 5 false ⟨#[]⟩ []) 0 [])]) ⟨(Wv.refl _), ⟨.inr rfl, (WvR_enxs ⟨⟨Wv.refl _, Wv.refl _, Wv.refl _, Wv.refl _, Wv.refl _, Wv.refl _, Wv.refl _, Wv.refl _, trivial⟩, ⟨Wv.refl _, Wv.refl _, Wv.refl _, Wv.refl _, Wv.refl _, Wv.refl _, Wv.refl _, Wv.refl _, trivial⟩, trivial⟩), .inl rfl⟩, trivial⟩ (by simp [pureA, pureL, pureR, inA, inL, inR, inO, idsIn, encs_pure, enxs_pure, enys_pure, valC_pure, exC_pure, tyC_pure, r_int_u8_pure, r_st_GInst_pure, r_sl_st_GInst_pure, r_st_GMiss_pure]) ?_
      refine AL.alc good (d := 6) rfl rfl rfl rfl rfl 4 rfl ?_
      refine AL.st2 good (c2 := [.str ⟨#[108, 116]⟩, .int .i64 0, .int .i64 0, .bool false, .str ⟨#[]⟩, .sl .ro 5 (encs []), .int .i64 0, .sl .ro 8 (enxs [(Ex.mk ⟨#[120]⟩ (Val.mk 0 0 false ⟨#[]⟩ []) 0 []), (Ex.mk ⟨#[108, 105, 116]⟩ (Val.mk 1 5 false ⟨#[]⟩ []) 0 [])])]) rfl rfl rfl rfl rfl rfl rfl rfl rfl rfl rfl rfl ?_
      refine AW.seq ?_
      refine AW.seq ?_
      refine AW.region (M := fun _ => true) ?_
      refine AL.v good (d := 7) (v := .int .i64 0) rfl rfl rfl rfl ?_
      refine AW.block ?_
      refine AW.lens 0 rfl (fun hl18 => ?_)
      replace hl18 : a0.length ≤ 9223372036854775807 := by rw [← r_int_u8_length a0]; exact hl18
      refine AW.lpw (fun x : Nat × Nat × ByteArray × (List Ex) => [(0, .sl .ro 1 (r_int_u8 a0)), (1, .int .i64 a1), (5, .ptr 2 0), (6, .ptr 4 0), (7, .int .i64 (x.2.1 : Int))]) (fun x => [(2, .box 27 [.str ⟨#[101, 113]⟩, .int .i64 0, .int .i64 0, .bool false, .str ⟨#[]⟩, .sl .ro 5 (encs []), .int .i64 0, .sl .ro 8 (enxs [(Ex.mk ⟨#[114, 101, 109]⟩ (Val.mk 0 0 false ⟨#[]⟩ []) 0 [(Ex.mk ⟨#[120]⟩ (Val.mk 0 0 false ⟨#[]⟩ []) 0 []), (Ex.mk ⟨#[108, 105, 116]⟩ (Val.mk 1 0 false ⟨#[]⟩ []) 0 [])]), (Ex.mk ⟨#[120]⟩ (Val.mk 0 0 false ⟨#[]⟩ []) 0 [])])]), (4, .box 27 [.str x.2.2.1, .int .i64 0, .int .i64 0, .bool false, .str ⟨#[]⟩, .sl .ro 5 (encs []), .int .i64 0, .sl .ro 8 (enxs x.2.2.2)])]) (fun x => s_f15_l1 x.1 a0 a1 x.2.1 x.2.2.1 x.2.2.2 = some r ∧ x.1 ≤ n) (fun x => x.1) (n, 0, ⟨#[108, 116]⟩, [(Ex.mk ⟨#[120]⟩ (Val.mk 0 0 false ⟨#[]⟩ []) 0 []), (Ex.mk ⟨#[108, 105, 116]⟩ (Val.mk 1 5 false ⟨#[]⟩ []) 0 [])]) ⟨(fun _ h => by cases h), List.forall_mem_cons.2 ⟨⟨⟨_, rfl, Wv.refl _⟩, (by simp [pureA, pureL, pureR, inA, inL, inR, inO, idsIn, encs_pure, enxs_pure, enys_pure, valC_pure, exC_pure, tyC_pure, r_int_u8_pure, r_st_GInst_pure, r_sl_st_GInst_pure, r_st_GMiss_pure])⟩, List.forall_mem_cons.2 ⟨⟨⟨_, rfl, Wv.refl _⟩, (by simp [pureA, pureL, pureR, inA, inL, inR, inO, idsIn, encs_pure, enxs_pure, enys_pure, valC_pure, exC_pure, tyC_pure, r_int_u8_pure, r_st_GInst_pure, r_sl_st_GInst_pure, r_st_GMiss_pure])⟩, List.forall_mem_cons.2 ⟨⟨⟨_, rfl, Wv.refl _⟩, (by simp [pureA, pureL, pureR, inA, inL, inR, inO, idsIn, encs_pure, enxs_pure, enys_pure, valC_pure, exC_pure, tyC_pure, r_int_u8_pure, r_st_GInst_pure, r_sl_st_GInst_pure, r_st_GMiss_pure])⟩, List.forall_mem_cons.2 ⟨⟨⟨_, rfl, Wv.refl _⟩, (by simp [pureA, pureL, pureR, inA, inL, inR, inO, idsIn, encs_pure, enxs_pure, enys_pure, valC_pure, exC_pure, tyC_pure, r_int_u8_pure, r_st_GInst_pure, r_sl_st_GInst_pure, r_st_GMiss_pure])⟩, List.forall_mem_cons.2 ⟨⟨⟨_, rfl, Wv.refl _⟩, (by simp [pureA, pureL, pureR, inA, inL, inR, inO, idsIn, encs_pure, enxs_pure, enys_pure, valC_pure, exC_pure, tyC_pure, r_int_u8_pure, r_st_GInst_pure, r_sl_st_GInst_pure, r_st_GMiss_pure])⟩, (fun _ h => by cases h)⟩⟩⟩⟩⟩, List.forall_mem_cons.2 ⟨⟨⟨_, rfl, ⟨rfl, ⟨Wv.refl _, Wv.refl _, Wv.refl _, Wv.refl _, Wv.refl _, Wv.refl _, Wv.refl _, Wv.refl _, trivial⟩⟩⟩, (by simp [pureA, pureL, pureR, inA, inL, inR, inO, idsIn, encs_pure, enxs_pure, enys_pure, valC_pure, exC_pure, tyC_pure, r_int_u8_pure, r_st_GInst_pure, r_sl_st_GInst_pure, r_st_GMiss_pure])⟩, List.forall_mem_cons.2 ⟨⟨⟨_, rfl, ⟨rfl, ⟨Wv.refl _, Wv.refl _, Wv.refl _, Wv.refl _, Wv.refl _, Wv.refl _, Wv.refl _, Wv.refl _, trivial⟩⟩⟩, (by simp [pureA, pureL, pureR, inA, inL, inR, inO, idsIn, encs_pure, enxs_pure, enys_pure, valC_pure, exC_pure, tyC_pure, r_int_u8_pure, r_st_GInst_pure, r_sl_st_GInst_pure, r_st_GMiss_pure])⟩, (fun _ h => by cases h)⟩⟩⟩ ⟨hr, Nat.le_refl _⟩ (fun ⟨m, v1_1, v1_2, v1_3⟩ hx => ?_)
      obtain ⟨hr, hm⟩ := hx
      try dsimp only at hr hm
      cases m with
      | zero => rw [s_f15_l1] at hr; cases hr
      | succ m =>
        rw [s_f15_l1] at hr
        show AW Try.prog _ _ _ (mkS 169 [(0, .sl .ro 1 (r_int_u8 a0)), (1, .int .i64 a1), (5, .ptr 2 0), (6, .ptr 4 0), (7, .int .i64 (v1_1 : Int))] [(2, .box 27 [.str ⟨#[101, 113]⟩, .int .i64 0, .int .i64 0, .bool false, .str ⟨#[]⟩, .sl .ro 5 (encs []), .int .i64 0, .sl .ro 8 (enxs [(Ex.mk ⟨#[114, 101, 109]⟩ (Val.mk 0 0 false ⟨#[]⟩ []) 0 [(Ex.mk ⟨#[120]⟩ (Val.mk 0 0 false ⟨#[]⟩ []) 0 []), (Ex.mk ⟨#[108, 105, 116]⟩ (Val.mk 1 0 false ⟨#[]⟩ []) 0 [])]), (Ex.mk ⟨#[120]⟩ (Val.mk 0 0 false ⟨#[]⟩ []) 0 [])])]), (4, .box 27 [.str v1_2, .int .i64 0, .int .i64 0, .bool false, .str ⟨#[]⟩, .sl .ro 5 (encs []), .int .i64 0, .sl .ro 8 (enxs v1_3)])])
        refine AW.seq ?_
        refine AW.seq ?_
        refine AW.region (M := fun _ => true) ?_
        refine AL.v good (d := 34) (v := .int .i64 (v1_1 : Int)) rfl rfl rfl rfl ?_
        refine AL.v good (d := 35) (v := .sl .ro 1 (r_int_u8 a0)) rfl rfl rfl rfl ?_
        refine AL.ln good (d := 36) (m := a0.length) rfl rfl rfl rfl rfl rfl (r_int_u8_length _) ?_
        refine AL.v good (d := 37) (v := .bool (decide ((v1_1 : Int) < (a0.length : Int)))) rfl rfl rfl rfl ?_
        refine AW.if rfl (fun h19 => ?_) (fun h19 => ?_)
        · replace hr := cnd_t h19 hr
          refine AW.skip ?_
          refine AW.seq ?_
          refine AW.block ?_
          refine AW.seq ?_
          refine AW.region (M := fun _ => true) ?_
          refine AL.v good (d := 40) (v := .sl .ro 1 (r_int_u8 a0)) rfl rfl rfl rfl ?_
          refine AL.v good (d := 41) (v := .int .i64 (v1_1 : Int)) rfl rfl rfl rfl ?_
          obtain ⟨x20, h21, hr⟩ := bnd1 hr
          refine AL.ix good (d := 42) (r := [.int .u8 x20]) rfl rfl rfl rfl rfl rfl rfl (Int.natCast_nonneg _) (r_int_u8_get h21) ?_
          refine AL.v good (d := 43) (v := .int .u8 x20) rfl rfl rfl rfl ?_
          refine AL.v good (d := 44) (v := .int .u8 (IntKind.u8.wrap (x20.tdiv 8))) rfl rfl rfl rfl ?_
          refine AL.v good (d := 45) (v := .int .u8 ((IntKind.u8.wrap (x20.tdiv 8)).tmod 2)) rfl rfl rfl rfl ?_
          refine AL.v good (d := 46) (v := .bool (((IntKind.u8.wrap (x20.tdiv 8)).tmod 2) == 0)) rfl rfl rfl rfl ?_
          refine AL.cw good (d := 47) (xs := [.bool (((IntKind.u8.wrap (x20.tdiv 8)).tmod 2) == 0)]) (res := .agg [.int .i64 2, .int .i64 0, .bool (((IntKind.u8.wrap (x20.tdiv 8)).tmod 2) == 0), .str ⟨#[]⟩, .sl .ro 5 (encs [])]) rfl rfl rfl rfl rfl rfl rfl (w_f32 (((IntKind.u8.wrap (x20.tdiv 8)).tmod 2) == 0)) ⟨(Wv.refl _), trivial⟩ (by simp [pureA, pureL, pureR, inA, inL, inR, inO, idsIn, encs_pure, enxs_pure, enys_pure, valC_pure, exC_pure, tyC_pure, r_int_u8_pure, r_st_GInst_pure, r_sl_st_GInst_pure, r_st_GMiss_pure]) ?_
          refine AL.cw good (d := 48) (xs := [.agg (valC (Val.mk 2 0 (((IntKind.u8.wrap (x20.tdiv 8)).tmod 2) == 0) ⟨#[]⟩ []))]) (res := .agg [.str ⟨#[108, 105, 116]⟩, .int .i64 2, .int .i64 0, .bool (((IntKind.u8.wrap (x20.tdiv 8)).tmod 2) == 0), .str ⟨#[]⟩, .sl .ro 5 (encs []), .int .i64 0, .sl .ro 8 (enxs [])]) rfl rfl rfl rfl rfl rfl rfl (w_f31 (Val.mk 2 0 (((IntKind.u8.wrap (x20.tdiv 8)).tmod 2) == 0) ⟨#[]⟩ [])) ⟨(Wv.refl _), trivial⟩ (by simp [pureA, pureL, pureR, inA, inL, inR, inO, idsIn, encs_pure, enxs_pure, enys_pure, valC_pure, exC_pure, tyC_pure, r_int_u8_pure, r_st_GInst_pure, r_sl_st_GInst_pure, r_st_GMiss_pure]) ?_
          refine AL.alc good (d := 8) rfl rfl rfl rfl rfl 5 rfl ?_
          refine AL.st2 good (c2 := [.str ⟨#[108, 105, 116]⟩, .int .i64 2, .int .i64 0, .bool (((IntKind.u8.wrap (x20.tdiv 8)).tmod 2) == 0), .str ⟨#[]⟩, .sl .ro 5 (encs []), .int .i64 0, .sl .ro 8 (enxs [])]) rfl rfl rfl rfl rfl rfl rfl rfl rfl rfl rfl rfl ?_
          refine AW.seq ?_
          refine AW.region (M := fun _ => true) ?_
          refine AL.v good (d := 49) (v := .sl .ro 1 (r_int_u8 a0)) rfl rfl rfl rfl ?_
          refine AL.v good (d := 50) (v := .int .i64 (v1_1 : Int)) rfl rfl rfl rfl ?_
          obtain ⟨x22, h23, hr⟩ := bnd1 hr
          refine AL.ix good (d := 51) (r := [.int .u8 x22]) rfl rfl rfl rfl rfl rfl rfl (Int.natCast_nonneg _) (r_int_u8_get h23) ?_
          refine AL.v good (d := 52) (v := .int .u8 x22) rfl rfl rfl rfl ?_
          refine AL.v good (d := 53) (v := .int .u8 (x22.tmod 6)) rfl rfl rfl rfl ?_
          refine AW.block ?_
          refine AW.seq ?_
          refine AW.region (M := fun _ => true) ?_
          refine AL.v good (d := 55) (v := .bool ((x22.tmod 6) == 0)) rfl rfl rfl rfl ?_
          refine AL.v good (d := 54) (v := .bool ((x22.tmod 6) == 0)) rfl rfl rfl rfl ?_
          refine AW.if rfl (fun h24 => ?_) (fun h24 => ?_)
          · replace hr := cnd_t h24 hr
            refine AW.region (M := fun _ => true) ?_
            refine AL.v good (d := 56) (v := .agg [.str ⟨#[108, 105, 116]⟩, .int .i64 2, .int .i64 0, .bool (((IntKind.u8.wrap (x20.tdiv 8)).tmod 2) == 0), .str ⟨#[]⟩, .sl .ro 5 (encs []), .int .i64 0, .sl .ro 8 (enxs [])]) rfl rfl rfl rfl ?_
            refine AL.v good (d := 57) (v := .agg [.str v1_2, .int .i64 0, .int .i64 0, .bool false, .str ⟨#[]⟩, .sl .ro 5 (encs []), .int .i64 0, .sl .ro 8 (enxs v1_3)]) rfl rfl rfl rfl ?_
            refine AL.lit good (d := 58) (rows := [[.str ⟨#[108, 105, 116]⟩, .int .i64 2, .int .i64 0, .bool (((IntKind.u8.wrap (x20.tdiv 8)).tmod 2) == 0), .str ⟨#[]⟩, .sl .ro 5 (encs []), .int .i64 0, .sl .ro 8 (enxs [])], [.str v1_2, .int .i64 0, .int .i64 0, .bool false, .str ⟨#[]⟩, .sl .ro 5 (encs []), .int .i64 0, .sl .ro 8 (enxs v1_3)]]) rfl rfl rfl rfl rfl rfl rfl rfl rfl 6 rfl ?_
            refine AL.cw good (d := 59) (xs := [.str ⟨#[97, 110, 100]⟩, .sl .ro 8 (enxs [(Ex.mk ⟨#[108, 105, 116]⟩ (Val.mk 2 0 (((IntKind.u8.wrap (x20.tdiv 8)).tmod 2) == 0) ⟨#[]⟩ []) 0 []), (Ex.mk v1_2 (Val.mk 0 0 false ⟨#[]⟩ []) 0 v1_3)])]) (res := .agg [.str ⟨#[97, 110, 100]⟩, .int .i64 0, .int .i64 0, .bool false, .str ⟨#[]⟩, .sl .ro 5 (encs []), .int .i64 0, .sl .ro 8 (enxs [(Ex.mk ⟨#[108, 105, 116]⟩ (Val.mk 2 0 (((IntKind.u8.wrap (x20.tdiv 8)).tmod 2) == 0) ⟨#[]⟩ []) 0 []), (Ex.mk v1_2 (Val.mk 0 0 false ⟨#[]⟩ []) 0 v1_3)])]) rfl rfl rfl rfl rfl rfl rfl (w_f30 ⟨#[97, 110, 100]⟩ [(Ex.mk ⟨#[108, 105, 116]⟩ (Val.mk 2 0 (((IntKind.u8.wrap (x20.tdiv 8)).tmod 2) == 0) ⟨#[]⟩ []) 0 []), (Ex.mk v1_2 (Val.mk 0 0 false ⟨#[]⟩ []) 0 v1_3)]) ⟨(Wv.refl _), ⟨.inr rfl, (WvR_enxs ⟨⟨Wv.refl _, Wv.refl _, Wv.refl _, Wv.refl _, Wv.refl _, Wv.refl _, Wv.refl _, Wv.refl _, trivial⟩, ⟨Wv.refl _, Wv.refl _, Wv.refl _, Wv.refl _, Wv.refl _, Wv.refl _, Wv.refl _, Wv.refl _, trivial⟩, trivial⟩), .inl rfl⟩, trivial⟩ (by simp [pureA, pureL, pureR, inA, inL, inR, inO, idsIn, encs_pure, enxs_pure, enys_pure, valC_pure, exC_pure, tyC_pure, r_int_u8_pure, r_st_GInst_pure, r_sl_st_GInst_pure, r_st_GMiss_pure]) ?_
            refine AL.st2 good (c2 := [.str ⟨#[97, 110, 100]⟩, .int .i64 0, .int .i64 0, .bool false, .str ⟨#[]⟩, .sl .ro 5 (encs []), .int .i64 0, .sl .ro 8 (enxs [(Ex.mk ⟨#[108, 105, 116]⟩ (Val.mk 2 0 (((IntKind.u8.wrap (x20.tdiv 8)).tmod 2) == 0) ⟨#[]⟩ []) 0 []), (Ex.mk v1_2 (Val.mk 0 0 false ⟨#[]⟩ []) 0 v1_3)])]) rfl rfl rfl rfl rfl rfl rfl rfl rfl rfl rfl rfl ?_
            refine AW.region (M := fun _ => true) ?_
            refine AL.v good (d := 38) (v := .int .i64 (v1_1 : Int)) rfl rfl rfl rfl ?_
            refine AL.v good (d := 39) (v := .int .i64 (IntKind.i64.wrap ((v1_1 : Int) + 1))) rfl rfl rfl rfl ?_
            refine AL.v good (d := 7) (v := .int .i64 (IntKind.i64.wrap ((v1_1 : Int) + 1))) rfl rfl rfl rfl ?_
            exact ⟨(m, (v1_1 + 1), ⟨#[97, 110, 100]⟩, [(Ex.mk ⟨#[108, 105, 116]⟩ (Val.mk 2 0 (((IntKind.u8.wrap (x20.tdiv 8)).tmod 2) == 0) ⟨#[]⟩ []) 0 []), (Ex.mk v1_2 (Val.mk 0 0 false ⟨#[]⟩ []) 0 v1_3)]), _, _, rfl, ⟨(fun _ h => by cases h), List.forall_mem_cons.2 ⟨⟨⟨_, rfl, Wv.refl _⟩, (by simp [pureA, pureL, pureR, inA, inL, inR, inO, idsIn, encs_pure, enxs_pure, enys_pure, valC_pure, exC_pure, tyC_pure, r_int_u8_pure, r_st_GInst_pure, r_sl_st_GInst_pure, r_st_GMiss_pure])⟩, List.forall_mem_cons.2 ⟨⟨⟨_, rfl, Wv.refl _⟩, (by simp [pureA, pureL, pureR, inA, inL, inR, inO, idsIn, encs_pure, enxs_pure, enys_pure, valC_pure, exC_pure, tyC_pure, r_int_u8_pure, r_st_GInst_pure, r_sl_st_GInst_pure, r_st_GMiss_pure])⟩, List.forall_mem_cons.2 ⟨⟨⟨_, rfl, Wv.refl _⟩, (by simp [pureA, pureL, pureR, inA, inL, inR, inO, idsIn, encs_pure, enxs_pure, enys_pure, valC_pure, exC_pure, tyC_pure, r_int_u8_pure, r_st_GInst_pure, r_sl_st_GInst_pure, r_st_GMiss_pure])⟩, List.forall_mem_cons.2 ⟨⟨⟨_, rfl, Wv.refl _⟩, (by simp [pureA, pureL, pureR, inA, inL, inR, inO, idsIn, encs_pure, enxs_pure, enys_pure, valC_pure, exC_pure, tyC_pure, r_int_u8_pure, r_st_GInst_pure, r_sl_st_GInst_pure, r_st_GMiss_pure])⟩, List.forall_mem_cons.2 ⟨⟨⟨_, rfl, (wnx h19 hl18)⟩, (by simp [pureA, pureL, pureR, inA, inL, inR, inO, idsIn, encs_pure, enxs_pure, enys_pure, valC_pure, exC_pure, tyC_pure, r_int_u8_pure, r_st_GInst_pure, r_sl_st_GInst_pure, r_st_GMiss_pure])⟩, (fun _ h => by cases h)⟩⟩⟩⟩⟩, List.forall_mem_cons.2 ⟨⟨⟨_, rfl, ⟨rfl, ⟨Wv.refl _, Wv.refl _, Wv.refl _, Wv.refl _, Wv.refl _, Wv.refl _, Wv.refl _, Wv.refl _, trivial⟩⟩⟩, (by simp [pureA, pureL, pureR, inA, inL, inR, inO, idsIn, encs_pure, enxs_pure, enys_pure, valC_pure, exC_pure, tyC_pure, r_int_u8_pure, r_st_GInst_pure, r_sl_st_GInst_pure, r_st_GMiss_pure])⟩, List.forall_mem_cons.2 ⟨⟨⟨_, rfl, ⟨rfl, ⟨Wv.refl _, Wv.refl _, Wv.refl _, Wv.refl _, Wv.refl _, Wv.refl _, Wv.refl _, Wv.refl _, trivial⟩⟩⟩, (by simp [pureA, pureL, pureR, inA, inL, inR, inO, idsIn, encs_pure, enxs_pure, enys_pure, valC_pure, exC_pure, tyC_pure, r_int_u8_pure, r_st_GInst_pure, r_sl_st_GInst_pure, r_st_GMiss_pure])⟩, (fun _ h => by cases h)⟩⟩⟩, ⟨hr, Nat.le_of_succ_le hm⟩, Nat.lt_succ_self _⟩
          · replace hr := cnd_f h24 hr
            refine AW.seq ?_
            refine AW.region (M := fun _ => true) ?_
            refine AL.v good (d := 61) (v := .bool ((x22.tmod 6) == 1)) rfl rfl rfl rfl ?_
            refine AL.v good (d := 60) (v := .bool ((x22.tmod 6) == 1)) rfl rfl rfl rfl ?_
            refine AW.if rfl (fun h25 => ?_) (fun h25 => ?_)
            · replace hr := cnd_t h25 hr
              refine AW.region (M := fun _ => true) ?_
              refine AL.v good (d := 62) (v := .agg [.str ⟨#[108, 105, 116]⟩, .int .i64 2, .int .i64 0, .bool (((IntKind.u8.wrap (x20.tdiv 8)).tmod 2) == 0), .str ⟨#[]⟩, .sl .ro 5 (encs []), .int .i64 0, .sl .ro 8 (enxs [])]) rfl rfl rfl rfl ?_
              refine AL.v good (d := 63) (v := .agg [.str v1_2, .int .i64 0, .int .i64 0, .bool false, .str ⟨#[]⟩, .sl .ro 5 (encs []), .int .i64 0, .sl .ro 8 (enxs v1_3)]) rfl rfl rfl rfl ?_
              refine AL.lit good (d := 64) (rows := [[.str ⟨#[108, 105, 116]⟩, .int .i64 2, .int .i64 0, .bool (((IntKind.u8.wrap (x20.tdiv 8)).tmod 2) == 0), .str ⟨#[]⟩, .sl .ro 5 (encs []), .int .i64 0, .sl .ro 8 (enxs [])], [.str v1_2, .int .i64 0, .int .i64 0, .bool false, .str ⟨#[]⟩, .sl .ro 5 (encs []), .int .i64 0, .sl .ro 8 (enxs v1_3)]]) rfl rfl rfl rfl rfl rfl rfl rfl rfl 6 rfl ?_
              refine AL.cw good (d := 65) (xs := [.str ⟨#[111, 114]⟩, .sl .ro 8 (enxs [(Ex.mk ⟨#[108, 105, 116]⟩ (Val.mk 2 0 (((IntKind.u8.wrap (x20.tdiv 8)).tmod 2) == 0) ⟨#[]⟩ []) 0 []), (Ex.mk v1_2 (Val.mk 0 0 false ⟨#[]⟩ []) 0 v1_3)])]) (res := .agg [.str ⟨#[111, 114]⟩, .int .i64 0, .int .i64 0, .bool false, .str ⟨#[]⟩, .sl .ro 5 (encs []), .int .i64 0, .sl .ro 8 (enxs [(Ex.mk ⟨#[108, 105, 116]⟩ (Val.mk 2 0 (((IntKind.u8.wrap (x20.tdiv 8)).tmod 2) == 0) ⟨#[]⟩ []) 0 []), (Ex.mk v1_2 (Val.mk 0 0 false ⟨#[]⟩ []) 0 v1_3)])]) rfl rfl rfl rfl rfl rfl rfl (w_f30 ⟨#[111, 114]⟩ [(Ex.mk ⟨#[108, 105, 116]⟩ (Val.mk 2 0 (((IntKind.u8.wrap (x20.tdiv 8)).tmod 2) == 0) ⟨#[]⟩ []) 0 []), (Ex.mk v1_2 (Val.mk 0 0 false ⟨#[]⟩ []) 0 v1_3)]) ⟨(Wv.refl _), ⟨.inr rfl, (WvR_enxs ⟨⟨Wv.refl _, Wv.refl _, Wv.refl _, Wv.refl _, Wv.refl _, Wv.refl _, Wv.refl _, Wv.refl _, trivial⟩, ⟨Wv.refl _, Wv.refl _, Wv.refl _, Wv.refl _, Wv.refl _, Wv.refl _, Wv.refl _, Wv.refl _, trivial⟩, trivial⟩), .inl rfl⟩, trivial⟩ (by simp [pureA, pureL, pureR, inA, inL, inR, inO, idsIn, encs_pure, enxs_pure, enys_pure, valC_pure, exC_pure, tyC_pure, r_int_u8_pure, r_st_GInst_pure, r_sl_st_GInst_pure, r_st_GMiss_pure]) ?_
              refine AL.st2 good (c2 := [.str ⟨#[111, 114]⟩, .int .i64 0, .int .i64 0, .bool false, .str ⟨#[]⟩, .sl .ro 5 (encs []), .int .i64 0, .sl .ro 8 (enxs [(Ex.mk ⟨#[108, 105, 116]⟩ (Val.mk 2 0 (((IntKind.u8.wrap (x20.tdiv 8)).tmod 2) == 0) ⟨#[]⟩ []) 0 []), (Ex.mk v1_2 (Val.mk 0 0 false ⟨#[]⟩ []) 0 v1_3)])]) rfl rfl rfl rfl rfl rfl rfl rfl rfl rfl rfl rfl ?_
              refine AW.region (M := fun _ => true) ?_
              refine AL.v good (d := 38) (v := .int .i64 (v1_1 : Int)) rfl rfl rfl rfl ?_
              refine AL.v good (d := 39) (v := .int .i64 (IntKind.i64.wrap ((v1_1 : Int) + 1))) rfl rfl rfl rfl ?_
              refine AL.v good (d := 7) (v := .int .i64 (IntKind.i64.wrap ((v1_1 : Int) + 1))) rfl rfl rfl rfl ?_
              exact ⟨(m, (v1_1 + 1), ⟨#[111, 114]⟩, [(Ex.mk ⟨#[108, 105, 116]⟩ (Val.mk 2 0 (((IntKind.u8.wrap (x20.tdiv 8)).tmod 2) == 0) ⟨#[]⟩ []) 0 []), (Ex.mk v1_2 (Val.mk 0 0 false ⟨#[]⟩ []) 0 v1_3)]), _, _, rfl, ⟨(fun _ h => by cases h), List.forall_mem_cons.2 ⟨⟨⟨_, rfl, Wv.refl _⟩, (by simp [pureA, pureL, pureR, inA, inL, inR, inO, idsIn, encs_pure, enxs_pure, enys_pure, valC_pure, exC_pure, tyC_pure, r_int_u8_pure, r_st_GInst_pure, r_sl_st_GInst_pure, r_st_GMiss_pure])⟩, List.forall_mem_cons.2 ⟨⟨⟨_, rfl, Wv.refl _⟩, (by simp [pureA, pureL, pureR, inA, inL, inR, inO, idsIn, encs_pure, enxs_pure, enys_pure, valC_pure, exC_pure, tyC_pure, r_int_u8_pure, r_st_GInst_pure, r_sl_st_GInst_pure, r_st_GMiss_pure])⟩, List.forall_mem_cons.2 ⟨⟨⟨_, rfl, Wv.refl _⟩, (by simp [pureA, pureL, pureR, inA, inL, inR, inO, idsIn, encs_pure, enxs_pure, enys_pure, valC_pure, exC_pure, tyC_pure, r_int_u8_pure, r_st_GInst_pure, r_sl_st_GInst_pure, r_st_GMiss_pure])⟩, List.forall_mem_cons.2 ⟨⟨⟨_, rfl, Wv.refl _⟩, (by simp [pureA, pureL, pureR, inA, inL, inR, inO, idsIn, encs_pure, enxs_pure, enys_pure, valC_pure, exC_pure, tyC_pure, r_int_u8_pure, r_st_GInst_pure, r_sl_st_GInst_pure, r_st_GMiss_pure])⟩, List.forall_mem_cons.2 ⟨⟨⟨_, rfl, (wnx h19 hl18)⟩, (by simp [pureA, pureL, pureR, inA, inL, inR, inO, idsIn, encs_pure, enxs_pure, enys_pure, valC_pure, exC_pure, tyC_pure, r_int_u8_pure, r_st_GInst_pure, r_sl_st_GInst_pure, r_st_GMiss_pure])⟩, (fun _ h => by cases h)⟩⟩⟩⟩⟩, List.forall_mem_cons.2 ⟨⟨⟨_, rfl, ⟨rfl, ⟨Wv.refl _, Wv.refl _, Wv.refl _, Wv.refl _, Wv.refl _, Wv.refl _, Wv.refl _, Wv.refl _, trivial⟩⟩⟩, (by simp [pureA, pureL, pureR, inA, inL, inR, inO, idsIn, encs_pure, enxs_pure, enys_pure, valC_pure, exC_pure, tyC_pure, r_int_u8_pure, r_st_GInst_pure, r_sl_st_GInst_pure, r_st_GMiss_pure])⟩, List.forall_mem_cons.2 ⟨⟨⟨_, rfl, ⟨rfl, ⟨Wv.refl _, Wv.refl _, Wv.refl _, Wv.refl _, Wv.refl _, Wv.refl _, Wv.refl _, Wv.refl _, trivial⟩⟩⟩, (by simp [pureA, pureL, pureR, inA, inL, inR, inO, idsIn, encs_pure, enxs_pure, enys_pure, valC_pure, exC_pure, tyC_pure, r_int_u8_pure, r_st_GInst_pure, r_sl_st_GInst_pure, r_st_GMiss_pure])⟩, (fun _ h => by cases h)⟩⟩⟩, ⟨hr, Nat.le_of_succ_le hm⟩, Nat.lt_succ_self _⟩
            · replace hr := cnd_f h25 hr
              refine AW.seq ?_
              refine AW.region (M := fun _ => true) ?_
              refine AL.v good (d := 67) (v := .bool ((x22.tmod 6) == 2)) rfl rfl rfl rfl ?_
              refine AL.v good (d := 66) (v := .bool ((x22.tmod 6) == 2)) rfl rfl rfl rfl ?_
              refine AW.if rfl (fun h26 => ?_) (fun h26 => ?_)
              · replace hr := cnd_t h26 hr
                refine AW.region (M := fun _ => true) ?_
                refine AL.v good (d := 68) (v := .agg [.str ⟨#[108, 105, 116]⟩, .int .i64 2, .int .i64 0, .bool (((IntKind.u8.wrap (x20.tdiv 8)).tmod 2) == 0), .str ⟨#[]⟩, .sl .ro 5 (encs []), .int .i64 0, .sl .ro 8 (enxs [])]) rfl rfl rfl rfl ?_
                refine AL.v good (d := 69) (v := .agg [.str v1_2, .int .i64 0, .int .i64 0, .bool false, .str ⟨#[]⟩, .sl .ro 5 (encs []), .int .i64 0, .sl .ro 8 (enxs v1_3)]) rfl rfl rfl rfl ?_
                refine AL.v good (d := 70) (v := .agg [.str ⟨#[101, 113]⟩, .int .i64 0, .int .i64 0, .bool false, .str ⟨#[]⟩, .sl .ro 5 (encs []), .int .i64 0, .sl .ro 8 (enxs [(Ex.mk ⟨#[114, 101, 109]⟩ (Val.mk 0 0 false ⟨#[]⟩ []) 0 [(Ex.mk ⟨#[120]⟩ (Val.mk 0 0 false ⟨#[]⟩ []) 0 []), (Ex.mk ⟨#[108, 105, 116]⟩ (Val.mk 1 0 false ⟨#[]⟩ []) 0 [])]), (Ex.mk ⟨#[120]⟩ (Val.mk 0 0 false ⟨#[]⟩ []) 0 [])])]) rfl rfl rfl rfl ?_
                refine AL.lit good (d := 71) (rows := [[.str ⟨#[108, 105, 116]⟩, .int .i64 2, .int .i64 0, .bool (((IntKind.u8.wrap (x20.tdiv 8)).tmod 2) == 0), .str ⟨#[]⟩, .sl .ro 5 (encs []), .int .i64 0, .sl .ro 8 (enxs [])], [.str v1_2, .int .i64 0, .int .i64 0, .bool false, .str ⟨#[]⟩, .sl .ro 5 (encs []), .int .i64 0, .sl .ro 8 (enxs v1_3)], [.str ⟨#[101, 113]⟩, .int .i64 0, .int .i64 0, .bool false, .str ⟨#[]⟩, .sl .ro 5 (encs []), .int .i64 0, .sl .ro 8 (enxs [(Ex.mk ⟨#[114, 101, 109]⟩ (Val.mk 0 0 false ⟨#[]⟩ []) 0 [(Ex.mk ⟨#[120]⟩ (Val.mk 0 0 false ⟨#[]⟩ []) 0 []), (Ex.mk ⟨#[108, 105, 116]⟩ (Val.mk 1 0 false ⟨#[]⟩ []) 0 [])]), (Ex.mk ⟨#[120]⟩ (Val.mk 0 0 false ⟨#[]⟩ []) 0 [])])]]) rfl rfl rfl rfl rfl rfl rfl rfl rfl 6 rfl ?_
                refine AL.cw good (d := 72) (xs := [.str ⟨#[105, 102]⟩, .sl .ro 8 (enxs [(Ex.mk ⟨#[108, 105, 116]⟩ (Val.mk 2 0 (((IntKind.u8.wrap (x20.tdiv 8)).tmod 2) == 0) ⟨#[]⟩ []) 0 []), (Ex.mk v1_2 (Val.mk 0 0 false ⟨#[]⟩ []) 0 v1_3), (Ex.mk ⟨#[101, 113]⟩ (Val.mk 0 0 false ⟨#[]⟩ []) 0 [(Ex.mk ⟨#[114, 101, 109]⟩ (Val.mk 0 0 false ⟨#[]⟩ []) 0 [(Ex.mk ⟨#[120]⟩ (Val.mk 0 0 false ⟨#[]⟩ []) 0 []), (Ex.mk ⟨#[108, 105, 116]⟩ (Val.mk 1 0 false ⟨#[]⟩ []) 0 [])]), (Ex.mk ⟨#[120]⟩ (Val.mk 0 0 false ⟨#[]⟩ []) 0 [])])])]) (res := .agg [.str ⟨#[105, 102]⟩, .int .i64 0, .int .i64 0, .bool false, .str ⟨#[]⟩, .sl .ro 5 (encs []), .int .i64 0, .sl .ro 8 (enxs [(Ex.mk ⟨#[108, 105, 116]⟩ (Val.mk 2 0 (((IntKind.u8.wrap (x20.tdiv 8)).tmod 2) == 0) ⟨#[]⟩ []) 0 []), (Ex.mk v1_2 (Val.mk 0 0 false ⟨#[]⟩ []) 0 v1_3), (Ex.mk ⟨#[101, 113]⟩ (Val.mk 0 0 false ⟨#[]⟩ []) 0 [(Ex.mk ⟨#[114, 101, 109]⟩ (Val.mk 0 0 false ⟨#[]⟩ []) 0 [(Ex.mk ⟨#[120]⟩ (Val.mk 0 0 false ⟨#[]⟩ []) 0 []), (Ex.mk ⟨#[108, 105, 116]⟩ (Val.mk 1 0 false ⟨#[]⟩ []) 0 [])]), (Ex.mk ⟨#[120]⟩ (Val.mk 0 0 false ⟨#[]⟩ []) 0 [])])])]) rfl rfl rfl rfl rfl rfl rfl (w_f30 ⟨#[105, 102]⟩ [(Ex.mk ⟨#[108, 105, 116]⟩ (Val.mk 2 0 (((IntKind.u8.wrap (x20.tdiv 8)).tmod 2) == 0) ⟨#[]⟩ []) 0 []), (Ex.mk v1_2 (Val.mk 0 0 false ⟨#[]⟩ []) 0 v1_3), (Ex.mk ⟨#[101, 113]⟩ (Val.mk 0 0 false ⟨#[]⟩ []) 0 [(Ex.mk ⟨#[114, 101, 109]⟩ (Val.mk 0 0 false ⟨#[]⟩ []) 0 [(Ex.mk ⟨#[120]⟩ (Val.mk 0 0 false ⟨#[]⟩ []) 0 []), (Ex.mk ⟨#[108, 105, 116]⟩ (Val.mk 1 0 false ⟨#[]⟩ []) 0 [])]), (Ex.mk ⟨#[120]⟩ (Val.mk 0 0 false ⟨#[]⟩ []) 0 [])])]) ⟨(Wv.refl _), ⟨.inr rfl, (WvR_enxs ⟨⟨Wv.refl _, Wv.refl _, Wv.refl _, Wv.refl _, Wv.refl _, Wv.refl _, Wv.refl _, Wv.refl _, trivial⟩, ⟨Wv.refl _, Wv.refl _, Wv.refl _, Wv.refl _, Wv.refl _, Wv.refl _, Wv.refl _, Wv.refl _, trivial⟩, ⟨Wv.refl _, Wv.refl _, Wv.refl _, Wv.refl _, Wv.refl _, Wv.refl _, Wv.refl _, Wv.refl _, trivial⟩, trivial⟩), .inl rfl⟩, trivial⟩ (by simp [pureA, pureL, pureR, inA, inL, inR, inO, idsIn, encs_pure, enxs_pure, enys_pure, valC_pure, exC_pure, tyC_pure, r_int_u8_pure, r_st_GInst_pure, r_sl_st_GInst_pure, r_st_GMiss_pure]) ?_
                refine AL.st2 good (c2 := [.str ⟨#[105, 102]⟩, .int .i64 0, .int .i64 0, .bool false, .str ⟨#[]⟩, .sl .ro 5 (encs []), .int .i64 0, .sl .ro 8 (enxs [(Ex.mk ⟨#[108, 105, 116]⟩ (Val.mk 2 0 (((IntKind.u8.wrap (x20.tdiv 8)).tmod 2) == 0) ⟨#[]⟩ []) 0 []), (Ex.mk v1_2 (Val.mk 0 0 false ⟨#[]⟩ []) 0 v1_3), (Ex.mk ⟨#[101, 113]⟩ (Val.mk 0 0 false ⟨#[]⟩ []) 0 [(Ex.mk ⟨#[114, 101, 109]⟩ (Val.mk 0 0 false ⟨#[]⟩ []) 0 [(Ex.mk ⟨#[120]⟩ (Val.mk 0 0 false ⟨#[]⟩ []) 0 []), (Ex.mk ⟨#[108, 105, 116]⟩ (Val.mk 1 0 false ⟨#[]⟩ []) 0 [])]), (Ex.mk ⟨#[120]⟩ (Val.mk 0 0 false ⟨#[]⟩ []) 0 [])])])]) rfl rfl rfl rfl rfl rfl rfl rfl rfl rfl rfl rfl ?_
                refine AW.region (M := fun _ => true) ?_
                refine AL.v good (d := 38) (v := .int .i64 (v1_1 : Int)) rfl rfl rfl rfl ?_
                refine AL.v good (d := 39) (v := .int .i64 (IntKind.i64.wrap ((v1_1 : Int) + 1))) rfl rfl rfl rfl ?_
                refine AL.v good (d := 7) (v := .int .i64 (IntKind.i64.wrap ((v1_1 : Int) + 1))) rfl rfl rfl rfl ?_
                exact ⟨(m, (v1_1 + 1), ⟨#[105, 102]⟩, [(Ex.mk ⟨#[108, 105, 116]⟩ (Val.mk 2 0 (((IntKind.u8.wrap (x20.tdiv 8)).tmod 2) == 0) ⟨#[]⟩ []) 0 []), (Ex.mk v1_2 (Val.mk 0 0 false ⟨#[]⟩ []) 0 v1_3), (Ex.mk ⟨#[101, 113]⟩ (Val.mk 0 0 false ⟨#[]⟩ []) 0 [(Ex.mk ⟨#[114, 101, 109]⟩ (Val.mk 0 0 false ⟨#[]⟩ []) 0 [(Ex.mk ⟨#[120]⟩ (Val.mk 0 0 false ⟨#[]⟩ []) 0 []), (Ex.mk ⟨#[108, 105, 116]⟩ (Val.mk 1 0 false ⟨#[]⟩ []) 0 [])]), (Ex.mk ⟨#[120]⟩ (Val.mk 0 0 false ⟨#[]⟩ []) 0 [])])]), _, _, rfl, ⟨(fun _ h => by cases h), List.forall_mem_cons.2 ⟨⟨⟨_, rfl, Wv.refl _⟩, (by simp [pureA, pureL, pureR, inA, inL, inR, inO, idsIn, encs_pure, enxs_pure, enys_pure, valC_pure, exC_pure, tyC_pure, r_int_u8_pure, r_st_GInst_pure, r_sl_st_GInst_pure, r_st_GMiss_pure])⟩, List.forall_mem_cons.2 ⟨⟨⟨_, rfl, Wv.refl _⟩, (by simp [pureA, pureL, pureR, inA, inL, inR, inO, idsIn, encs_pure, enxs_pure, enys_pure, valC_pure, exC_pure, tyC_pure, r_int_u8_pure, r_st_GInst_pure, r_sl_st_GInst_pure, r_st_GMiss_pure])⟩, List.forall_mem_cons.2 ⟨⟨⟨_, rfl, Wv.refl _⟩, (by simp [pureA, pureL, pureR, inA, inL, inR, inO, idsIn, encs_pure, enxs_pure, enys_pure, valC_pure, exC_pure, tyC_pure, r_int_u8_pure, r_st_GInst_pure, r_sl_st_GInst_pure, r_st_GMiss_pure])⟩, List.forall_mem_cons.2 ⟨⟨⟨_, rfl, Wv.refl _⟩, (by simp [pureA, pureL, pureR, inA, inL, inR, inO, idsIn, encs_pure, enxs_pure, enys_pure, valC_pure, exC_pure, tyC_pure, r_int_u8_pure, r_st_GInst_pure, r_sl_st_GInst_pure, r_st_GMiss_pure])⟩, List.forall_mem_cons.2 ⟨⟨⟨_, rfl, (wnx h19 hl18)⟩, (by simp [pureA, pureL, pureR, inA, inL, inR, inO, idsIn, encs_pure, enxs_pure, enys_pure, valC_pure, exC_pure, tyC_pure, r_int_u8_pure, r_st_GInst_pure, r_sl_st_GInst_pure, r_st_GMiss_pure])⟩, (fun _ h => by cases h)⟩⟩⟩⟩⟩, List.forall_mem_cons.2 ⟨⟨⟨_, rfl, ⟨rfl, ⟨Wv.refl _, Wv.refl _, Wv.refl _, Wv.refl _, Wv.refl _, Wv.refl _, Wv.refl _, Wv.refl _, trivial⟩⟩⟩, (by simp [pureA, pureL, pureR, inA, inL, inR, inO, idsIn, encs_pure, enxs_pure, enys_pure, valC_pure, exC_pure, tyC_pure, r_int_u8_pure, r_st_GInst_pure, r_sl_st_GInst_pure, r_st_GMiss_pure])⟩, List.forall_mem_cons.2 ⟨⟨⟨_, rfl, ⟨rfl, ⟨Wv.refl _, Wv.refl _, Wv.refl _, Wv.refl _, Wv.refl _, Wv.refl _, Wv.refl _, Wv.refl _, trivial⟩⟩⟩, (by simp [pureA, pureL, pureR, inA, inL, inR, inO, idsIn, encs_pure, enxs_pure, enys_pure, valC_pure, exC_pure, tyC_pure, r_int_u8_pure, r_st_GInst_pure, r_sl_st_GInst_pure, r_st_GMiss_pure])⟩, (fun _ h => by cases h)⟩⟩⟩, ⟨hr, Nat.le_of_succ_le hm⟩, Nat.lt_succ_self _⟩
              · replace hr := cnd_f h26 hr
                refine AW.seq ?_
                refine AW.region (M := fun _ => true) ?_
                refine AL.v good (d := 74) (v := .bool ((x22.tmod 6) == 3)) rfl rfl rfl rfl ?_
                refine AL.v good (d := 73) (v := .bool ((x22.tmod 6) == 3)) rfl rfl rfl rfl ?_
                refine AW.if rfl (fun h27 => ?_) (fun h27 => ?_)
                · replace hr := cnd_t h27 hr
                  refine AW.region (M := fun _ => true) ?_
                  refine AL.v good (d := 75) (v := .agg [.str v1_2, .int .i64 0, .int .i64 0, .bool false, .str ⟨#[]⟩, .sl .ro 5 (encs []), .int .i64 0, .sl .ro 8 (enxs v1_3)]) rfl rfl rfl rfl ?_
                  refine AL.v good (d := 76) (v := .agg [.str ⟨#[101, 113]⟩, .int .i64 0, .int .i64 0, .bool false, .str ⟨#[]⟩, .sl .ro 5 (encs []), .int .i64 0, .sl .ro 8 (enxs [(Ex.mk ⟨#[114, 101, 109]⟩ (Val.mk 0 0 false ⟨#[]⟩ []) 0 [(Ex.mk ⟨#[120]⟩ (Val.mk 0 0 false ⟨#[]⟩ []) 0 []), (Ex.mk ⟨#[108, 105, 116]⟩ (Val.mk 1 0 false ⟨#[]⟩ []) 0 [])]), (Ex.mk ⟨#[120]⟩ (Val.mk 0 0 false ⟨#[]⟩ []) 0 [])])]) rfl rfl rfl rfl ?_
                  refine AL.lit good (d := 77) (rows := [[.str v1_2, .int .i64 0, .int .i64 0, .bool false, .str ⟨#[]⟩, .sl .ro 5 (encs []), .int .i64 0, .sl .ro 8 (enxs v1_3)], [.str ⟨#[101, 113]⟩, .int .i64 0, .int .i64 0, .bool false, .str ⟨#[]⟩, .sl .ro 5 (encs []), .int .i64 0, .sl .ro 8 (enxs [(Ex.mk ⟨#[114, 101, 109]⟩ (Val.mk 0 0 false ⟨#[]⟩ []) 0 [(Ex.mk ⟨#[120]⟩ (Val.mk 0 0 false ⟨#[]⟩ []) 0 []), (Ex.mk ⟨#[108, 105, 116]⟩ (Val.mk 1 0 false ⟨#[]⟩ []) 0 [])]), (Ex.mk ⟨#[120]⟩ (Val.mk 0 0 false ⟨#[]⟩ []) 0 [])])]]) rfl rfl rfl rfl rfl rfl rfl rfl rfl 6 rfl ?_
                  refine AL.cw good (d := 78) (xs := [.str ⟨#[97, 110, 100]⟩, .sl .ro 8 (enxs [(Ex.mk v1_2 (Val.mk 0 0 false ⟨#[]⟩ []) 0 v1_3), (Ex.mk ⟨#[101, 113]⟩ (Val.mk 0 0 false ⟨#[]⟩ []) 0 [(Ex.mk ⟨#[114, 101, 109]⟩ (Val.mk 0 0 false ⟨#[]⟩ []) 0 [(Ex.mk ⟨#[120]⟩ (Val.mk 0 0 false ⟨#[]⟩ []) 0 []), (Ex.mk ⟨#[108, 105, 116]⟩ (Val.mk 1 0 false ⟨#[]⟩ []) 0 [])]), (Ex.mk ⟨#[120]⟩ (Val.mk 0 0 false ⟨#[]⟩ []) 0 [])])])]) (res := .agg [.str ⟨#[97, 110, 100]⟩, .int .i64 0, .int .i64 0, .bool false, .str ⟨#[]⟩, .sl .ro 5 (encs []), .int .i64 0, .sl .ro 8 (enxs [(Ex.mk v1_2 (Val.mk 0 0 false ⟨#[]⟩ []) 0 v1_3), (Ex.mk ⟨#[101, 113]⟩ (Val.mk 0 0 false ⟨#[]⟩ []) 0 [(Ex.mk ⟨#[114, 101, 109]⟩ (Val.mk 0 0 false ⟨#[]⟩ []) 0 [(Ex.mk ⟨#[120]⟩ (Val.mk 0 0 false ⟨#[]⟩ []) 0 []), (Ex.mk ⟨#[108, 105, 116]⟩ (Val.mk 1 0 false ⟨#[]⟩ []) 0 [])]), (Ex.mk ⟨#[120]⟩ (Val.mk 0 0 false ⟨#[]⟩ []) 0 [])])])]) rfl rfl rfl rfl rfl rfl rfl (w_f30 ⟨#[97, 110, 100]⟩ [(Ex.mk v1_2 (Val.mk 0 0 false ⟨#[]⟩ []) 0 v1_3), (Ex.mk ⟨#[101, 113]⟩ (Val.mk 0 0 false ⟨#[]⟩ []) 0 [(Ex.mk ⟨#[114, 101, 109]⟩ (Val.mk 0 0 false ⟨#[]⟩ []) 0 [(Ex.mk ⟨#[120]⟩ (Val.mk 0 0 false ⟨#[]⟩ []) 0 []), (Ex.mk ⟨#[108, 105, 116]⟩ (Val.mk 1 0 false ⟨#[]⟩ []) 0 [])]), (Ex.mk ⟨#[120]⟩ (Val.mk 0 0 false ⟨#[]⟩ []) 0 [])])]) ⟨(Wv.refl _), ⟨.inr rfl, (WvR_enxs ⟨⟨Wv.refl _, Wv.refl _, Wv.refl _, Wv.refl _, Wv.refl _, Wv.refl _, Wv.refl _, Wv.refl _, trivial⟩, ⟨Wv.refl _, Wv.refl _, Wv.refl _, Wv.refl _, Wv.refl _, Wv.refl _, Wv.refl _, Wv.refl _, trivial⟩, trivial⟩), .inl rfl⟩, trivial⟩ (by simp [pureA, pureL, pureR, inA, inL, inR, inO, idsIn, encs_pure, enxs_pure, enys_pure, valC_pure, exC_pure, tyC_pure, r_int_u8_pure, r_st_GInst_pure, r_sl_st_GInst_pure, r_st_GMiss_pure]) ?_
                  refine AL.st2 good (c2 := [.str ⟨#[97, 110, 100]⟩, .int .i64 0, .int .i64 0, .bool false, .str ⟨#[]⟩, .sl .ro 5 (encs []), .int .i64 0, .sl .ro 8 (enxs [(Ex.mk v1_2 (Val.mk 0 0 false ⟨#[]⟩ []) 0 v1_3), (Ex.mk ⟨#[101, 113]⟩ (Val.mk 0 0 false ⟨#[]⟩ []) 0 [(Ex.mk ⟨#[114, 101, 109]⟩ (Val.mk 0 0 false ⟨#[]⟩ []) 0 [(Ex.mk ⟨#[120]⟩ (Val.mk 0 0 false ⟨#[]⟩ []) 0 []), (Ex.mk ⟨#[108, 105, 116]⟩ (Val.mk 1 0 false ⟨#[]⟩ []) 0 [])]), (Ex.mk ⟨#[120]⟩ (Val.mk 0 0 false ⟨#[]⟩ []) 0 [])])])]) rfl rfl rfl rfl rfl rfl rfl rfl rfl rfl rfl rfl ?_
                  refine AW.region (M := fun _ => true) ?_
                  refine AL.v good (d := 38) (v := .int .i64 (v1_1 : Int)) rfl rfl rfl rfl ?_
                  refine AL.v good (d := 39) (v := .int .i64 (IntKind.i64.wrap ((v1_1 : Int) + 1))) rfl rfl rfl rfl ?_
                  refine AL.v good (d := 7) (v := .int .i64 (IntKind.i64.wrap ((v1_1 : Int) + 1))) rfl rfl rfl rfl ?_
                  exact ⟨(m, (v1_1 + 1), ⟨#[97, 110, 100]⟩, [(Ex.mk v1_2 (Val.mk 0 0 false ⟨#[]⟩ []) 0 v1_3), (Ex.mk ⟨#[101, 113]⟩ (Val.mk 0 0 false ⟨#[]⟩ []) 0 [(Ex.mk ⟨#[114, 101, 109]⟩ (Val.mk 0 0 false ⟨#[]⟩ []) 0 [(Ex.mk ⟨#[120]⟩ (Val.mk 0 0 false ⟨#[]⟩ []) 0 []), (Ex.mk ⟨#[108, 105, 116]⟩ (Val.mk 1 0 false ⟨#[]⟩ []) 0 [])]), (Ex.mk ⟨#[120]⟩ (Val.mk 0 0 false ⟨#[]⟩ []) 0 [])])]), _, _, rfl, ⟨(fun _ h => by cases h), List.forall_mem_cons.2 ⟨⟨⟨_, rfl, Wv.refl _⟩, (by simp [pureA, pureL, pureR, inA, inL, inR, inO, idsIn, encs_pure, enxs_pure, enys_pure, valC_pure, exC_pure, tyC_pure, r_int_u8_pure, r_st_GInst_pure, r_sl_st_GInst_pure, r_st_GMiss_pure])⟩, List.forall_mem_cons.2 ⟨⟨⟨_, rfl, Wv.refl _⟩, (by simp [pureA, pureL, pureR, inA, inL, inR, inO, idsIn, encs_pure, enxs_pure, enys_pure, valC_pure, exC_pure, tyC_pure, r_int_u8_pure, r_st_GInst_pure, r_sl_st_GInst_pure, r_st_GMiss_pure])⟩, List.forall_mem_cons.2 ⟨⟨⟨_, rfl, Wv.refl _⟩, (by simp [pureA, pureL, pureR, inA, inL, inR, inO, idsIn, encs_pure, enxs_pure, enys_pure, valC_pure, exC_pure, tyC_pure, r_int_u8_pure, r_st_GInst_pure, r_sl_st_GInst_pure, r_st_GMiss_pure])⟩, List.forall_mem_cons.2 ⟨⟨⟨_, rfl, Wv.refl _⟩, (by simp [pureA, pureL, pureR, inA, inL, inR, inO, idsIn, encs_pure, enxs_pure, enys_pure, valC_pure, exC_pure, tyC_pure, r_int_u8_pure, r_st_GInst_pure, r_sl_st_GInst_pure, r_st_GMiss_pure])⟩, List.forall_mem_cons.2 ⟨⟨⟨_, rfl, (wnx h19 hl18)⟩, (by simp [pureA, pureL, pureR, inA, inL, inR, inO, idsIn, encs_pure, enxs_pure, enys_pure, valC_pure, exC_pure, tyC_pure, r_int_u8_pure, r_st_GInst_pure, r_sl_st_GInst_pure, r_st_GMiss_pure])⟩, (fun _ h => by cases h)⟩⟩⟩⟩⟩, List.forall_mem_cons.2 ⟨⟨⟨_, rfl, ⟨rfl, ⟨Wv.refl _, Wv.refl _, Wv.refl _, Wv.refl _, Wv.refl _, Wv.refl _, Wv.refl _, Wv.refl _, trivial⟩⟩⟩, (by simp [pureA, pureL, pureR, inA, inL, inR, inO, idsIn, encs_pure, enxs_pure, enys_pure, valC_pure, exC_pure, tyC_pure, r_int_u8_pure, r_st_GInst_pure, r_sl_st_GInst_pure, r_st_GMiss_pure])⟩, List.forall_mem_cons.2 ⟨⟨⟨_, rfl, ⟨rfl, ⟨Wv.refl _, Wv.refl _, Wv.refl _, Wv.refl _, Wv.refl _, Wv.refl _, Wv.refl _, Wv.refl _, trivial⟩⟩⟩, (by simp [pureA, pureL, pureR, inA, inL, inR, inO, idsIn, encs_pure, enxs_pure, enys_pure, valC_pure, exC_pure, tyC_pure, r_int_u8_pure, r_st_GInst_pure, r_sl_st_GInst_pure, r_st_GMiss_pure])⟩, (fun _ h => by cases h)⟩⟩⟩, ⟨hr, Nat.le_of_succ_le hm⟩, Nat.lt_succ_self _⟩
                · replace hr := cnd_f h27 hr
                  refine AW.seq ?_
                  refine AW.region (M := fun _ => true) ?_
                  refine AL.v good (d := 80) (v := .bool ((x22.tmod 6) == 4)) rfl rfl rfl rfl ?_
                  refine AL.v good (d := 79) (v := .bool ((x22.tmod 6) == 4)) rfl rfl rfl rfl ?_
                  refine AW.if rfl (fun h28 => ?_) (fun h28 => ?_)
                  · replace hr := cnd_t h28 hr
                    refine AW.region (M := fun _ => true) ?_
                    refine AL.v good (d := 81) (v := .agg [.str v1_2, .int .i64 0, .int .i64 0, .bool false, .str ⟨#[]⟩, .sl .ro 5 (encs []), .int .i64 0, .sl .ro 8 (enxs v1_3)]) rfl rfl rfl rfl ?_
                    refine AL.v good (d := 82) (v := .agg [.str ⟨#[101, 113]⟩, .int .i64 0, .int .i64 0, .bool false, .str ⟨#[]⟩, .sl .ro 5 (encs []), .int .i64 0, .sl .ro 8 (enxs [(Ex.mk ⟨#[114, 101, 109]⟩ (Val.mk 0 0 false ⟨#[]⟩ []) 0 [(Ex.mk ⟨#[120]⟩ (Val.mk 0 0 false ⟨#[]⟩ []) 0 []), (Ex.mk ⟨#[108, 105, 116]⟩ (Val.mk 1 0 false ⟨#[]⟩ []) 0 [])]), (Ex.mk ⟨#[120]⟩ (Val.mk 0 0 false ⟨#[]⟩ []) 0 [])])]) rfl rfl rfl rfl ?_
                    refine AL.lit good (d := 83) (rows := [[.str v1_2, .int .i64 0, .int .i64 0, .bool false, .str ⟨#[]⟩, .sl .ro 5 (encs []), .int .i64 0, .sl .ro 8 (enxs v1_3)], [.str ⟨#[101, 113]⟩, .int .i64 0, .int .i64 0, .bool false, .str ⟨#[]⟩, .sl .ro 5 (encs []), .int .i64 0, .sl .ro 8 (enxs [(Ex.mk ⟨#[114, 101, 109]⟩ (Val.mk 0 0 false ⟨#[]⟩ []) 0 [(Ex.mk ⟨#[120]⟩ (Val.mk 0 0 false ⟨#[]⟩ []) 0 []), (Ex.mk ⟨#[108, 105, 116]⟩ (Val.mk 1 0 false ⟨#[]⟩ []) 0 [])]), (Ex.mk ⟨#[120]⟩ (Val.mk 0 0 false ⟨#[]⟩ []) 0 [])])]]) rfl rfl rfl rfl rfl rfl rfl rfl rfl 6 rfl ?_
                    refine AL.cw good (d := 84) (xs := [.str ⟨#[111, 114]⟩, .sl .ro 8 (enxs [(Ex.mk v1_2 (Val.mk 0 0 false ⟨#[]⟩ []) 0 v1_3), (Ex.mk ⟨#[101, 113]⟩ (Val.mk 0 0 false ⟨#[]⟩ []) 0 [(Ex.mk ⟨#[114, 101, 109]⟩ (Val.mk 0 0 false ⟨#[]⟩ []) 0 [(Ex.mk ⟨#[120]⟩ (Val.mk 0 0 false ⟨#[]⟩ []) 0 []), (Ex.mk ⟨#[108, 105, 116]⟩ (Val.mk 1 0 false ⟨#[]⟩ []) 0 [])]), (Ex.mk ⟨#[120]⟩ (Val.mk 0 0 false ⟨#[]⟩ []) 0 [])])])]) (res := .agg [.str ⟨#[111, 114]⟩, .int .i64 0, .int .i64 0, .bool false, .str ⟨#[]⟩, .sl .ro 5 (encs []), .int .i64 0, .sl .ro 8 (enxs [(Ex.mk v1_2 (Val.mk 0 0 false ⟨#[]⟩ []) 0 v1_3), (Ex.mk ⟨#[101, 113]⟩ (Val.mk 0 0 false ⟨#[]⟩ []) 0 [(Ex.mk ⟨#[114, 101, 109]⟩ (Val.mk 0 0 false ⟨#[]⟩ []) 0 [(Ex.mk ⟨#[120]⟩ (Val.mk 0 0 false ⟨#[]⟩ []) 0 []), (Ex.mk ⟨#[108, 105, 116]⟩ (Val.mk 1 0 false ⟨#[]⟩ []) 0 [])]), (Ex.mk ⟨#[120]⟩ (Val.mk 0 0 false ⟨#[]⟩ []) 0 [])])])]) rfl rfl rfl rfl rfl rfl rfl (w_f30 ⟨#[111, 114]⟩ [(Ex.mk v1_2 (Val.mk 0 0 false ⟨#[]⟩ []) 0 v1_3), (Ex.mk ⟨#[101, 113]⟩ (Val.mk 0 0 false ⟨#[]⟩ []) 0 [(Ex.mk ⟨#[114, 101, 109]⟩ (Val.mk 0 0 false ⟨#[]⟩ []) 0 [(Ex.mk ⟨#[120]⟩ (Val.mk 0 0 false ⟨#[]⟩ []) 0 []), (Ex.mk ⟨#[108, 105, 116]⟩ (Val.mk 1 0 false ⟨#[]⟩ []) 0 [])]), (Ex.mk ⟨#[120]⟩ (Val.mk 0 0 false ⟨#[]⟩ []) 0 [])])]) ⟨(Wv.refl _), ⟨.inr rfl, (WvR_enxs ⟨⟨Wv.refl _, Wv.refl _, Wv.refl _, Wv.refl _, Wv.refl _, Wv.refl _, Wv.refl _, Wv.refl _, trivial⟩, ⟨Wv.refl _, Wv.refl _, Wv.refl _, Wv.refl _, Wv.refl _, Wv.refl _, Wv.refl _, Wv.refl _, trivial⟩, trivial⟩), .inl rfl⟩, trivial⟩ (by simp [pureA, pureL, pureR, inA, inL, inR, inO, idsIn, encs_pure, enxs_pure, enys_pure, valC_pure, exC_pure, tyC_pure, r_int_u8_pure, r_st_GInst_pure, r_sl_st_GInst_pure, r_st_GMiss_pure]) ?_
                    refine AL.st2 good (c2 := [.str ⟨#[111, 114]⟩, .int .i64 0, .int .i64 0, .bool false, .str ⟨#[]⟩, .sl .ro 5 (encs []), .int .i64 0, .sl .ro 8 (enxs [(Ex.mk v1_2 (Val.mk 0 0 false ⟨#[]⟩ []) 0 v1_3), (Ex.mk ⟨#[101, 113]⟩ (Val.mk 0 0 false ⟨#[]⟩ []) 0 [(Ex.mk ⟨#[114, 101, 109]⟩ (Val.mk 0 0 false ⟨#[]⟩ []) 0 [(Ex.mk ⟨#[120]⟩ (Val.mk 0 0 false ⟨#[]⟩ []) 0 []), (Ex.mk ⟨#[108, 105, 116]⟩ (Val.mk 1 0 false ⟨#[]⟩ []) 0 [])]), (Ex.mk ⟨#[120]⟩ (Val.mk 0 0 false ⟨#[]⟩ []) 0 [])])])]) rfl rfl rfl rfl rfl rfl rfl rfl rfl rfl rfl rfl ?_
                    refine AW.region (M := fun _ => true) ?_
                    refine AL.v good (d := 38) (v := .int .i64 (v1_1 : Int)) rfl rfl rfl rfl ?_
                    refine AL.v good (d := 39) (v := .int .i64 (IntKind.i64.wrap ((v1_1 : Int) + 1))) rfl rfl rfl rfl ?_
                    refine AL.v good (d := 7) (v := .int .i64 (IntKind.i64.wrap ((v1_1 : Int) + 1))) rfl rfl rfl rfl ?_
                    exact ⟨(m, (v1_1 + 1), ⟨#[111, 114]⟩, [(Ex.mk v1_2 (Val.mk 0 0 false ⟨#[]⟩ []) 0 v1_3), (Ex.mk ⟨#[101, 113]⟩ (Val.mk 0 0 false ⟨#[]⟩ []) 0 [(Ex.mk ⟨#[114, 101, 109]⟩ (Val.mk 0 0 false ⟨#[]⟩ []) 0 [(Ex.mk ⟨#[120]⟩ (Val.mk 0 0 false ⟨#[]⟩ []) 0 []), (Ex.mk ⟨#[108, 105, 116]⟩ (Val.mk 1 0 false ⟨#[]⟩ []) 0 [])]), (Ex.mk ⟨#[120]⟩ (Val.mk 0 0 false ⟨#[]⟩ []) 0 [])])]), _, _, rfl, ⟨(fun _ h => by cases h), List.forall_mem_cons.2 ⟨⟨⟨_, rfl, Wv.refl _⟩, (by simp [pureA, pureL, pureR, inA, inL, inR, inO, idsIn, encs_pure, enxs_pure, enys_pure, valC_pure, exC_pure, tyC_pure, r_int_u8_pure, r_st_GInst_pure, r_sl_st_GInst_pure, r_st_GMiss_pure])⟩, List.forall_mem_cons.2 ⟨⟨⟨_, rfl, Wv.refl _⟩, (by simp [pureA, pureL, pureR, inA, inL, inR, inO, idsIn, encs_pure, enxs_pure, enys_pure, valC_pure, exC_pure, tyC_pure, r_int_u8_pure, r_st_GInst_pure, r_sl_st_GInst_pure, r_st_GMiss_pure])⟩, List.forall_mem_cons.2 ⟨⟨⟨_, rfl, Wv.refl _⟩, (by simp [pureA, pureL, pureR, inA, inL, inR, inO, idsIn, encs_pure, enxs_pure, enys_pure, valC_pure, exC_pure, tyC_pure, r_int_u8_pure, r_st_GInst_pure, r_sl_st_GInst_pure, r_st_GMiss_pure])⟩, List.forall_mem_cons.2 ⟨⟨⟨_, rfl, Wv.refl _⟩, (by simp [pureA, pureL, pureR, inA, inL, inR, inO, idsIn, encs_pure, enxs_pure, enys_pure, valC_pure, exC_pure, tyC_pure, r_int_u8_pure, r_st_GInst_pure, r_sl_st_GInst_pure, r_st_GMiss_pure])⟩, List.forall_mem_cons.2 ⟨⟨⟨_, rfl, (wnx h19 hl18)⟩, (by simp [pureA, pureL, pureR, inA, inL, inR, inO, idsIn, encs_pure, enxs_pure, enys_pure, valC_pure, exC_pure, tyC_pure, r_int_u8_pure, r_st_GInst_pure, r_sl_st_GInst_pure, r_st_GMiss_pure])⟩, (fun _ h => by cases h)⟩⟩⟩⟩⟩, List.forall_mem_cons.2 ⟨⟨⟨_, rfl, ⟨rfl, ⟨Wv.refl _, Wv.refl _, Wv.refl _, Wv.refl _, Wv.refl _, Wv.refl _, Wv.refl _, Wv.refl _, trivial⟩⟩⟩, (by simp [pureA, pureL, pureR, inA, inL, inR, inO, idsIn, encs_pure, enxs_pure, enys_pure, valC_pure, exC_pure, tyC_pure, r_int_u8_pure, r_st_GInst_pure, r_sl_st_GInst_pure, r_st_GMiss_pure])⟩, List.forall_mem_cons.2 ⟨⟨⟨_, rfl, ⟨rfl, ⟨Wv.refl _, Wv.refl _, Wv.refl _, Wv.refl _, Wv.refl _, Wv.refl _, Wv.refl _, Wv.refl _, trivial⟩⟩⟩, (by simp [pureA, pureL, pureR, inA, inL, inR, inO, idsIn, encs_pure, enxs_pure, enys_pure, valC_pure, exC_pure, tyC_pure, r_int_u8_pure, r_st_GInst_pure, r_sl_st_GInst_pure, r_st_GMiss_pure])⟩, (fun _ h => by cases h)⟩⟩⟩, ⟨hr, Nat.le_of_succ_le hm⟩, Nat.lt_succ_self _⟩
                  · replace hr := cnd_f h28 hr
                    refine AW.seq ?_
                    refine AW.region (M := fun _ => true) ?_
                    refine AL.v good (d := 86) (v := .bool ((x22.tmod 6) == 5)) rfl rfl rfl rfl ?_
                    refine AL.v good (d := 85) (v := .bool ((x22.tmod 6) == 5)) rfl rfl rfl rfl ?_
                    refine AW.if rfl (fun h29 => ?_) (fun h29 => ?_)
                    · replace hr := cnd_t h29 hr
                      refine AW.region (M := fun _ => true) ?_
                      refine AL.v good (d := 87) (v := .agg [.str v1_2, .int .i64 0, .int .i64 0, .bool false, .str ⟨#[]⟩, .sl .ro 5 (encs []), .int .i64 0, .sl .ro 8 (enxs v1_3)]) rfl rfl rfl rfl ?_
                      refine AL.v good (d := 88) (v := .agg [.str ⟨#[108, 105, 116]⟩, .int .i64 2, .int .i64 0, .bool (((IntKind.u8.wrap (x20.tdiv 8)).tmod 2) == 0), .str ⟨#[]⟩, .sl .ro 5 (encs []), .int .i64 0, .sl .ro 8 (enxs [])]) rfl rfl rfl rfl ?_
                      refine AL.v good (d := 89) (v := .agg [.str ⟨#[101, 113]⟩, .int .i64 0, .int .i64 0, .bool false, .str ⟨#[]⟩, .sl .ro 5 (encs []), .int .i64 0, .sl .ro 8 (enxs [(Ex.mk ⟨#[114, 101, 109]⟩ (Val.mk 0 0 false ⟨#[]⟩ []) 0 [(Ex.mk ⟨#[120]⟩ (Val.mk 0 0 false ⟨#[]⟩ []) 0 []), (Ex.mk ⟨#[108, 105, 116]⟩ (Val.mk 1 0 false ⟨#[]⟩ []) 0 [])]), (Ex.mk ⟨#[120]⟩ (Val.mk 0 0 false ⟨#[]⟩ []) 0 [])])]) rfl rfl rfl rfl ?_
                      refine AL.lit good (d := 90) (rows := [[.str v1_2, .int .i64 0, .int .i64 0, .bool false, .str ⟨#[]⟩, .sl .ro 5 (encs []), .int .i64 0, .sl .ro 8 (enxs v1_3)], [.str ⟨#[108, 105, 116]⟩, .int .i64 2, .int .i64 0, .bool (((IntKind.u8.wrap (x20.tdiv 8)).tmod 2) == 0), .str ⟨#[]⟩, .sl .ro 5 (encs []), .int .i64 0, .sl .ro 8 (enxs [])], [.str ⟨#[101, 113]⟩, .int .i64 0, .int .i64 0, .bool false, .str ⟨#[]⟩, .sl .ro 5 (encs []), .int .i64 0, .sl .ro 8 (enxs [(Ex.mk ⟨#[114, 101, 109]⟩ (Val.mk 0 0 false ⟨#[]⟩ []) 0 [(Ex.mk ⟨#[120]⟩ (Val.mk 0 0 false ⟨#[]⟩ []) 0 []), (Ex.mk ⟨#[108, 105, 116]⟩ (Val.mk 1 0 false ⟨#[]⟩ []) 0 [])]), (Ex.mk ⟨#[120]⟩ (Val.mk 0 0 false ⟨#[]⟩ []) 0 [])])]]) rfl rfl rfl rfl rfl rfl rfl rfl rfl 6 rfl ?_
                      refine AL.cw good (d := 91) (xs := [.str ⟨#[105, 102]⟩, .sl .ro 8 (enxs [(Ex.mk v1_2 (Val.mk 0 0 false ⟨#[]⟩ []) 0 v1_3), (Ex.mk ⟨#[108, 105, 116]⟩ (Val.mk 2 0 (((IntKind.u8.wrap (x20.tdiv 8)).tmod 2) == 0) ⟨#[]⟩ []) 0 []), (Ex.mk ⟨#[101, 113]⟩ (Val.mk 0 0 false ⟨#[]⟩ []) 0 [(Ex.mk ⟨#[114, 101, 109]⟩ (Val.mk 0 0 false ⟨#[]⟩ []) 0 [(Ex.mk ⟨#[120]⟩ (Val.mk 0 0 false ⟨#[]⟩ []) 0 []), (Ex.mk ⟨#[108, 105, 116]⟩ (Val.mk 1 0 false ⟨#[]⟩ []) 0 [])]), (Ex.mk ⟨#[120]⟩ (Val.mk 0 0 false ⟨#[]⟩ []) 0 [])])])]) (res := .agg [.str ⟨#[105, 102]⟩, .int .i64 0, .int .i64 0, .bool false, .str ⟨#[]⟩, .sl .ro 5 (encs []), .int .i64 0, .sl .ro 8 (enxs [(Ex.mk v1_2 (Val.mk 0 0 false ⟨#[]⟩ []) 0 v1_3), (Ex.mk ⟨#[108, 105, 116]⟩ (Val.mk 2 0 (((IntKind.u8.wrap (x20.tdiv 8)).tmod 2) == 0) ⟨#[]⟩ []) 0 []), (Ex.mk ⟨#[101, 113]⟩ (Val.mk 0 0 false ⟨#[]⟩ []) 0 [(Ex.mk ⟨#[114, 101, 109]⟩ (Val.mk 0 0 false ⟨#[]⟩ []) 0 [(Ex.mk ⟨#[120]⟩ (Val.mk 0 0 false ⟨#[]⟩ []) 0 []), (Ex.mk ⟨#[108, 105, 116]⟩ (Val.mk 1 0 false ⟨#[]⟩ []) 0 [])]), (Ex.mk ⟨#[120]⟩ (Val.mk 0 0 false ⟨#[]⟩ []) 0 [])])])]) rfl rfl rfl rfl rfl rfl rfl (w_f30 ⟨#[105, 102]⟩ [(Ex.mk v1_2 (Val.mk 0 0 false ⟨#[]⟩ []) 0 v1_3), (Ex.mk ⟨#[108, 105, 116]⟩ (Val.mk 2 0 (((IntKind.u8.wrap (x20.tdiv 8)).tmod 2) == 0) ⟨#[]⟩ []) 0 []), (Ex.mk ⟨#[101, 113]⟩ (Val.mk 0 0 false ⟨#[]⟩ []) 0 [(Ex.mk ⟨#[114, 101, 109]⟩ (Val.mk 0 0 false ⟨#[]⟩ []) 0 [(Ex.mk ⟨#[120]⟩ (Val.mk 0 0 false ⟨#[]⟩ []) 0 []), (Ex.mk ⟨#[108, 105, 116]⟩ (Val.mk 1 0 false ⟨#[]⟩ []) 0 [])]), (Ex.mk ⟨#[120]⟩ (Val.mk 0 0 false ⟨#[]⟩ []) 0 [])])]) ⟨(Wv.refl _), ⟨.inr rfl, (WvR_enxs ⟨⟨Wv.refl _, Wv.refl _, Wv.refl _, Wv.refl _, Wv.refl _, Wv.refl _, Wv.refl _, Wv.refl _, trivial⟩, ⟨Wv.refl _, Wv.refl _, Wv.refl _, Wv.refl _, Wv.refl _, Wv.refl _, Wv.refl _, Wv.refl _, trivial⟩, ⟨Wv.refl _, Wv.refl _, Wv.refl _, Wv.refl _, Wv.refl _, Wv.refl _, Wv.refl _, Wv.refl _, trivial⟩, trivial⟩), .inl rfl⟩, trivial⟩ (by simp [pureA, pureL, pureR, inA, inL, inR, inO, idsIn, encs_pure, enxs_pure, enys_pure, valC_pure, exC_pure, tyC_pure, r_int_u8_pure, r_st_GInst_pure, r_sl_st_GInst_pure, r_st_GMiss_pure]) ?_
                      refine AL.st2 good (c2 := [.str ⟨#[105, 102]⟩, .int .i64 0, .int .i64 0, .bool false, .str ⟨#[]⟩, .sl .ro 5 (encs []), .int .i64 0, .sl .ro 8 (enxs [(Ex.mk v1_2 (Val.mk 0 0 false ⟨#[]⟩ []) 0 v1_3), (Ex.mk ⟨#[108, 105, 116]⟩ (Val.mk 2 0 (((IntKind.u8.wrap (x20.tdiv 8)).tmod 2) == 0) ⟨#[]⟩ []) 0 []), (Ex.mk ⟨#[101, 113]⟩ (Val.mk 0 0 false ⟨#[]⟩ []) 0 [(Ex.mk ⟨#[114, 101, 109]⟩ (Val.mk 0 0 false ⟨#[]⟩ []) 0 [(Ex.mk ⟨#[120]⟩ (Val.mk 0 0 false ⟨#[]⟩ []) 0 []), (Ex.mk ⟨#[108, 105, 116]⟩ (Val.mk 1 0 false ⟨#[]⟩ []) 0 [])]), (Ex.mk ⟨#[120]⟩ (Val.mk 0 0 false ⟨#[]⟩ []) 0 [])])])]) rfl rfl rfl rfl rfl rfl rfl rfl rfl rfl rfl rfl ?_
                      refine AW.region (M := fun _ => true) ?_
                      refine AL.v good (d := 38) (v := .int .i64 (v1_1 : Int)) rfl rfl rfl rfl ?_
                      refine AL.v good (d := 39) (v := .int .i64 (IntKind.i64.wrap ((v1_1 : Int) + 1))) rfl rfl rfl rfl ?_
                      refine AL.v good (d := 7) (v := .int .i64 (IntKind.i64.wrap ((v1_1 : Int) + 1))) rfl rfl rfl rfl ?_
                      exact ⟨(m, (v1_1 + 1), ⟨#[105, 102]⟩, [(Ex.mk v1_2 (Val.mk 0 0 false ⟨#[]⟩ []) 0 v1_3), (Ex.mk ⟨#[108, 105, 116]⟩ (Val.mk 2 0 (((IntKind.u8.wrap (x20.tdiv 8)).tmod 2) == 0) ⟨#[]⟩ []) 0 []), (Ex.mk ⟨#[101, 113]⟩ (Val.mk 0 0 false ⟨#[]⟩ []) 0 [(Ex.mk ⟨#[114, 101, 109]⟩ (Val.mk 0 0 false ⟨#[]⟩ []) 0 [(Ex.mk ⟨#[120]⟩ (Val.mk 0 0 false ⟨#[]⟩ []) 0 []), (Ex.mk ⟨#[108, 105, 116]⟩ (Val.mk 1 0 false ⟨#[]⟩ []) 0 [])]), (Ex.mk ⟨#[120]⟩ (Val.mk 0 0 false ⟨#[]⟩ []) 0 [])])]), _, _, rfl, ⟨(fun _ h => by cases h), List.forall_mem_cons.2 ⟨⟨⟨_, rfl, Wv.refl _⟩, (by simp [pureA, pureL, pureR, inA, inL, inR, inO, idsIn, encs_pure, enxs_pure, enys_pure, valC_pure, exC_pure, tyC_pure, r_int_u8_pure, r_st_GInst_pure, r_sl_st_GInst_pure, r_st_GMiss_pure])⟩, List.forall_mem_cons.2 ⟨⟨⟨_, rfl, Wv.refl _⟩, (by simp [pureA, pureL, pureR, inA, inL, inR, inO, idsIn, encs_pure, enxs_pure, enys_pure, valC_pure, exC_pure, tyC_pure, r_int_u8_pure, r_st_GInst_pure, r_sl_st_GInst_pure, r_st_GMiss_pure])⟩, List.forall_mem_cons.2 ⟨⟨⟨_, rfl, Wv.refl _⟩, (by simp [pureA, pureL, pureR, inA, inL, inR, inO, idsIn, encs_pure, enxs_pure, enys_pure, valC_pure, exC_pure, tyC_pure, r_int_u8_pure, r_st_GInst_pure, r_sl_st_GInst_pure, r_st_GMiss_pure])⟩, List.forall_mem_cons.2 ⟨⟨⟨_, rfl, Wv.refl _⟩, (by simp [pureA, pureL, pureR, inA, inL, inR, inO, idsIn, encs_pure, enxs_pure, enys_pure, valC_pure, exC_pure, tyC_pure, r_int_u8_pure, r_st_GInst_pure, r_sl_st_GInst_pure, r_st_GMiss_pure])⟩, List.forall_mem_cons.2 ⟨⟨⟨_, rfl, (wnx h19 hl18)⟩, (by simp [pureA, pureL, pureR, inA, inL, inR, inO, idsIn, encs_pure, enxs_pure, enys_pure, valC_pure, exC_pure, tyC_pure, r_int_u8_pure, r_st_GInst_pure, r_sl_st_GInst_pure, r_st_GMiss_pure])⟩, (fun _ h => by cases h)⟩⟩⟩⟩⟩, List.forall_mem_cons.2 ⟨⟨⟨_, rfl, ⟨rfl, ⟨Wv.refl _, Wv.refl _, Wv.refl _, Wv.refl _, Wv.refl _, Wv.refl _, Wv.refl _, Wv.refl _, trivial⟩⟩⟩, (by simp [pureA, pureL, pureR, inA, inL, inR, inO, idsIn, encs_pure, enxs_pure, enys_pure, valC_pure, exC_pure, tyC_pure, r_int_u8_pure, r_st_GInst_pure, r_sl_st_GInst_pure, r_st_GMiss_pure])⟩, List.forall_mem_cons.2 ⟨⟨⟨_, rfl, ⟨rfl, ⟨Wv.refl _, Wv.refl _, Wv.refl _, Wv.refl _, Wv.refl _, Wv.refl _, Wv.refl _, Wv.refl _, trivial⟩⟩⟩, (by simp [pureA, pureL, pureR, inA, inL, inR, inO, idsIn, encs_pure, enxs_pure, enys_pure, valC_pure, exC_pure, tyC_pure, r_int_u8_pure, r_st_GInst_pure, r_sl_st_GInst_pure, r_st_GMiss_pure])⟩, (fun _ h => by cases h)⟩⟩⟩, ⟨hr, Nat.le_of_succ_le hm⟩, Nat.lt_succ_self _⟩
                    · replace hr := cnd_f h29 hr
                      refine AW.skip ?_
                      refine AW.region (M := fun _ => true) ?_
                      refine AL.v good (d := 38) (v := .int .i64 (v1_1 : Int)) rfl rfl rfl rfl ?_
                      refine AL.v good (d := 39) (v := .int .i64 (IntKind.i64.wrap ((v1_1 : Int) + 1))) rfl rfl rfl rfl ?_
                      refine AL.v good (d := 7) (v := .int .i64 (IntKind.i64.wrap ((v1_1 : Int) + 1))) rfl rfl rfl rfl ?_
                      exact ⟨(m, (v1_1 + 1), v1_2, v1_3), _, _, rfl, ⟨(fun _ h => by cases h), List.forall_mem_cons.2 ⟨⟨⟨_, rfl, Wv.refl _⟩, (by simp [pureA, pureL, pureR, inA, inL, inR, inO, idsIn, encs_pure, enxs_pure, enys_pure, valC_pure, exC_pure, tyC_pure, r_int_u8_pure, r_st_GInst_pure, r_sl_st_GInst_pure, r_st_GMiss_pure])⟩, List.forall_mem_cons.2 ⟨⟨⟨_, rfl, Wv.refl _⟩, (by simp [pureA, pureL, pureR, inA, inL, inR, inO, idsIn, encs_pure, enxs_pure, enys_pure, valC_pure, exC_pure, tyC_pure, r_int_u8_pure, r_st_GInst_pure, r_sl_st_GInst_pure, r_st_GMiss_pure])⟩, List.forall_mem_cons.2 ⟨⟨⟨_, rfl, Wv.refl _⟩, (by simp [pureA, pureL, pureR, inA, inL, inR, inO, idsIn, encs_pure, enxs_pure, enys_pure, valC_pure, exC_pure, tyC_pure, r_int_u8_pure, r_st_GInst_pure, r_sl_st_GInst_pure, r_st_GMiss_pure])⟩, List.forall_mem_cons.2 ⟨⟨⟨_, rfl, Wv.refl _⟩, (by simp [pureA, pureL, pureR, inA, inL, inR, inO, idsIn, encs_pure, enxs_pure, enys_pure, valC_pure, exC_pure, tyC_pure, r_int_u8_pure, r_st_GInst_pure, r_sl_st_GInst_pure, r_st_GMiss_pure])⟩, List.forall_mem_cons.2 ⟨⟨⟨_, rfl, (wnx h19 hl18)⟩, (by simp [pureA, pureL, pureR, inA, inL, inR, inO, idsIn, encs_pure, enxs_pure, enys_pure, valC_pure, exC_pure, tyC_pure, r_int_u8_pure, r_st_GInst_pure, r_sl_st_GInst_pure, r_st_GMiss_pure])⟩, (fun _ h => by cases h)⟩⟩⟩⟩⟩, List.forall_mem_cons.2 ⟨⟨⟨_, rfl, ⟨rfl, ⟨Wv.refl _, Wv.refl _, Wv.refl _, Wv.refl _, Wv.refl _, Wv.refl _, Wv.refl _, Wv.refl _, trivial⟩⟩⟩, (by simp [pureA, pureL, pureR, inA, inL, inR, inO, idsIn, encs_pure, enxs_pure, enys_pure, valC_pure, exC_pure, tyC_pure, r_int_u8_pure, r_st_GInst_pure, r_sl_st_GInst_pure, r_st_GMiss_pure])⟩, List.forall_mem_cons.2 ⟨⟨⟨_, rfl, ⟨rfl, ⟨Wv.refl _, Wv.refl _, Wv.refl _, Wv.refl _, Wv.refl _, Wv.refl _, Wv.refl _, Wv.refl _, trivial⟩⟩⟩, (by simp [pureA, pureL, pureR, inA, inL, inR, inO, idsIn, encs_pure, enxs_pure, enys_pure, valC_pure, exC_pure, tyC_pure, r_int_u8_pure, r_st_GInst_pure, r_sl_st_GInst_pure, r_st_GMiss_pure])⟩, (fun _ h => by cases h)⟩⟩⟩, ⟨hr, Nat.le_of_succ_le hm⟩, Nat.lt_succ_self _⟩
        · replace hr := cnd_f h19 hr
          refine AW.exit ?_
          refine AW.seq ?_
          refine AW.region (M := fun _ => true) ?_
          refine AL.v good (d := 9) (v := .sl .nil 0 []) rfl rfl rfl rfl ?_
          refine AW.seq ?_
          refine AW.region (M := fun _ => true) ?_
          refine AL.v good (d := 92) (v := .agg [.str v1_2, .int .i64 0, .int .i64 0, .bool false, .str ⟨#[]⟩, .sl .ro 5 (encs []), .int .i64 0, .sl .ro 8 (enxs v1_3)]) rfl rfl rfl rfl ?_
          obtain ⟨q30, h31, hr⟩ := bnd1 hr
          refine AL.cw good (d := 93) (xs := [.agg (exC (Ex.mk v1_2 (Val.mk 0 0 false ⟨#[]⟩ []) 0 v1_3))]) (res := .agg [.str q30.op, .int .i64 q30.v.kind, .int .i64 q30.v.i, .bool q30.v.b, .str q30.v.s, .sl .ro 5 (encs q30.v.t), .int .i64 q30.n, .sl .ro 8 (enxs q30.a)]) rfl rfl rfl rfl rfl rfl rfl (w_f19 _ _ _ h31) ⟨(Wv.refl _), trivial⟩ (by simp [pureA, pureL, pureR, inA, inL, inR, inO, idsIn, encs_pure, enxs_pure, enys_pure, valC_pure, exC_pure, tyC_pure, r_int_u8_pure, r_st_GInst_pure, r_sl_st_GInst_pure, r_st_GMiss_pure]) ?_
          obtain ⟨q32, h33, hr⟩ := bnd1 hr
          refine AL.clF good (d := 94) (xs := [.agg (exC q30)]) (ob := .row 132 7 (r_st_GInst q32).length) (res := .sl (.own 5) 7 (r_st_GInst q32)) rfl rfl rfl rfl rfl rfl rfl 5 rfl (w_f52 _ _ _ h33 5) ⟨(Wv.refl _), trivial⟩ rfl ColN.no ?_
          obtain ⟨q34, h35, hr⟩ := bnd1 hr
          refine AL.clF good (d := 95) (xs := [.sl .ro 7 (r_st_GInst q32)]) (ob := .row 109 7 (r_st_GInst q34).length) (res := .sl (.own 6) 7 (r_st_GInst q34)) rfl rfl rfl rfl rfl rfl rfl 6 rfl (w_f51 _ _ _ h35 6) ⟨⟨.inr rfl, WvR.refl _, .inl rfl⟩, trivial⟩ rfl ColN.no ?_
          refine AL.bld good (d := 96) (l := [.str ⟨#[101, 109, 105, 116]⟩, .int .i64 0, .int .i64 0, .bool false, .str ⟨#[]⟩, .sl .nil 0 [], .int .i64 1]) rfl rfl rfl rfl rfl rfl rfl ?_
          refine AL.bld good (d := 97) (l := [.str ⟨#[114, 101, 116]⟩, .int .i64 0, .int .i64 0, .bool false, .str ⟨#[]⟩, .sl .nil 0 [], .int .i64 0]) rfl rfl rfl rfl rfl rfl rfl ?_
          refine AL.lit good (d := 98) (rows := [[.str ⟨#[101, 109, 105, 116]⟩, .int .i64 0, .int .i64 0, .bool false, .str ⟨#[]⟩, .sl .nil 0 [], .int .i64 1], [.str ⟨#[114, 101, 116]⟩, .int .i64 0, .int .i64 0, .bool false, .str ⟨#[]⟩, .sl .nil 0 [], .int .i64 0]]) rfl rfl rfl rfl rfl rfl rfl rfl rfl 7 rfl ?_
          obtain ⟨h36, hr⟩ := grd hr
          refine AL.aw2 good (d := 99) (rows := r_st_GInst q34) (news := [[.str (((GInst.mk ⟨#[101, 109, 105, 116]⟩ (Val.mk 0 0 false ⟨#[]⟩ []) 1)).f0), .int .i64 ((((GInst.mk ⟨#[101, 109, 105, 116]⟩ (Val.mk 0 0 false ⟨#[]⟩ []) 1)).f1).kind), .int .i64 ((((GInst.mk ⟨#[101, 109, 105, 116]⟩ (Val.mk 0 0 false ⟨#[]⟩ []) 1)).f1).i), .bool ((((GInst.mk ⟨#[101, 109, 105, 116]⟩ (Val.mk 0 0 false ⟨#[]⟩ []) 1)).f1).b), .str ((((GInst.mk ⟨#[101, 109, 105, 116]⟩ (Val.mk 0 0 false ⟨#[]⟩ []) 1)).f1).s), .sl .ro 5 (encs ((((GInst.mk ⟨#[101, 109, 105, 116]⟩ (Val.mk 0 0 false ⟨#[]⟩ []) 1)).f1).t)), .int .i64 (((GInst.mk ⟨#[101, 109, 105, 116]⟩ (Val.mk 0 0 false ⟨#[]⟩ []) 1)).f2)], [.str (((GInst.mk ⟨#[114, 101, 116]⟩ (Val.mk 0 0 false ⟨#[]⟩ []) 0)).f0), .int .i64 ((((GInst.mk ⟨#[114, 101, 116]⟩ (Val.mk 0 0 false ⟨#[]⟩ []) 0)).f1).kind), .int .i64 ((((GInst.mk ⟨#[114, 101, 116]⟩ (Val.mk 0 0 false ⟨#[]⟩ []) 0)).f1).i), .bool ((((GInst.mk ⟨#[114, 101, 116]⟩ (Val.mk 0 0 false ⟨#[]⟩ []) 0)).f1).b), .str ((((GInst.mk ⟨#[114, 101, 116]⟩ (Val.mk 0 0 false ⟨#[]⟩ []) 0)).f1).s), .sl .ro 5 (encs ((((GInst.mk ⟨#[114, 101, 116]⟩ (Val.mk 0 0 false ⟨#[]⟩ []) 0)).f1).t)), .int .i64 (((GInst.mk ⟨#[114, 101, 116]⟩ (Val.mk 0 0 false ⟨#[]⟩ []) 0)).f2)]]) (rows2 := r_st_GInst (q34 ++ [(GInst.mk ⟨#[101, 109, 105, 116]⟩ (Val.mk 0 0 false ⟨#[]⟩ []) 1), (GInst.mk ⟨#[114, 101, 116]⟩ (Val.mk 0 0 false ⟨#[]⟩ []) 0)])) rfl rfl rfl rfl rfl rfl rfl rfl rfl (by simp) rfl rfl rfl ⟨⟨Wv.refl _, Wv.refl _, Wv.refl _, Wv.refl _, Wv.refl _, ⟨.inr rfl, trivial, .inr rfl⟩, Wv.refl _, trivial⟩, ⟨Wv.refl _, Wv.refl _, Wv.refl _, Wv.refl _, Wv.refl _, ⟨.inr rfl, trivial, .inr rfl⟩, Wv.refl _, trivial⟩, trivial⟩ (by simp [r_st_GInst, rowF]) (by rw [r_st_GInst_length, List.length_append]; exact h36) rfl ?_
          refine AL.v good (d := 9) (v := .sl (.own 6) 7 (r_st_GInst (q34 ++ [(GInst.mk ⟨#[101, 109, 105, 116]⟩ (Val.mk 0 0 false ⟨#[]⟩ []) 1), (GInst.mk ⟨#[114, 101, 116]⟩ (Val.mk 0 0 false ⟨#[]⟩ []) 0)]))) rfl rfl rfl rfl ?_
          refine AW.seq ?_
          refine AW.region (M := fun _ => true) ?_
          refine AL.v good (d := 101) (v := .sl (.own 6) 7 (r_st_GInst (q34 ++ [(GInst.mk ⟨#[101, 109, 105, 116]⟩ (Val.mk 0 0 false ⟨#[]⟩ []) 1), (GInst.mk ⟨#[114, 101, 116]⟩ (Val.mk 0 0 false ⟨#[]⟩ []) 0)]))) rfl rfl rfl rfl ?_
          refine AL.v good (d := 102) (v := .int .i64 a1) rfl rfl rfl rfl ?_
          refine AL.cw good (d := 103) (xs := [.int .i64 a1]) (res := .agg [.int .i64 1, .int .i64 a1, .bool false, .str ⟨#[]⟩, .sl .ro 5 (encs [])]) rfl rfl rfl rfl rfl rfl rfl (w_f28 a1) ⟨(Wv.refl _), trivial⟩ (by simp [pureA, pureL, pureR, inA, inL, inR, inO, idsIn, encs_pure, enxs_pure, enys_pure, valC_pure, exC_pure, tyC_pure, r_int_u8_pure, r_st_GInst_pure, r_sl_st_GInst_pure, r_st_GMiss_pure]) ?_
          obtain ⟨q37, h38, hr⟩ := bnd1 hr
          refine AL.cw good (d := 104) (xs := [.sl .ro 7 (r_st_GInst (q34 ++ [(GInst.mk ⟨#[101, 109, 105, 116]⟩ (Val.mk 0 0 false ⟨#[]⟩ []) 1), (GInst.mk ⟨#[114, 101, 116]⟩ (Val.mk 0 0 false ⟨#[]⟩ []) 0)])), .agg (valC (Val.mk 1 a1 false ⟨#[]⟩ []))]) (res := .tup [.sl .ro 5 (encs q37.1), .int .i64 q37.2]) rfl rfl rfl rfl rfl rfl rfl (w_f40 _ _ _ _ h38) ⟨⟨.inr rfl, WvR.refl _, .inl rfl⟩, (Wv.refl _), trivial⟩ (by simp [pureA, pureL, pureR, inA, inL, inR, inO, idsIn, encs_pure, enxs_pure, enys_pure, valC_pure, exC_pure, tyC_pure, r_int_u8_pure, r_st_GInst_pure, r_sl_st_GInst_pure, r_st_GMiss_pure]) ?_
          refine AL.v good (d := 100) (v := .tup [.sl .ro 5 (encs q37.1), .int .i64 q37.2]) rfl rfl rfl rfl ?_
          refine AL.v good (d := 105) (v := .sl .ro 5 (encs q37.1)) rfl rfl rfl rfl ?_
          refine AL.v good (d := 106) (v := .int .i64 q37.2) rfl rfl rfl rfl ?_
          refine AL.v good (d := 10) (v := .sl .ro 5 (encs q37.1)) rfl rfl rfl rfl ?_
          refine AL.v good (d := 11) (v := .int .i64 q37.2) rfl rfl rfl rfl ?_
          refine AW.seq ?_
          refine AW.drawc (M := fun i => ⟨Nat.beq i 8, bif Nat.beq i 0 then some { ids := [4] } else bif Nat.beq i 7 then some { ids := [8] } else bif Nat.beq i 8 then some { ids := [8] } else none⟩) good.wide (by kernel_rfl) ?_
          refine AL.vc good (d := 108) (v := .agg [.str v1_2, .int .i64 0, .int .i64 0, .bool false, .str ⟨#[]⟩, .sl .ro 5 (encs []), .int .i64 0, .sl .ro 8 (enxs v1_3)]) rfl rfl rfl rfl rfl rfl (List.forall_mem_cons.2 ⟨.head _, (fun _ h => by cases h)⟩) ?_
          refine AL.v (nc := ⟨rfl⟩) good (d := 109) (v := .int .i64 a1) rfl rfl rfl rfl ?_
          refine AL.cw (nc := ⟨rfl⟩) good (d := 110) (xs := [.int .i64 a1]) (res := .agg [.int .i64 1, .int .i64 a1, .bool false, .str ⟨#[]⟩, .sl .ro 5 (encs [])]) rfl rfl rfl rfl rfl rfl rfl (w_f28 a1) ⟨(Wv.refl _), trivial⟩ (by simp [pureA, pureL, pureR, inA, inL, inR, inO, idsIn, encs_pure, enxs_pure, enys_pure, valC_pure, exC_pure, tyC_pure, r_int_u8_pure, r_st_GInst_pure, r_sl_st_GInst_pure, r_st_GMiss_pure]) ?_
          obtain ⟨q39, h40, hr⟩ := bnd1 hr
          refine AL.cw (nc := ⟨rfl⟩) good (d := 111) (xs := [.agg (exC (Ex.mk v1_2 (Val.mk 0 0 false ⟨#[]⟩ []) 0 v1_3)), .agg (valC (Val.mk 1 a1 false ⟨#[]⟩ []))]) (res := .tup [.agg [.int .i64 q39.1.kind, .int .i64 q39.1.i, .bool q39.1.b, .str q39.1.s, .sl .ro 5 (encs q39.1.t)], .int .i64 q39.2]) rfl rfl rfl rfl rfl rfl rfl (w23 _ _ _ h40) ⟨(Wv.refl _), (Wv.refl _), trivial⟩ (by simp [pureA, pureL, pureR, inA, inL, inR, inO, idsIn, encs_pure, enxs_pure, enys_pure, valC_pure, exC_pure, tyC_pure, r_int_u8_pure, r_st_GInst_pure, r_sl_st_GInst_pure, r_st_GMiss_pure]) ?_
          refine AL.v (nc := ⟨rfl⟩) good (d := 107) (v := .tup [.agg [.int .i64 q39.1.kind, .int .i64 q39.1.i, .bool q39.1.b, .str q39.1.s, .sl .ro 5 (encs q39.1.t)], .int .i64 q39.2]) rfl rfl rfl rfl ?_
          refine AL.v (nc := ⟨rfl⟩) good (d := 112) (v := .agg [.int .i64 q39.1.kind, .int .i64 q39.1.i, .bool q39.1.b, .str q39.1.s, .sl .ro 5 (encs q39.1.t)]) rfl rfl rfl rfl ?_
          refine AL.v (nc := ⟨rfl⟩) good (d := 113) (v := .int .i64 q39.2) rfl rfl rfl rfl ?_
          refine AL.alcC good (d := 12) rfl rfl rfl rfl rfl 8 rfl (ColN.mk rfl rfl (fun _ h => by cases h) (List.forall_mem_cons.2 ⟨.head _, (fun _ h => by cases h)⟩) (fun _ h => by cases h)) ?_
          refine AL.st2c good (c2 := [.int .i64 q39.1.kind, .int .i64 q39.1.i, .bool q39.1.b, .str q39.1.s, .sl .ro 5 (encs q39.1.t)]) rfl rfl rfl rfl rfl rfl rfl rfl rfl rfl rfl rfl rfl ?_
          refine AL.v (nc := ⟨rfl⟩) good (d := 13) (v := .int .i64 q39.2) rfl rfl rfl rfl ?_
          refine AW.seq ?_
          refine AW.region (M := fun _ => true) ?_
          refine AL.v good (d := 115) (v := .agg [.str v1_2, .int .i64 0, .int .i64 0, .bool false, .str ⟨#[]⟩, .sl .ro 5 (encs []), .int .i64 0, .sl .ro 8 (enxs v1_3)]) rfl rfl rfl rfl ?_
          obtain ⟨q41, h42, hr⟩ := bnd1 hr
          refine AL.cw good (d := 116) (xs := [.agg (exC (Ex.mk v1_2 (Val.mk 0 0 false ⟨#[]⟩ []) 0 v1_3))]) (res := .agg [.str q41.op, .int .i64 q41.v.kind, .int .i64 q41.v.i, .bool q41.v.b, .str q41.v.s, .sl .ro 5 (encs q41.v.t), .int .i64 q41.n, .sl .ro 8 (enxs q41.a)]) rfl rfl rfl rfl rfl rfl rfl (w_f19 _ _ _ h42) ⟨(Wv.refl _), trivial⟩ (by simp [pureA, pureL, pureR, inA, inL, inR, inO, idsIn, encs_pure, enxs_pure, enys_pure, valC_pure, exC_pure, tyC_pure, r_int_u8_pure, r_st_GInst_pure, r_sl_st_GInst_pure, r_st_GMiss_pure]) ?_
          refine AL.v good (d := 117) (v := .int .i64 a1) rfl rfl rfl rfl ?_
          refine AL.cw good (d := 118) (xs := [.int .i64 a1]) (res := .agg [.int .i64 1, .int .i64 a1, .bool false, .str ⟨#[]⟩, .sl .ro 5 (encs [])]) rfl rfl rfl rfl rfl rfl rfl (w_f53 a1) ⟨(Wv.refl _), trivial⟩ (by simp [pureA, pureL, pureR, inA, inL, inR, inO, idsIn, encs_pure, enxs_pure, enys_pure, valC_pure, exC_pure, tyC_pure, r_int_u8_pure, r_st_GInst_pure, r_sl_st_GInst_pure, r_st_GMiss_pure]) ?_
          obtain ⟨q43, h44, hr⟩ := bnd1 hr
          refine AL.cw good (d := 119) (xs := [.agg (exC q41), .agg (valC (Val.mk 1 a1 false ⟨#[]⟩ []))]) (res := .tup [.agg [.int .i64 q43.1.kind, .int .i64 q43.1.i, .bool q43.1.b, .str q43.1.s, .sl .ro 5 (encs q43.1.t)], .int .i64 q43.2]) rfl rfl rfl rfl rfl rfl rfl (w_f24 _ _ _ _ h44) ⟨(Wv.refl _), (Wv.refl _), trivial⟩ (by simp [pureA, pureL, pureR, inA, inL, inR, inO, idsIn, encs_pure, enxs_pure, enys_pure, valC_pure, exC_pure, tyC_pure, r_int_u8_pure, r_st_GInst_pure, r_sl_st_GInst_pure, r_st_GMiss_pure]) ?_
          refine AL.v good (d := 114) (v := .tup [.agg [.int .i64 q43.1.kind, .int .i64 q43.1.i, .bool q43.1.b, .str q43.1.s, .sl .ro 5 (encs q43.1.t)], .int .i64 q43.2]) rfl rfl rfl rfl ?_
          refine AL.v good (d := 120) (v := .agg [.int .i64 q43.1.kind, .int .i64 q43.1.i, .bool q43.1.b, .str q43.1.s, .sl .ro 5 (encs q43.1.t)]) rfl rfl rfl rfl ?_
          refine AL.v good (d := 121) (v := .int .i64 q43.2) rfl rfl rfl rfl ?_
          refine AL.alc good (d := 14) rfl rfl rfl rfl rfl 9 rfl ?_
          refine AL.st2 good (c2 := [.int .i64 q43.1.kind, .int .i64 q43.1.i, .bool q43.1.b, .str q43.1.s, .sl .ro 5 (encs q43.1.t)]) rfl rfl rfl rfl rfl rfl rfl rfl rfl rfl rfl rfl ?_
          refine AL.v good (d := 15) (v := .int .i64 q43.2) rfl rfl rfl rfl ?_
          refine AW.seq ?_
          refine AW.seq ?_
          refine AW.region (M := fun _ => true) ?_
          refine AL.v good (d := 122) (v := .int .i64 q37.2) rfl rfl rfl rfl ?_
          refine AL.v good (d := 123) (v := .int .i64 q43.2) rfl rfl rfl rfl ?_
          refine AL.v good (d := 124) (v := .bool (q37.2 != q43.2)) rfl rfl rfl rfl ?_
          refine AL.vb good (d := 125) (b := (q37.2 != q43.2)) rfl rfl rfl rfl (fun g45 h46 => ?_)
          refine AL.gv good (d := 126) (c := (!g45)) (v := .int .i64 q39.2) (rd := []) rfl rfl (by cases g45 <;> rfl) (fun h => by cases g45 <;> first | rfl | exact absurd h (by decide)) ?_
          refine AL.gv good (d := 127) (c := (!g45)) (v := .int .i64 q43.2) (rd := []) rfl rfl (by cases g45 <;> rfl) (fun h => by cases g45 <;> first | rfl | exact absurd h (by decide)) ?_
          refine AL.gv good (d := 128) (c := (!g45)) (v := .bool (q39.2 != q43.2)) (rd := []) rfl rfl (by cases g45 <;> rfl) (fun h => by cases g45 <;> first | rfl | exact absurd h (by decide)) ?_
          refine AL.v good (d := 129) (v := .bool (g45 || (q39.2 != q43.2))) (rd := []) rfl rfl rfl (by cases g45 <;> rfl) ?_
          subst h46
          refine AW.if rfl (fun h47 => ?_) (fun h47 => ?_)
          · replace hr := cnd_t h47 hr
            refine AW.seq ?_
            refine AW.region (M := fun _ => true) ?_
            refine AL.v good (d := 4) (v := .bool false) rfl rfl rfl rfl ?_
            refine AW.ret ?_
            obtain rfl := Option.some.inj hr
            exact RetQ.w good (.inr rfl) rfl rfl (Wv.refl _) (by simp [pureA, pureL, pureR, inA, inL, inR, inO, idsIn, encs_pure, enxs_pure, enys_pure, valC_pure, exC_pure, tyC_pure, r_int_u8_pure, r_st_GInst_pure, r_sl_st_GInst_pure, r_st_GMiss_pure])
          · replace hr := cnd_f h47 hr
            refine AW.skip ?_
            refine AW.seq ?_
            refine AW.draw (M := fun i => false) good.wide (by kernel_rfl) ?_
            refine AL.v good (d := 130) (v := .int .i64 q43.2) rfl rfl rfl rfl ?_
            refine AL.v good (d := 131) (v := .bool (q43.2 != 0)) rfl rfl rfl rfl ?_
            refine AL.v good (d := 132) (v := .bool (q43.2 != 0)) rfl rfl rfl rfl ?_
            refine AL.cs 132 rfl (fun h48 => ?_) (fun h48 => ?_)
            · replace hr := cnd_t h48 hr
              refine AL.v good (d := 133) (v := .sl .ro 5 (encs q37.1)) rfl rfl rfl rfl ?_
              refine AL.ln good (d := 134) (m := q37.1.length) rfl rfl rfl rfl rfl rfl (encs_length _) ?_
              refine AL.v good (d := 135) (v := .bool ((q37.1.length : Int) == 0)) rfl rfl rfl rfl ?_
              refine AL.v good (d := 136) (v := .bool ((q37.1.length : Int) == 0)) rfl rfl rfl rfl ?_
              refine AL.v good (d := 137) (v := .bool ((q37.1.length : Int) == 0)) rfl rfl rfl rfl ?_
              refine AL.cs 137 rfl (fun h49 => ?_) (fun h49 => ?_)
              · replace hr := cnd_t h49 hr
                refine AL.sk good (d := 138) rfl rfl rfl ?_
                refine AL.sk good (d := 139) rfl rfl rfl ?_
                refine AL.sk good (d := 140) rfl rfl rfl ?_
                refine AL.sk good (d := 141) rfl rfl rfl ?_
                refine AL.sk good (d := 142) rfl rfl rfl ?_
                refine AL.sk good (d := 143) rfl rfl rfl ?_
                refine AL.sk good (d := 144) rfl rfl rfl ?_
                refine AL.sk good (d := 145) rfl rfl rfl ?_
                refine AL.sk good (d := 146) rfl rfl rfl ?_
                refine AL.sk good (d := 147) rfl rfl rfl ?_
                refine AL.sk good (d := 148) rfl rfl rfl ?_
                refine AL.sk good (d := 149) rfl rfl rfl ?_
                refine AL.sk good (d := 150) rfl rfl rfl ?_
                refine AL.sk good (d := 151) rfl rfl rfl ?_
                refine AL.sk good (d := 152) rfl rfl rfl ?_
                refine AL.sk good (d := 153) rfl rfl rfl ?_
                refine AL.sk good (d := 154) rfl rfl rfl ?_
                refine AL.sk good (d := 155) rfl rfl rfl ?_
                refine AL.sk good (d := 156) rfl rfl rfl ?_
                refine AL.sk good (d := 157) rfl rfl rfl ?_
                refine AL.sk good (d := 158) rfl rfl rfl ?_
                refine AL.sk good (d := 159) rfl rfl rfl ?_
                refine AL.sk good (d := 160) rfl rfl rfl ?_
                refine AL.sk good (d := 161) rfl rfl rfl ?_
                refine AL.sk good (d := 162) rfl rfl rfl ?_
                refine AL.sk good (d := 163) rfl rfl rfl ?_
                refine AL.sk good (d := 164) rfl rfl rfl ?_
                refine AL.sk good (d := 165) rfl rfl rfl ?_
                refine AL.sk good (d := 166) rfl rfl rfl ?_
                refine AL.sk good (d := 167) rfl rfl rfl ?_
                refine AL.v good (d := 168) (v := .bool true) rfl rfl rfl rfl ?_
                refine AL.v good (d := 4) (v := .bool true) rfl rfl rfl rfl ?_
                refine AW.ret ?_
                obtain rfl := Option.some.inj hr
                exact RetQ.w good (.inr rfl) rfl rfl (Wv.refl _) (by simp [pureA, pureL, pureR, inA, inL, inR, inO, idsIn, encs_pure, enxs_pure, enys_pure, valC_pure, exC_pure, tyC_pure, r_int_u8_pure, r_st_GInst_pure, r_sl_st_GInst_pure, r_st_GMiss_pure])
              · replace hr := cnd_f h49 hr
                refine AL.v good (d := 138) (v := .int .i64 q43.2) rfl rfl rfl rfl ?_
                refine AL.v good (d := 139) (v := .bool (q43.2 == 0)) rfl rfl rfl rfl ?_
                refine AL.v good (d := 140) (v := .bool (q43.2 == 0)) rfl rfl rfl rfl ?_
                refine AL.cs 140 rfl (fun h => by cases (bneT h48).symm.trans h) (fun h => ?_)
                refine AL.sk good (d := 141) rfl rfl rfl ?_
                refine AL.sk good (d := 142) rfl rfl rfl ?_
                refine AL.sk good (d := 143) rfl rfl rfl ?_
                refine AL.v good (d := 144) (v := .bool false) rfl rfl rfl rfl ?_
                refine AL.v good (d := 145) (v := .bool false) rfl rfl rfl rfl ?_
                refine AL.sk good (d := 146) rfl rfl rfl ?_
                refine AL.sk good (d := 147) rfl rfl rfl ?_
                refine AL.sk good (d := 148) rfl rfl rfl ?_
                refine AL.sk good (d := 149) rfl rfl rfl ?_
                refine AL.sk good (d := 150) rfl rfl rfl ?_
                refine AL.sk good (d := 151) rfl rfl rfl ?_
                refine AL.sk good (d := 152) rfl rfl rfl ?_
                refine AL.v good (d := 153) (v := .bool false) rfl rfl rfl rfl ?_
                refine AL.v good (d := 154) (v := .bool false) rfl rfl rfl rfl ?_
                refine AL.sk good (d := 155) rfl rfl rfl ?_
                refine AL.sk good (d := 156) rfl rfl rfl ?_
                refine AL.sk good (d := 157) rfl rfl rfl ?_
                refine AL.sk good (d := 158) rfl rfl rfl ?_
                refine AL.sk good (d := 159) rfl rfl rfl ?_
                refine AL.v good (d := 160) (v := .bool false) rfl rfl rfl rfl ?_
                refine AL.v good (d := 161) (v := .bool false) rfl rfl rfl rfl ?_
                refine AL.sk good (d := 162) rfl rfl rfl ?_
                refine AL.sk good (d := 163) rfl rfl rfl ?_
                refine AL.sk good (d := 164) rfl rfl rfl ?_
                refine AL.sk good (d := 165) rfl rfl rfl ?_
                refine AL.sk good (d := 166) rfl rfl rfl ?_
                refine AL.v good (d := 167) (v := .bool false) rfl rfl rfl rfl ?_
                refine AL.v good (d := 168) (v := .bool false) rfl rfl rfl rfl ?_
                refine AL.v good (d := 4) (v := .bool false) rfl rfl rfl rfl ?_
                refine AW.ret ?_
                obtain rfl := Option.some.inj hr
                exact RetQ.w good (.inr rfl) rfl rfl (Wv.refl _) (by simp [pureA, pureL, pureR, inA, inL, inR, inO, idsIn, encs_pure, enxs_pure, enys_pure, valC_pure, exC_pure, tyC_pure, r_int_u8_pure, r_st_GInst_pure, r_sl_st_GInst_pure, r_st_GMiss_pure])
            · replace hr := cnd_f h48 hr
              refine AL.sk good (d := 133) rfl rfl rfl ?_
              refine AL.sk good (d := 134) rfl rfl rfl ?_
              refine AL.sk good (d := 135) rfl rfl rfl ?_
              refine AL.v good (d := 136) (v := .bool false) rfl rfl rfl rfl ?_
              refine AL.v good (d := 137) (v := .bool false) rfl rfl rfl rfl ?_
              refine AL.v good (d := 138) (v := .int .i64 q43.2) rfl rfl rfl rfl ?_
              refine AL.v good (d := 139) (v := .bool (q43.2 == 0)) rfl rfl rfl rfl ?_
              refine AL.v good (d := 140) (v := .bool (q43.2 == 0)) rfl rfl rfl rfl ?_
              refine AL.cs 140 rfl (fun h => ?_) (fun h => by cases (bneF h48).symm.trans h)
              refine AL.v good (d := 141) (v := .sl .ro 5 (encs q37.1)) rfl rfl rfl rfl ?_
              refine AL.ln good (d := 142) (m := q37.1.length) rfl rfl rfl rfl rfl rfl (encs_length _) ?_
              refine AL.v good (d := 143) (v := .bool ((q37.1.length : Int) == 1)) rfl rfl rfl rfl ?_
              refine AL.v good (d := 144) (v := .bool ((q37.1.length : Int) == 1)) rfl rfl rfl rfl ?_
              refine AL.v good (d := 145) (v := .bool ((q37.1.length : Int) == 1)) rfl rfl rfl rfl ?_
              refine AL.cs 145 rfl (fun h50 => ?_) (fun h50 => ?_)
              · replace hr := cnd_t h50 hr
                refine AL.v good (d := 146) (v := .sl .ro 5 (encs q37.1)) rfl rfl rfl rfl ?_
                obtain ⟨x51, h52, hr⟩ := bnd1 hr
                refine AL.ix good (d := 147) (r := [.int .i64 x51.kind, .int .i64 x51.i, .bool x51.b, .str x51.s, .sl .ro 5 (encs x51.t)]) rfl rfl rfl rfl rfl rfl rfl (by decide) (encs_get h52) ?_
                refine AL.v good (d := 148) (v := .ep [.bool x51.b, .str x51.s, .sl .ro 5 (encs x51.t)]) rfl rfl rfl rfl ?_
                refine AL.v good (d := 149) (v := .bool x51.b) rfl rfl rfl rfl ?_
                refine AL.v good (d := 150) (v := .ptr 9 2) rfl rfl rfl rfl ?_
                refine AL.v good (d := 151) (v := .bool q43.1.b) rfl rfl rfl rfl ?_
                refine AL.v good (d := 152) (v := .bool (x51.b == q43.1.b)) rfl rfl rfl rfl ?_
                refine AL.v good (d := 153) (v := .bool (x51.b == q43.1.b)) rfl rfl rfl rfl ?_
                refine AL.v good (d := 154) (v := .bool (x51.b == q43.1.b)) rfl rfl rfl rfl ?_
                refine AL.cs 154 rfl (fun h53 => ?_) (fun h53 => ?_)
                · replace hr := cnd_t h53 hr
                  refine AL.v good (d := 155) (v := .ptr 8 2) rfl rfl rfl rfl ?_
                  refine AL.v good (d := 156) (v := .bool q39.1.b) rfl rfl rfl rfl ?_
                  refine AL.v good (d := 157) (v := .ptr 9 2) rfl rfl rfl rfl ?_
                  refine AL.v good (d := 158) (v := .bool q43.1.b) rfl rfl rfl rfl ?_
                  refine AL.v good (d := 159) (v := .bool (q39.1.b == q43.1.b)) rfl rfl rfl rfl ?_
                  refine AL.v good (d := 160) (v := .bool (q39.1.b == q43.1.b)) rfl rfl rfl rfl ?_
                  refine AL.v good (d := 161) (v := .bool (q39.1.b == q43.1.b)) rfl rfl rfl rfl ?_
                  refine AL.cs 161 rfl (fun h54 => ?_) (fun h54 => ?_)
                  · replace hr := cnd_t h54 hr
                    refine AL.v good (d := 162) (v := .sl .ro 5 (encs q37.1)) rfl rfl rfl rfl ?_
                    obtain ⟨x55, h56, hr⟩ := bnd1 hr
                    refine AL.ix good (d := 163) (r := [.int .i64 x55.kind, .int .i64 x55.i, .bool x55.b, .str x55.s, .sl .ro 5 (encs x55.t)]) rfl rfl rfl rfl rfl rfl rfl (by decide) (encs_get h56) ?_
                    refine AL.v good (d := 164) (v := .ep [.int .i64 x55.kind, .int .i64 x55.i, .bool x55.b, .str x55.s, .sl .ro 5 (encs x55.t)]) rfl rfl rfl rfl ?_
                    refine AL.v good (d := 165) (v := .int .i64 x55.kind) rfl rfl rfl rfl ?_
                    refine AL.v good (d := 166) (v := .bool (x55.kind == 2)) rfl rfl rfl rfl ?_
                    refine AL.v good (d := 167) (v := .bool (x55.kind == 2)) rfl rfl rfl rfl ?_
                    refine AL.v good (d := 168) (v := .bool (x55.kind == 2)) rfl rfl rfl rfl ?_
                    refine AL.v good (d := 4) (v := .bool (x55.kind == 2)) rfl rfl rfl rfl ?_
                    refine AW.ret ?_
                    obtain rfl := Option.some.inj hr
                    exact RetQ.w good (.inr rfl) rfl rfl (Wv.refl _) (by simp [pureA, pureL, pureR, inA, inL, inR, inO, idsIn, encs_pure, enxs_pure, enys_pure, valC_pure, exC_pure, tyC_pure, r_int_u8_pure, r_st_GInst_pure, r_sl_st_GInst_pure, r_st_GMiss_pure])
                  · replace hr := cnd_f h54 hr
                    refine AL.sk good (d := 162) rfl rfl rfl ?_
                    refine AL.sk good (d := 163) rfl rfl rfl ?_
                    refine AL.sk good (d := 164) rfl rfl rfl ?_
                    refine AL.sk good (d := 165) rfl rfl rfl ?_
                    refine AL.sk good (d := 166) rfl rfl rfl ?_
                    refine AL.v good (d := 167) (v := .bool false) rfl rfl rfl rfl ?_
                    refine AL.v good (d := 168) (v := .bool false) rfl rfl rfl rfl ?_
                    refine AL.v good (d := 4) (v := .bool false) rfl rfl rfl rfl ?_
                    refine AW.ret ?_
                    obtain rfl := Option.some.inj hr
                    exact RetQ.w good (.inr rfl) rfl rfl (Wv.refl _) (by simp [pureA, pureL, pureR, inA, inL, inR, inO, idsIn, encs_pure, enxs_pure, enys_pure, valC_pure, exC_pure, tyC_pure, r_int_u8_pure, r_st_GInst_pure, r_sl_st_GInst_pure, r_st_GMiss_pure])
                · replace hr := cnd_f h53 hr
                  refine AL.sk good (d := 155) rfl rfl rfl ?_
                  refine AL.sk good (d := 156) rfl rfl rfl ?_
                  refine AL.sk good (d := 157) rfl rfl rfl ?_
                  refine AL.sk good (d := 158) rfl rfl rfl ?_
                  refine AL.sk good (d := 159) rfl rfl rfl ?_
                  refine AL.v good (d := 160) (v := .bool false) rfl rfl rfl rfl ?_
                  refine AL.v good (d := 161) (v := .bool false) rfl rfl rfl rfl ?_
                  refine AL.sk good (d := 162) rfl rfl rfl ?_
                  refine AL.sk good (d := 163) rfl rfl rfl ?_
                  refine AL.sk good (d := 164) rfl rfl rfl ?_
                  refine AL.sk good (d := 165) rfl rfl rfl ?_
                  refine AL.sk good (d := 166) rfl rfl rfl ?_
                  refine AL.v good (d := 167) (v := .bool false) rfl rfl rfl rfl ?_
                  refine AL.v good (d := 168) (v := .bool false) rfl rfl rfl rfl ?_
                  refine AL.v good (d := 4) (v := .bool false) rfl rfl rfl rfl ?_
                  refine AW.ret ?_
                  obtain rfl := Option.some.inj hr
                  exact RetQ.w good (.inr rfl) rfl rfl (Wv.refl _) (by simp [pureA, pureL, pureR, inA, inL, inR, inO, idsIn, encs_pure, enxs_pure, enys_pure, valC_pure, exC_pure, tyC_pure, r_int_u8_pure, r_st_GInst_pure, r_sl_st_GInst_pure, r_st_GMiss_pure])
              · replace hr := cnd_f h50 hr
                refine AL.sk good (d := 146) rfl rfl rfl ?_
                refine AL.sk good (d := 147) rfl rfl rfl ?_
                refine AL.sk good (d := 148) rfl rfl rfl ?_
                refine AL.sk good (d := 149) rfl rfl rfl ?_
                refine AL.sk good (d := 150) rfl rfl rfl ?_
                refine AL.sk good (d := 151) rfl rfl rfl ?_
                refine AL.sk good (d := 152) rfl rfl rfl ?_
                refine AL.v good (d := 153) (v := .bool false) rfl rfl rfl rfl ?_
                refine AL.v good (d := 154) (v := .bool false) rfl rfl rfl rfl ?_
                refine AL.sk good (d := 155) rfl rfl rfl ?_
                refine AL.sk good (d := 156) rfl rfl rfl ?_
                refine AL.sk good (d := 157) rfl rfl rfl ?_
                refine AL.sk good (d := 158) rfl rfl rfl ?_
                refine AL.sk good (d := 159) rfl rfl rfl ?_
                refine AL.v good (d := 160) (v := .bool false) rfl rfl rfl rfl ?_
                refine AL.v good (d := 161) (v := .bool false) rfl rfl rfl rfl ?_
                refine AL.sk good (d := 162) rfl rfl rfl ?_
                refine AL.sk good (d := 163) rfl rfl rfl ?_
                refine AL.sk good (d := 164) rfl rfl rfl ?_
                refine AL.sk good (d := 165) rfl rfl rfl ?_
                refine AL.sk good (d := 166) rfl rfl rfl ?_
                refine AL.v good (d := 167) (v := .bool false) rfl rfl rfl rfl ?_
                refine AL.v good (d := 168) (v := .bool false) rfl rfl rfl rfl ?_
                refine AL.v good (d := 4) (v := .bool false) rfl rfl rfl rfl ?_
                refine AW.ret ?_
                obtain rfl := Option.some.inj hr
                exact RetQ.w good (.inr rfl) rfl rfl (Wv.refl _) (by simp [pureA, pureL, pureR, inA, inL, inR, inO, idsIn, encs_pure, enxs_pure, enys_pure, valC_pure, exC_pure, tyC_pure, r_int_u8_pure, r_st_GInst_pure, r_sl_st_GInst_pure, r_st_GMiss_pure])

end Go.Proofs.Ytbcjcekoonebiaa.Tl

set_option linter.unusedVariables false
set_option linter.unusedSimpArgs false
namespace Go.Proofs.Ytbcjcekoonebiaa.Tl
open Go Go.RowKit
theorem bd_zero : BdV zeroV := ⟨Nat.zero_le _, trivial⟩
theorem bd_bool (b : Bool) : BdV (.mk 2 0 b ⟨#[]⟩ []) := ⟨Nat.zero_le _, trivial⟩
theorem mvI_f1 (k : Int) (i : GInst) : (mvI k i).f1 = i.f1 := by
  unfold mvI
  cases isJ i <;> rfl
def BdP (p : List GInst) : Prop := ∀ i ∈ p, BdV i.f1
theorem BdP.app {a b : List GInst} (ha : BdP a) (hb : BdP b) : BdP (a ++ b) := fun i hi => by
  rcases List.mem_append.1 hi with h | h
  · exact ha i h
  · exact hb i h
theorem BdP.one {i : GInst} (h : BdV i.f1) : BdP [i] := fun x hx => by simp at hx; subst hx; exact h
theorem BdP.mv {b : List GInst} (hb : BdP b) (k : Int) : BdP (mvP k b) := fun i hi => by
  obtain ⟨x, hx, rfl⟩ := List.mem_map.1 hi
  rw [mvI_f1]
  exact hb x hx
theorem BdP.join {a b : List GInst} (ha : BdP a) (hb : BdP b) : BdP (joinP a b) := ha.app (hb.mv _)
theorem BdP.fold : ∀ {gs : List (List GInst)} {acc : List GInst}, BdP acc → (∀ g ∈ gs, BdP g) → BdP (gs.foldl joinP acc)
  | [], acc, h, _ => h
  | g :: r, acc, h, hg => BdP.fold (gs := r) (h.join (hg g (by simp))) (fun x hx => hg x (by simp [hx]))
theorem BdP.choose {a b c : List GInst} (ha : BdP a) (hb : BdP b) (hc : BdP c) : BdP (chooseP a b c) := (((ha.app (.one bd_zero)).join hb).app (.one bd_zero)).join hc
theorem getD_all {gs : List (List GInst)} (h : ∀ g ∈ gs, BdP g) (j : Nat) : BdP (gs.getD j []) := by
  rw [List.getD_eq_getElem?_getD]
  cases hj : gs[j]? with
  | none => intro i hi; cases hi
  | some g => exact h g (List.mem_of_getElem? hj)
theorem opI_f1 (o : ByteArray) (m : Int) (k : Nat) : (opI o m k).f1 = zeroV := by
  unfold opI
  cases o.data.toList == [97, 116] <;> cases o.data.toList == [116, 117, 112] <;> rfl
theorem bdO {o : ByteArray} {v : Val} {m : Int} {k : Nat} {gs : List (List GInst)} (hv : BdV v) (h : ∀ g ∈ gs, BdP g) : BdP (genO o v m k gs) := by
  unfold genO
  cases o.data.toList == [108, 105, 116] with
  | true => exact .one hv
  | false =>
    cases o.data.toList == [120] with
    | true => exact .one bd_zero
    | false =>
      cases o.data.toList == [97, 110, 100] with
      | true => exact (getD_all h 0).choose (getD_all h 1) (.one (bd_bool _))
      | false =>
        cases o.data.toList == [111, 114] with
        | true => exact (getD_all h 0).choose (.one (bd_bool _)) (getD_all h 1)
        | false =>
          cases o.data.toList == [105, 102] with
          | true => exact (getD_all h 0).choose (getD_all h 1) (getD_all h 2)
          | false => exact (BdP.fold (fun i hi => by cases hi) h).app (.one (by rw [opI_f1]; exact bd_zero))
mutual
theorem gen_bd : ∀ e : Ex, BdE e → BdP (genE e)
  | .mk o v m a, h => bdO h.2.1 (gens_bd a h.2.2)
theorem gens_bd : ∀ l : List Ex, BdEs l → ∀ g ∈ genEs l, BdP g
  | [], _, g, hg => by simp [genEs] at hg
  | e :: r, h, g, hg => by
    simp only [genEs, List.mem_cons] at hg
    rcases hg with rfl | hg
    · exact gen_bd e h.1
    · exact gens_bd r h.2 g hg
end

/-! ### where no place is added -/
def Fix (p : List GInst) : Prop := ∀ i ∈ p, mvI 0 i = i
theorem Fix.app {a b : List GInst} (ha : Fix a) (hb : Fix b) : Fix (a ++ b) := fun i hi => by
  rcases List.mem_append.1 hi with h | h
  · exact ha i h
  · exact hb i h
theorem Fix.one {i : GInst} (h : mvI 0 i = i) : Fix [i] := fun x hx => by simp at hx; subst hx; exact h
theorem fix_mv (b : List GInst) (k : Int) : Fix (mvP k b) := fun i hi => by
  obtain ⟨x, hx, rfl⟩ := List.mem_map.1 hi
  rw [mvI_mv, Int.zero_add]
theorem Fix.join {a : List GInst} (ha : Fix a) (b : List GInst) : Fix (joinP a b) := ha.app (fix_mv _ _)
theorem Fix.fold : ∀ {gs : List (List GInst)} {acc : List GInst}, Fix acc → Fix (gs.foldl joinP acc)
  | [], acc, h => h
  | g :: r, acc, h => Fix.fold (gs := r) (h.join g)
theorem fix_nj {i : GInst} (h : isJ i = false) : mvI 0 i = i := by rw [mvI, h]; rfl
theorem Fix.choose {a : List GInst} (ha : Fix a) (b c : List GInst) (h : (chooseP a b c).length ≤ 1000000) : Fix (chooseP a b c) := by
  rw [chooseP_length] at h
  refine Fix.join (Fix.app (Fix.join (Fix.app ha (.one ?_)) b) (.one ?_)) c
  · have := mv_jf (j := 0) (f := a.length + 1 + b.length + 1) (by omega)
    rw [Nat.zero_add] at this
    exact this
  · have := mv_jmp (j := 0) (f := a.length + 1 + b.length + 1 + c.length) (by omega)
    rw [Nat.zero_add] at this
    exact this
theorem opI_nj {o : ByteArray} (m : Int) (k : Nat) (h : arS o.data.toList ≠ -2) : isJ (opI o m k) = false := by
  unfold isJ
  rw [opI_f0]
  rcases arS_cases h with q | q | q | q | q | q | q | q | q | q | q | q | q | q | q | q | q | q <;> (rw [q]; rfl)
def FixL (l : List Ex) : Prop := ∀ g ∈ genEs l, g.length ≤ 1000000 → Fix g
theorem FixL.get {l : List Ex} (h : FixL l) (j : Nat) (hl : ((genEs l).getD j []).length ≤ 1000000) : Fix ((genEs l).getD j []) := by
  rw [List.getD_eq_getElem?_getD] at hl ⊢
  cases hj : (genEs l)[j]? with
  | none => intro i hi; cases hi
  | some g => rw [hj] at hl; exact h g (List.mem_of_getElem? hj) hl
theorem fixO {o : ByteArray} {v : Val} {m : Int} {k : Nat} {l : List Ex} (har : arS o.data.toList ≠ -2) (h : FixL l) (hl : (genO o v m k (genEs l)).length ≤ 1000000) : Fix (genO o v m k (genEs l)) := by
  unfold genO at hl ⊢
  cases c1 : o.data.toList == [108, 105, 116] with
  | true => exact .one rfl
  | false =>
    rw [c1] at hl
    simp only [cond_false] at hl ⊢
    cases c2 : o.data.toList == [120] with
    | true => exact .one rfl
    | false =>
      rw [c2] at hl
      simp only [cond_false] at hl ⊢
      cases c3 : o.data.toList == [97, 110, 100] with
      | true =>
        rw [c3] at hl
        simp only [cond_true] at hl ⊢
        exact (h.get 0 (by rw [chooseP_length] at hl; omega)).choose _ _ hl
      | false =>
        rw [c3] at hl
        simp only [cond_false] at hl ⊢
        cases c4 : o.data.toList == [111, 114] with
        | true =>
          rw [c4] at hl
          simp only [cond_true] at hl ⊢
          exact (h.get 0 (by rw [chooseP_length] at hl; omega)).choose _ _ hl
        | false =>
          rw [c4] at hl
          simp only [cond_false] at hl ⊢
          cases c5 : o.data.toList == [105, 102] with
          | true =>
            rw [c5] at hl
            simp only [cond_true] at hl ⊢
            exact (h.get 0 (by rw [chooseP_length] at hl; omega)).choose _ _ hl
          | false => exact Fix.app (Fix.fold (fun i hi => by cases hi)) (.one (fix_nj (opI_nj m k har)))
mutual
theorem gen_fix : ∀ e : Ex, WfE e → (genE e).length ≤ 1000000 → Fix (genE e)
  | .mk o v m a, h, hl => fixO h.1.1 (gens_fix a h.2) hl
theorem gens_fix : ∀ l : List Ex, WfEs l → FixL l
  | [], _, g, hg => by simp [genEs] at hg
  | e :: r, h, g, hg => fun hl => by
    simp only [genEs, List.mem_cons] at hg
    rcases hg with rfl | hg
    · exact gen_fix e h.1 hl
    · exact gens_fix r h.2 g hg hl
end
theorem at0 {g : List GInst} (h : Fix g) (b : List GInst) : At (g ++ b) 0 g := by
  refine ⟨by simp, fun k i hi => ?_⟩
  have hlt : k < g.length := (List.getElem?_eq_some_iff.1 hi).1
  rw [Nat.zero_add, List.getElem?_append_left hlt, hi]
  exact congrArg some (h i (List.mem_of_getElem? hi)).symm
abbrev emitI (k : Int) : GInst := ⟨⟨#[101, 109, 105, 116]⟩, zeroV, k⟩
abbrev retI : GInst := ⟨⟨#[114, 101, 116]⟩, zeroV, 0⟩
theorem step_emit (x : Val) (st ws out : List Val) : stepM (emitI (ws.length : Int)) x (st ++ ws) out = some (st, out ++ ws, 0) := by
  have e : stepM (emitI (ws.length : Int)) x (st ++ ws) out = (if 0 ≤ (ws.length : Int) ∧ (ws.length : Int).toNat ≤ (st ++ ws).length then some ((st ++ ws).take ((st ++ ws).length - (ws.length : Int).toNat), out ++ (st ++ ws).drop ((st ++ ws).length - (ws.length : Int).toNat), 0) else none) := rfl
  rw [e, Int.toNat_natCast, if_pos ⟨by omega, by simp⟩, drop_st, take_st]
/-- An expression's program, let out: its value, or its error. -/
theorem run_whole {g : List GInst} {x w : Val} {h : Int} (hg : Goes g x w h) (hf : Fix g) (hl : g.length + 3 ≤ 1000000) : Ev (fun n => s_f40 n (g ++ [emitI 1, retI]) x) (bif h == 0 then [w] else [], h) := by
  refine e40 (hg _ 0 [] [] _ (at0 hf _) (by simp; omega) (by simp; omega) (fun hz => ?_) (fun hne => ?_) 0)
  · subst hz
    have e := step_emit x [] [w] []
    refine run_step (i := emitI 1) (by simp) rfl rfl rfl e (by simp) (by simp) (by simp; omega) (fun v => ?_)
    exact run_ret (i := retI) (by simp) rfl _ _ v
  · rw [show (h == 0) = false from beq_false_of_ne hne]
    rfl

/-! ### VmLazy -/
abbrev xX : Ex := .mk ⟨#[120]⟩ zeroV 0 []
abbrev litX (v : Val) : Ex := .mk ⟨#[108, 105, 116]⟩ v 0 []
abbrev badX : Ex := .mk ⟨#[101, 113]⟩ zeroV 0 [.mk ⟨#[114, 101, 109]⟩ zeroV 0 [xX, litX (.mk 1 0 false ⟨#[]⟩ [])], xX]
abbrev tB : Ty := .mk 2 []
abbrev tI : Ty := .mk 1 []
theorem ck_lit (b : Bool) (d : Int) (h : d ≤ 12) : ckE (litX (.mk 2 0 b ⟨#[]⟩ [])) tI d = (tB, 0) := by
  have hd : decide (d > 12) = false := decide_eq_false (by omega)
  simp only [ckE, hd]
  cases b <;> rfl
theorem ck_x (ty : Ty) (d : Int) (h : d ≤ 12) : ckE xX ty d = (ty, 0) := by
  have hd : decide (d > 12) = false := decide_eq_false (by omega)
  simp only [ckE, hd]
  rfl
theorem ck_num (k : Int) (d : Int) (h : d ≤ 12) : ckE (litX (.mk 1 k false ⟨#[]⟩ [])) tI d = (tI, 0) := by
  have hd : decide (d > 12) = false := decide_eq_false (by omega)
  simp only [ckE, hd]
  rfl
theorem ckEs_two {a b : Ex} {ty s t : Ty} {d : Int} (ha : ckE a ty d = (s, 0)) (hb : ckE b ty d = (t, 0)) : ckEs [a, b] ty d = ([s, t], 0) := by simp [ckEs, ha, hb]
theorem ckEs_three {a b c : Ex} {ty s t u : Ty} {d : Int} (ha : ckE a ty d = (s, 0)) (hb : ckE b ty d = (t, 0)) (hc : ckE c ty d = (u, 0)) : ckEs [a, b, c] ty d = ([s, t, u], 0) := by simp [ckEs, ha, hb, hc]
theorem ck_and {a b : Ex} {d : Int} (h : d ≤ 12) (ha : ckE a tI (d + 1) = (tB, 0)) (hb : ckE b tI (d + 1) = (tB, 0)) : ckE (.mk ⟨#[97, 110, 100]⟩ zeroV 0 [a, b]) tI d = (tB, 0) := by
  have hd : decide (d > 12) = false := decide_eq_false (by omega)
  simp only [ckE, hd, ckEs_two ha hb]
  rfl
theorem ck_or {a b : Ex} {d : Int} (h : d ≤ 12) (ha : ckE a tI (d + 1) = (tB, 0)) (hb : ckE b tI (d + 1) = (tB, 0)) : ckE (.mk ⟨#[111, 114]⟩ zeroV 0 [a, b]) tI d = (tB, 0) := by
  have hd : decide (d > 12) = false := decide_eq_false (by omega)
  simp only [ckE, hd, ckEs_two ha hb]
  rfl
theorem ck_if {a b c : Ex} {d : Int} (h : d ≤ 12) (ha : ckE a tI (d + 1) = (tB, 0)) (hb : ckE b tI (d + 1) = (tB, 0)) (hc : ckE c tI (d + 1) = (tB, 0)) : ckE (.mk ⟨#[105, 102]⟩ zeroV 0 [a, b, c]) tI d = (tB, 0) := by
  have hd : decide (d > 12) = false := decide_eq_false (by omega)
  simp only [ckE, hd, ckEs_three ha hb hc]
  rfl
theorem ck_lt {k d : Int} (h : d ≤ 11) : ckE (.mk ⟨#[108, 116]⟩ zeroV 0 [xX, litX (.mk 1 k false ⟨#[]⟩ [])]) tI d = (tB, 0) := by
  have hd : decide (d > 12) = false := decide_eq_false (by omega)
  have := ckEs_two (ck_x tI (d + 1) (by omega)) (ck_num k (d + 1) (by omega))
  simp only [ckE, hd, this]
  rfl
theorem ck_rem {d : Int} (h : d ≤ 11) : ckE (.mk ⟨#[114, 101, 109]⟩ zeroV 0 [xX, litX (.mk 1 0 false ⟨#[]⟩ [])]) tI d = (tI, 0) := by
  have hd : decide (d > 12) = false := decide_eq_false (by omega)
  have := ckEs_two (ck_x tI (d + 1) (by omega)) (ck_num 0 (d + 1) (by omega))
  simp only [ckE, hd, this]
  rfl
theorem ck_bad {d : Int} (h : d ≤ 10) : ckE badX tI d = (tB, 0) := by
  have hd : decide (d > 12) = false := decide_eq_false (by omega)
  have := ckEs_two (ck_rem (d := d + 1) (by omega)) (ck_x tI (d + 1) (by omega))
  unfold badX
  rw [ckE]
  simp only [hd, this]
  rfl
theorem len_two (o : ByteArray) (a b : Ex) (h : o.data.toList = [97, 110, 100] ∨ o.data.toList = [111, 114]) : (genE (.mk o zeroV 0 [a, b])).length ≤ (genE a).length + (genE b).length + 3 := by
  rcases h with h | h <;> (simp only [genE, genO, h, genEs]; simp [chooseP_length]; omega)
theorem len_if (a b c : Ex) : (genE (.mk ⟨#[105, 102]⟩ zeroV 0 [a, b, c])).length ≤ (genE a).length + (genE b).length + (genE c).length + 2 := by
  simp only [genE, genO, genEs]
  show (chooseP (genE a) (genE b) (genE c)).length ≤ _
  rw [chooseP_length]
  omega
theorem len_bad : (genE badX).length = 5 := rfl
theorem len_lit (v : Val) : (genE (litX v)).length = 1 := rfl
theorem bd_bad : BdE badX := by simp [badX, BdE, BdEs, BdV, BdVs]
theorem bd_lit {v : Val} (h : BdV v) : BdE (litX v) := ⟨Nat.zero_le _, h, trivial⟩
/-- What is made in so many rounds. -/
structure LzI (i : Nat) (e : Ex) : Prop where
  bd : BdE e
  ck : ∀ d : Int, d + i ≤ 9 → ckE e tI d = (tB, 0)
  len : (genE e).length ≤ 3 + 10 * i
theorem lz0 : LzI 0 (.mk ⟨#[108, 116]⟩ zeroV 0 [xX, litX (.mk 1 5 false ⟨#[]⟩ [])]) := ⟨by simp [BdE, BdEs, BdV, BdVs], fun d h => ck_lt (by omega), by show 3 ≤ _; omega⟩
theorem bd_mk2 {o : ByteArray} {a b : Ex} (ha : BdE a) (hb : BdE b) : BdE (.mk o zeroV 0 [a, b]) := ⟨by simp, bd_zero, ha, hb, trivial⟩
theorem bd_mk3 {o : ByteArray} {a b c : Ex} (ha : BdE a) (hb : BdE b) (hc : BdE c) : BdE (.mk o zeroV 0 [a, b, c]) := ⟨by simp, bd_zero, ha, hb, hc, trivial⟩
theorem LzI.and {i : Nat} {a b : Ex} (ha : BdE a) (hb : BdE b) (ca : ∀ d : Int, d + (i + 1 : Nat) ≤ 9 → ckE a tI (d + 1) = (tB, 0)) (cb : ∀ d : Int, d + (i + 1 : Nat) ≤ 9 → ckE b tI (d + 1) = (tB, 0)) (hl : (genE a).length + (genE b).length + 3 ≤ 3 + 10 * (i + 1)) : LzI (i + 1) (.mk ⟨#[97, 110, 100]⟩ zeroV 0 [a, b]) :=
  ⟨bd_mk2 ha hb, fun d h => ck_and (by omega) (ca d h) (cb d h), Nat.le_trans (len_two _ a b (.inl rfl)) hl⟩
theorem LzI.or {i : Nat} {a b : Ex} (ha : BdE a) (hb : BdE b) (ca : ∀ d : Int, d + (i + 1 : Nat) ≤ 9 → ckE a tI (d + 1) = (tB, 0)) (cb : ∀ d : Int, d + (i + 1 : Nat) ≤ 9 → ckE b tI (d + 1) = (tB, 0)) (hl : (genE a).length + (genE b).length + 3 ≤ 3 + 10 * (i + 1)) : LzI (i + 1) (.mk ⟨#[111, 114]⟩ zeroV 0 [a, b]) :=
  ⟨bd_mk2 ha hb, fun d h => ck_or (by omega) (ca d h) (cb d h), Nat.le_trans (len_two _ a b (.inr rfl)) hl⟩
theorem LzI.if {i : Nat} {a b c : Ex} (ha : BdE a) (hb : BdE b) (hc : BdE c) (ca : ∀ d : Int, d + (i + 1 : Nat) ≤ 9 → ckE a tI (d + 1) = (tB, 0)) (cb : ∀ d : Int, d + (i + 1 : Nat) ≤ 9 → ckE b tI (d + 1) = (tB, 0)) (cc : ∀ d : Int, d + (i + 1 : Nat) ≤ 9 → ckE c tI (d + 1) = (tB, 0)) (hl : (genE a).length + (genE b).length + (genE c).length + 2 ≤ 3 + 10 * (i + 1)) : LzI (i + 1) (.mk ⟨#[105, 102]⟩ zeroV 0 [a, b, c]) :=
  ⟨bd_mk3 ha hb hc, fun d h => ck_if (by omega) (ca d h) (cb d h) (cc d h), Nat.le_trans (len_if a b c) hl⟩
theorem LzI.up {i : Nat} {e : Ex} (h : LzI i e) (d : Int) (hd : d + (i + 1 : Nat) ≤ 9) : ckE e tI (d + 1) = (tB, 0) := h.ck (d + 1) (by omega)
theorem LzI.next {i : Nat} {e : Ex} (h : LzI i e) : LzI (i + 1) e := ⟨h.bd, fun d hd => h.ck d (by omega), by have := h.len; omega⟩
theorem e15_l (l : List Int) (k : Int) (hl : l.length ≤ 9) : ∀ (m i : Nat) (o : ByteArray) (es : List Ex), i + m = l.length → LzI i (.mk o zeroV 0 es) → Ev (fun n => s_f15_l1 n l k i o es) true
  | 0, i, o, es, h, hi => by
    refine Ev.succ ?_
    simp only [s_f15_l1]
    refine Ev.f (cj_f (by omega)) ?_
    have hck := hi.ck 0 (by omega)
    have hx := ok_int k
    obtain ⟨w, f, q1, q2, q3, q4⟩ := sound _ tI 0 tB _ hi.bd hx hck
    obtain ⟨hwf, w', f', r1, r2, r3⟩ := gens _ tI 0 tB _ hi.bd hx hck
    rw [q1] at r1
    simp only [Option.some.injEq, Prod.mk.injEq] at r1
    obtain ⟨rfl, rfl⟩ := r1
    have hlen := hi.len
    have hlen2 : (genE (.mk o (Val.mk 0 0 false ⟨#[]⟩ []) 0 es)).length ≤ 3 + 10 * i := hi.len
    have hrun := run_whole r3 (gen_fix _ hwf (by omega)) (by omega)
    refine Ev.bind (e19 _ hi.bd) (Ev.bind (e52 _ hwf (by omega)) (Ev.bind (e51 _ (by omega) (gen_bd _ hi.bd)) (Ev.g (by omega) (Ev.bind hrun (Ev.bindc q1 (Ev.bind (e19 _ hi.bd) (Ev.bind q2 (Ev.f (by simp) ?_))))))))
    by_cases hz : f = 0
    · subst hz
      have hkk := okb (q3 rfl) rfl
      refine Ev.f rfl (Ev.t rfl (Ev.bindc rfl (Ev.t (by simp) (Ev.t (by simp) (Ev.bindc rfl ((Ev.mk _).congr ?_))))))
      rw [hkk]
      rfl
    · refine Ev.t (by simpa using hz) (Ev.t ?_ (Ev.mk _))
      rw [show (f == 0) = false from beq_false_of_ne hz]
      rfl
  | m + 1, i, o, es, h, hi => by
    have hlt : i < l.length := by omega
    have e1 : l[i]? = some l[i] := List.getElem?_eq_getElem hlt
    have hlen := hi.len
    have hlen2 : (genE (.mk o (Val.mk 0 0 false ⟨#[]⟩ []) 0 es)).length ≤ 3 + 10 * i := hi.len
    have hb := len_bad
    have ct : ∀ (b : Bool) (d : Int), d + (i + 1 : Nat) ≤ 9 → ckE (litX (.mk 2 0 b ⟨#[]⟩ [])) tI (d + 1) = (tB, 0) := fun b d hd => ck_lit b _ (by omega)
    have cb : ∀ (d : Int), d + (i + 1 : Nat) ≤ 9 → ckE badX tI (d + 1) = (tB, 0) := fun d hd => ck_bad (by omega)
    have bt : ∀ b : Bool, BdE (litX (.mk 2 0 b ⟨#[]⟩ [])) := fun b => bd_lit (bd_bool b)
    refine Ev.succ ?_
    simp only [s_f15_l1]
    refine Ev.t (cj_t hlt) (Ev.bindc e1 (Ev.bindc e1 ?_))
    cases l[i].tmod 6 == 0 with
    | true => exact Ev.t rfl (e15_l l k hl m (i + 1) _ _ (by omega) (LzI.and (bt _) hi.bd (ct _) hi.up (by rw [len_lit]; omega)))
    | false =>
      refine Ev.f rfl ?_
      cases l[i].tmod 6 == 1 with
      | true => exact Ev.t rfl (e15_l l k hl m (i + 1) _ _ (by omega) (LzI.or (bt _) hi.bd (ct _) hi.up (by rw [len_lit]; omega)))
      | false =>
        refine Ev.f rfl ?_
        cases l[i].tmod 6 == 2 with
        | true => exact Ev.t rfl (e15_l l k hl m (i + 1) _ _ (by omega) (LzI.if (bt _) hi.bd bd_bad (ct _) hi.up cb (by rw [len_lit, hb]; omega)))
        | false =>
          refine Ev.f rfl ?_
          cases l[i].tmod 6 == 3 with
          | true => exact Ev.t rfl (e15_l l k hl m (i + 1) _ _ (by omega) (LzI.and hi.bd bd_bad hi.up cb (by rw [hb]; omega)))
          | false =>
            refine Ev.f rfl ?_
            cases l[i].tmod 6 == 4 with
            | true => exact Ev.t rfl (e15_l l k hl m (i + 1) _ _ (by omega) (LzI.or hi.bd bd_bad hi.up cb (by rw [hb]; omega)))
            | false =>
              refine Ev.f rfl ?_
              cases l[i].tmod 6 == 5 with
              | true => exact Ev.t rfl (e15_l l k hl m (i + 1) _ _ (by omega) (LzI.if hi.bd (bt _) bd_bad hi.up (ct _) cb (by rw [len_lit, hb]; omega)))
              | false => exact Ev.f rfl (e15_l l k hl m (i + 1) _ _ (by omega) hi.next)
theorem s15 (l : List Int) (k : Int) : Ev (fun n => s_f15 n l k) true := by
  unfold s_f15
  refine Ev.bind e36 (Ev.f rfl ?_)
  cases hc : decide ((l.length : Int) > 9) with
  | true => exact Ev.t rfl (Ev.mk _)
  | false =>
    have c1 := of_decide_eq_false hc
    exact Ev.f rfl (e15_l l k (by omega) l.length 0 _ _ (by omega) lz0)
end Go.Proofs.Ytbcjcekoonebiaa.Tl

set_option linter.unusedVariables false
set_option linter.unusedSimpArgs false
namespace Go.Proofs.Ytbcjcekoonebiaa.Tl
open Go Go.RowKit
/-- All memory as it stands may be read. -/
abbrev Pw (w : World) : Cx := Pu (fun _ _ => True) w
def ones (cs : List Value) : Prop := ∀ u ∈ cs, u.oneCell' = true

theorem RdR.of_get {C : Cx} {sz : Nat} : ∀ {rows : List (List AV)} {b off : Nat}, (∀ i r, rows[i]? = some r → r.length = sz ∧ RdC C r b (off + i * sz)) → RdR C sz rows b off
  | [], b, off, _ => by simp [RdR]
  | r :: rs, b, off, h => by
    simp only [RdR]
    have h0 := h 0 r (by simp)
    simp only [Nat.zero_mul, Nat.add_zero] at h0
    refine ⟨h0.1, h0.2, RdR.of_get fun i q hq => ?_⟩
    have := h (i + 1) q (by simpa using hq)
    rw [show off + sz + i * sz = off + (i + 1) * sz by rw [Nat.add_mul]; omega]
    exact this

section
variable {H : Type} {enc : TypeId × Value → H} {P : Program} {w : World} {base : Nat} {sp : Nat → Bool} {hd : Bool}
theorem open_sl {fuel : Nat} {t e : TypeId} {cs : List Value} {x : DataW H × List MemPlace} (ht : P.underlying t = some (.slice e)) {α : Type} (c : α → List AV) (p : α → Prop) (sz : Nat) (hsz : P.cellsOf e = sz) (h0 : 0 < sz) (hc : ∀ a, (c a).length = sz)
    (ih : ∀ n, n < fuel → ∀ cs x, DataW.trod enc P w base sp hd n e cs = some x → ∃ a : α, RdL (Pw w) (c a) cs ∧ ones cs ∧ p a)
    (h : DataW.trod enc P w base sp hd fuel t cs = some x) : ∃ (l : List α) (v : Value), cs = [v] ∧ Rd (Pw w) (.sl .ro sz (l.map c)) v ∧ v.oneCell' = true ∧ ∀ a ∈ l, p a := by
  rcases DataW.trod_slice ht h with ⟨rfl, rfl⟩ | ⟨a, len, cap, elems, rest, n, rfl, rfl, rfl, hb, hl, hm, hlen, hel, _, _⟩
  · exact ⟨[], .slice none 0 0, rfl, by simp only [Rd]; exact ⟨none, 0, rfl, Nat.le_refl _, by simp, .inl rfl, trivial⟩, rfl, by simp⟩
  · rw [hsz] at hel
    have key : ∀ k, k ≤ len → ∃ l : List α, l.length = k ∧ (∀ i y, l[i]? = some y → ∃ cs', w.cells? base (a.add (i * sz)) sz = some cs' ∧ RdL (Pw w) (c y) cs' ∧ ones cs') ∧ ∀ y ∈ l, p y := by
      intro k
      induction k with
      | zero => intro _; exact ⟨[], rfl, by simp, by simp⟩
      | succ k ihk =>
        intro hk
        obtain ⟨l, q1, q2, q3⟩ := ihk (by omega)
        have h1 := hel k (by omega)
        rw [List.getElem?_eq_getElem (by omega)] at h1
        obtain ⟨cs', h2, h3⟩ := Option.bind_eq_some_iff.1 h1
        obtain ⟨y, k1, k2, k3⟩ := ih n (by omega) cs' _ h3
        refine ⟨l ++ [y], by simp [q1], fun i z hz => ?_, fun z hz => ?_⟩
        · by_cases hi : i < k
          · rw [List.getElem?_append_left (by omega)] at hz; exact q2 i z hz
          · have hik : i = k := by
              have := (List.getElem?_eq_some_iff.1 hz).1
              simp [q1] at this
              omega
            subst hik
            rw [List.getElem?_append_right (by omega), q1] at hz
            simp at hz
            subst hz
            exact ⟨cs', h2, k1, k2⟩
        · rcases List.mem_append.1 hz with hz | hz
          · exact q3 z hz
          · simp at hz; subst hz; exact k3
    obtain ⟨l, q1, q2, q3⟩ := key len (Nat.le_refl _)
    refine ⟨l, .slice (some a) len cap, rfl, ?_, rfl, q3⟩
    simp only [Rd, List.length_map]
    refine ⟨some a, cap, by rw [q1], by omega, by simp only [maxLen] at hm; omega, ?_, trivial⟩
    cases l with
    | nil => exact .inl rfl
    | cons y0 l0 =>
      right
      have hsp : a.spot = none := by
        obtain ⟨cs', k1, _, _⟩ := q2 0 y0 rfl
        obtain ⟨_, k2, k3⟩ := World.cells?_some k1
        have k4 := k3 0 h0
        have hn : cs'[0]? = some (cs'[0]'(by omega)) := List.getElem?_eq_getElem (by omega)
        rw [hn] at k4
        simp only [Nat.zero_mul, Addr.add, if_true] at k4
        unfold World.cell? at k4
        split at k4
        · split at k4
          · cases k4
          · rename_i hs; simpa using hs
        · cases k4
      obtain ⟨b, off, spot⟩ := a
      simp only at hsp
      subst hsp
      refine ⟨b, off, rfl, RdR.of_get fun i r hr => ?_⟩
      rw [List.getElem?_map, Option.map_eq_some_iff] at hr
      obtain ⟨y, hy, rfl⟩ := hr
      obtain ⟨cs', k1, k2, k3⟩ := q2 i y hy
      obtain ⟨_, k4, k5⟩ := World.cells?_some k1
      refine ⟨hc y, RdC.mk k2 k3 (fun j u hj => ?_) (fun j hj => pu_ok fun _ => trivial)⟩
      have hjl : j < cs'.length := (List.getElem?_eq_some_iff.1 hj).1
      have := k5 j (by omega)
      rw [add_plain', add_plain'] at this
      exact this.trans hj

theorem open_i {fuel : Nat} {t : TypeId} {k : IntKind} {cs : List Value} {x : DataW H × List MemPlace} (ht : P.underlying t = some (.int k)) (h : DataW.trod enc P w base sp hd fuel t cs = some x) : ∃ n : Int, cs = [.int k n] ∧ (Lit.int k n).wf = true :=
  let ⟨n, h1, _, h2⟩ := DataW.trod_int ht h; ⟨n, h1, h2⟩
end
theorem ok_slice {P : Program} {w : World} {r : Reach} {base : Nat} {t e : TypeId} {v : Value} (ht : P.underlying t = some (.slice e)) (h : Value.okWide P w r base t v) : ∃ A n c, v = .slice A n c := by
  unfold Value.okWide at h
  rw [ht] at h
  have h : Cell.okWide P w r base t v := h
  unfold Cell.okWide at h
  rw [ht] at h
  have h : Cell.ok P w r base t v := by
    cases v <;> exact h
  unfold Cell.ok at h
  rw [ht] at h
  cases v with
  | slice A n c => exact ⟨A, n, c, rfl⟩
  | _ => exact h.elim
theorem rd_slice {w : World} {x : AV} {v u : Value} {A : Option Addr} {n c : Nat} (hv : v = .slice A n c) (hc : v.cells.toList = [u]) (h : Rd (Pw w) x u) : Rd (Pw w) x v := by
  subst hv
  have : [Value.slice A n c] = [u] := hc
  injection this with this
  rw [this]
  exact h

end Go.Proofs.Ytbcjcekoonebiaa.Tl

set_option linter.unusedVariables false
namespace Go.Proofs.Ytbcjcekoonebiaa.Tl
open Go Go.RowKit
section
variable {H : Type} {enc : TypeId × Value → H} {w : World} {base : Nat} {sp : Nat → Bool} {hd : Bool}
theorem open_slB (fuel : Nat) (cs : List Value) (x : DataW H × List MemPlace) (h : DataW.trod enc Try.prog w base sp hd fuel 95 cs = some x) : ∃ (l : List Int) (u : Value), cs = [u] ∧ Rd (Pw w) (.sl .ro 1 (l.map fun x => [.int .u8 x])) u ∧ u.oneCell' = true ∧ ∀ n ∈ l, (Lit.int .u8 n).wf = true := by
  refine open_sl Try.underlying95 (fun x => [.int .u8 x]) (fun n => (Lit.int .u8 n).wf = true) 1 (by kernel_rfl) (by decide) (fun _ => rfl) (fun m hm cs x hx => ?_) h
  obtain ⟨n, rfl, wn⟩ := open_i Try.underlying5 hx
  refine ⟨n, by simp [RdL, Rd], ?_, wn⟩
  intro u hu
  simp only [List.mem_cons, List.not_mem_nil, or_false] at hu
  subst hu
  rfl
end
end Go.Proofs.Ytbcjcekoonebiaa.Tl

set_option linter.unusedVariables false
namespace Go.Proofs.Ytbcjcekoonebiaa.Tl
open Go Go.RowKit
theorem ACall.law {P : Program} {f : FuncId} {args : List AV} (h : ACall P f args (.bool true)) (w : World) (vs : Array Value) (hr : RdL (Pu (fun _ _ => True) w) args vs.toList) :
    Calls P f vs w fun e w' => e = .returned (.bool true) ∧ Below w.heap.size w w' := by
  refine (h.2 _ w vs hr).mono fun e w' h => ?_
  obtain ⟨v, rfl, hv, hb⟩ := h
  simp only [Rd] at hv
  subst hv
  exact ⟨rfl, hb⟩

end Go.Proofs.Ytbcjcekoonebiaa.Tl
