/- A machine, as plain functions: what an instruction does, what a program lets out. Programs one behind the other; what is known of machines. What is known of machines. Values of the document, as plain functions: what may be, what is few, what is of a type. Values of the document compared, as plain functions. Types and expressions of the document, as plain functions. The document comes to the same: comparing, making, coming to values. The document's expressions come to what the program's do, of the type that is told. EvalAny, as a plain law. Programs of expressions, as plain functions; where they stand in others. Numbers that go round; which of two stands first. What a machine does with an expression's program is what the expression comes to. A program that is looked at, as plain functions. Whole programs of expressions. A sound program runs as the document has it. Any sound program over any row. A law's arguments, as trees. How the arguments of this seat's laws are opened. How a program, as an argument, is opened. Walks: an expression. Walk: eval.Eval. Walks: expressions are made; what is known. Walks: EvalLazy. EvalLazy, whatever its arguments. VmRun, whatever its arguments. Conditions: none. -/
import Derived.ChangeArms
import Derived.Carry
import Derived.KernelRfl
import Derived.Test.YtbcjcekoonebiaaTlZVmRun5
set_option linter.unusedVariables false
set_option linter.unusedSimpArgs false
namespace Go.Proofs.Ytbcjcekoonebiaa.Tl
open Go Go.RowKit
def stepM (i : GInst) (x : Val) (st out : List Val) : Option (List Val × List Val × Int) :=
  bif i.f0.data.toList == [112, 117, 115, 104] then some (st ++ [i.f1], out, 0)
  else bif i.f0.data.toList == [120] then some (st ++ [x], out, 0)
  else bif i.f0.data.toList == [97, 116] then (if 1 ≤ st.length then ((st.drop (st.length - 1))[0]?).bind fun y => (if 0 ≤ i.f2 then (y.t[i.f2.toNat]?).bind fun z => some (st.take (st.length - 1) ++ [z], out, 0) else none) else none)
  else bif i.f0.data.toList == [116, 117, 112] then (if 0 ≤ i.f2 ∧ i.f2.toNat ≤ st.length then (tupS (st.drop (st.length - i.f2.toNat))).bind fun q => some (st.take (st.length - i.f2.toNat) ++ [q], out, 0) else none)
  else bif i.f0.data.toList == [101, 109, 105, 116] then (if 0 ≤ i.f2 ∧ i.f2.toNat ≤ st.length then some (st.take (st.length - i.f2.toNat), out ++ st.drop (st.length - i.f2.toNat), 0) else none)
  else bif i.f0.data.toList == [110, 101, 103] then (if 1 ≤ st.length then ((st.drop (st.length - 1))[0]?).bind fun y => (one3 i.f0 y).bind fun q => some (st.take (st.length - 1) ++ [q.1], out, 0) else none)
  else bif i.f0.data.toList == [110, 111, 116] then (if 1 ≤ st.length then ((st.drop (st.length - 1))[0]?).bind fun y => (one3 i.f0 y).bind fun q => some (st.take (st.length - 1) ++ [q.1], out, 0) else none)
  else bif i.f0.data.toList == [108, 101, 110] then (if 1 ≤ st.length then ((st.drop (st.length - 1))[0]?).bind fun y => (one3 i.f0 y).bind fun q => some (st.take (st.length - 1) ++ [q.1], out, 0) else none)
  else (if 2 ≤ st.length then ((st.drop (st.length - 2))[0]?).bind fun y => ((st.drop (st.length - 2))[1]?).bind fun z => (both3 i.f0 y z).bind fun q => bif q.2.1 != 0 then some (st.take (st.length - 2), out, q.2.1) else some (st.take (st.length - 2) ++ [q.1], out, 0) else none)
theorem e73a {i : GInst} {x : Val} {st out st' out' : List Val} {e : Int} (h : stepM i x st out = some (st', out', e)) (h1 : st.length + 1 ≤ 1000000) (h2 : out.length + st.length ≤ 1000000) (v : Nat) : ∃ v', Ev (fun n => s_f73 n ⟨x, ⟨v, st⟩, out⟩ i) (⟨x, ⟨v', st'⟩, out'⟩, e) := by
  have h1' : st.length ≤ 1000000 := by omega
  unfold stepM at h
  unfold s_f73
  simp only [show (1 : Int).toNat = 1 from rfl, show (2 : Int).toNat = 2 from rfl]
  cases c0 : i.f0.data.toList == [112, 117, 115, 104] with
  | true =>
    rw [c0] at h
    simp only [cond_true] at h ⊢
    simp only [Option.some.injEq, Prod.mk.injEq] at h
    obtain ⟨rfl, rfl, rfl⟩ := h
    exact ⟨v + 1, Ev.g h1 (Ev.mk _)⟩
  | false =>
    rw [c0] at h
    simp only [cond_false] at h ⊢
    cases c1 : i.f0.data.toList == [120] with
    | true =>
      rw [c1] at h
      simp only [cond_true] at h ⊢
      simp only [Option.some.injEq, Prod.mk.injEq] at h
      obtain ⟨rfl, rfl, rfl⟩ := h
      exact ⟨v + 1, Ev.g h1 (Ev.mk _)⟩
    | false =>
      rw [c1] at h
      simp only [cond_false] at h ⊢
      cases c2 : i.f0.data.toList == [97, 116] with
      | true =>
        rw [c2] at h
        simp only [cond_true] at h ⊢
        obtain ⟨g1, h⟩ := grd h
        obtain ⟨y, hy, h⟩ := bnd1 h
        obtain ⟨g2, h⟩ := grd h
        obtain ⟨z, hz, h⟩ := bnd1 h
        simp only [Option.some.injEq, Prod.mk.injEq] at h
        obtain ⟨rfl, rfl, rfl⟩ := h
        exact ⟨v + 1 + 1, Ev.g ⟨by decide, g1, h1'⟩ (Ev.bindc hy (Ev.g g2 (Ev.bindc hz (Ev.g (by rw [List.length_take]; omega) (Ev.mk _)))))⟩
      | false =>
        rw [c2] at h
        simp only [cond_false] at h ⊢
        cases c3 : i.f0.data.toList == [116, 117, 112] with
        | true =>
          rw [c3] at h
          simp only [cond_true] at h ⊢
          obtain ⟨g1, h⟩ := grd h
          obtain ⟨q, hq, h⟩ := bnd1 h
          simp only [Option.some.injEq, Prod.mk.injEq] at h
          obtain ⟨rfl, rfl, rfl⟩ := h
          exact ⟨v + 1 + 1, Ev.g ⟨g1.1, g1.2, h1'⟩ (Ev.bindc hq (Ev.g (by rw [List.length_take]; omega) (Ev.mk _)))⟩
        | false =>
          rw [c3] at h
          simp only [cond_false] at h ⊢
          cases c4 : i.f0.data.toList == [101, 109, 105, 116] with
          | true =>
            rw [c4] at h
            simp only [cond_true] at h ⊢
            obtain ⟨g1, h⟩ := grd h
            simp only [Option.some.injEq, Prod.mk.injEq] at h
            obtain ⟨rfl, rfl, rfl⟩ := h
            exact ⟨v + 1, Ev.g ⟨g1.1, g1.2, h1'⟩ (Ev.g (by rw [List.length_drop]; omega) (Ev.mk _))⟩
          | false =>
            rw [c4] at h
            simp only [cond_false] at h ⊢
            cases c5 : i.f0.data.toList == [110, 101, 103] with
            | true =>
              rw [c5] at h
              simp only [cond_true] at h ⊢
              obtain ⟨g1, h⟩ := grd h
              obtain ⟨y, hy, h⟩ := bnd1 h
              obtain ⟨q, hq, h⟩ := bnd1 h
              simp only [Option.some.injEq, Prod.mk.injEq] at h
              obtain ⟨rfl, rfl, rfl⟩ := h
              exact ⟨v + 1 + 1, Ev.g ⟨by decide, g1, h1'⟩ (Ev.bindc hy (Ev.bindc hq (Ev.g (by rw [List.length_take]; omega) (Ev.mk _))))⟩
            | false =>
              rw [c5] at h
              simp only [cond_false] at h ⊢
              cases c6 : i.f0.data.toList == [110, 111, 116] with
              | true =>
                rw [c6] at h
                simp only [cond_true] at h ⊢
                obtain ⟨g1, h⟩ := grd h
                obtain ⟨y, hy, h⟩ := bnd1 h
                obtain ⟨q, hq, h⟩ := bnd1 h
                simp only [Option.some.injEq, Prod.mk.injEq] at h
                obtain ⟨rfl, rfl, rfl⟩ := h
                exact ⟨v + 1 + 1, Ev.g ⟨by decide, g1, h1'⟩ (Ev.bindc hy (Ev.bindc hq (Ev.g (by rw [List.length_take]; omega) (Ev.mk _))))⟩
              | false =>
                rw [c6] at h
                simp only [cond_false] at h ⊢
                cases c7 : i.f0.data.toList == [108, 101, 110] with
                | true =>
                  rw [c7] at h
                  simp only [cond_true] at h ⊢
                  obtain ⟨g1, h⟩ := grd h
                  obtain ⟨y, hy, h⟩ := bnd1 h
                  obtain ⟨q, hq, h⟩ := bnd1 h
                  simp only [Option.some.injEq, Prod.mk.injEq] at h
                  obtain ⟨rfl, rfl, rfl⟩ := h
                  exact ⟨v + 1 + 1, Ev.g ⟨by decide, g1, h1'⟩ (Ev.bindc hy (Ev.bindc hq (Ev.g (by rw [List.length_take]; omega) (Ev.mk _))))⟩
                | false =>
                  rw [c7] at h
                  simp only [cond_false] at h ⊢
                  obtain ⟨g1, h⟩ := grd h
                  obtain ⟨y, hy, h⟩ := bnd1 h
                  obtain ⟨z, hz, h⟩ := bnd1 h
                  obtain ⟨q, hq, h⟩ := bnd1 h
                  cases hc : q.2.1 != 0 with
                  | true =>
                    rw [hc] at h
                    simp only [cond_true, Option.some.injEq, Prod.mk.injEq] at h
                    obtain ⟨rfl, rfl, rfl⟩ := h
                    exact ⟨v + 1, Ev.g ⟨by decide, g1, h1'⟩ (Ev.bindc hy (Ev.bindc hz (Ev.bindc hq (Ev.t hc (Ev.mk _)))))⟩
                  | false =>
                    rw [hc] at h
                    simp only [cond_false, Option.some.injEq, Prod.mk.injEq] at h
                    obtain ⟨rfl, rfl, rfl⟩ := h
                    exact ⟨v + 1 + 1, Ev.g ⟨by decide, g1, h1'⟩ (Ev.bindc hy (Ev.bindc hz (Ev.bindc hq (Ev.f hc (Ev.g (by rw [List.length_take]; omega) (Ev.mk _))))))⟩

abbrev RunF (p : List GInst) (x : Val) (j : Nat) (st out : List Val) (v : Nat) : Nat → Option (List Val × Int) := fun n => s_f40_l1 n p (j : Int) v st x.kind x.i x.b x.s x.t out
theorem val_eta (x : Val) : Val.mk x.kind x.i x.b x.s x.t = x := by cases x; rfl
theorem run_step {p : List GInst} {x : Val} {j : Nat} {i : GInst} (hi : p[j]? = some i) (c1 : (i.f0.data.toList == [114, 101, 116]) = false) (c2 : (i.f0.data.toList == [106, 109, 112]) = false) (c3 : (i.f0.data.toList == [106, 102]) = false) {st out st' out' : List Val} (h : stepM i x st out = some (st', out', 0))
    (h1 : st.length + 1 ≤ 1000000) (h2 : out.length + st.length ≤ 1000000) (hj : p.length ≤ 1000000) {R : List Val × Int} (k : ∀ v, Ev (RunF p x (j + 1) st' out' v) R) (v : Nat) : Ev (RunF p x j st out v) R := by
  have hlt : j < p.length := (List.getElem?_eq_some_iff.1 hi).1
  obtain ⟨v', e⟩ := e73a (x := x) h h1 h2 v
  refine Ev.succ ?_
  simp only [RunF, s_f40_l1]
  refine Ev.t (decide_eq_true (by omega)) (Ev.g (Int.natCast_nonneg j) (Ev.bindc (by rw [Int.toNat_natCast]; exact hi) (Ev.f c1 (Ev.f c2 (Ev.f c3 (Ev.bind (by rw [val_eta]; exact e) (Ev.f rfl ?_)))))))
  rw [wrap64 (by omega) (by omega)]
  exact k v'
theorem run_ret {p : List GInst} {x : Val} {j : Nat} {i : GInst} (hi : p[j]? = some i) (c1 : (i.f0.data.toList == [114, 101, 116]) = true) (st out : List Val) (v : Nat) : Ev (RunF p x j st out v) (out, 0) := by
  have hlt : j < p.length := (List.getElem?_eq_some_iff.1 hi).1
  refine Ev.succ ?_
  simp only [RunF, s_f40_l1]
  exact Ev.t (decide_eq_true (by omega)) (Ev.g (Int.natCast_nonneg j) (Ev.bindc (by rw [Int.toNat_natCast]; exact hi) (Ev.t c1 (Ev.mk _))))
theorem e40 {p : List GInst} {x : Val} {R : List Val × Int} (h : Ev (RunF p x 0 [] [] 0) R) : Ev (fun n => s_f40 n p x) R := by
  unfold s_f40
  exact h
theorem run_err {p : List GInst} {x : Val} {j : Nat} {i : GInst} (hi : p[j]? = some i) (c1 : (i.f0.data.toList == [114, 101, 116]) = false) (c2 : (i.f0.data.toList == [106, 109, 112]) = false) (c3 : (i.f0.data.toList == [106, 102]) = false) {st out st' out' : List Val} {e : Int} (h : stepM i x st out = some (st', out', e)) (he : e ≠ 0)
    (h1 : st.length + 1 ≤ 1000000) (h2 : out.length + st.length ≤ 1000000) (v : Nat) : Ev (RunF p x j st out v) ([], e) := by
  have hlt : j < p.length := (List.getElem?_eq_some_iff.1 hi).1
  obtain ⟨v', ev⟩ := e73a (x := x) h h1 h2 v
  refine Ev.succ ?_
  simp only [RunF, s_f40_l1]
  exact Ev.t (decide_eq_true (by omega)) (Ev.g (Int.natCast_nonneg j) (Ev.bindc (by rw [Int.toNat_natCast]; exact hi) (Ev.f c1 (Ev.f c2 (Ev.f c3 (Ev.bind (by rw [val_eta]; exact ev) (Ev.t (by simpa using he) (Ev.mk _))))))))
theorem run_jmp {p : List GInst} {x : Val} {j k : Nat} {i : GInst} (hi : p[j]? = some i) (c : (i.f0.data.toList == [106, 109, 112]) = true) (hk : i.f2 = (k : Int)) (hj : k ≤ 1000000) {st out : List Val} {R : List Val × Int} (h : ∀ v, Ev (RunF p x k st out v) R) (v : Nat) : Ev (RunF p x j st out v) R := by
  have hlt : j < p.length := (List.getElem?_eq_some_iff.1 hi).1
  have c' : i.f0.data.toList = [106, 109, 112] := by simpa using c
  refine Ev.succ ?_
  simp only [RunF, s_f40_l1]
  refine Ev.t (decide_eq_true (by omega)) (Ev.g (Int.natCast_nonneg j) (Ev.bindc (by rw [Int.toNat_natCast]; exact hi) (Ev.f (by rw [c']; rfl) (Ev.t c ?_))))
  rw [hk, wrap64 (a := (k : Int) - 1) (by omega) (by omega), wrap64 (by omega) (by omega), show (k : Int) - 1 + 1 = k by omega]
  exact h v
theorem run_jf {p : List GInst} {x : Val} {j k : Nat} {i : GInst} (hi : p[j]? = some i) (c : (i.f0.data.toList == [106, 102]) = true) (hk : i.f2 = (k : Int)) (hj : k ≤ 1000000) (hp : p.length ≤ 1000000) {st out : List Val} {y : Val} (hst : st.length + 1 ≤ 1000000) {R : List Val × Int}
    (h : ∀ v, Ev (RunF p x (bif y.b then j + 1 else k) st out v) R) (v : Nat) : Ev (RunF p x j (st ++ [y]) out v) R := by
  have hlt : j < p.length := (List.getElem?_eq_some_iff.1 hi).1
  have c' : i.f0.data.toList = [106, 102] := by simpa using c
  refine Ev.succ ?_
  simp only [RunF, s_f40_l1]
  have e1 : (st ++ [y]).length - (1 : Int).toNat = st.length := by simp
  have e2 : ((st ++ [y]).drop st.length)[0]? = some y := by simp
  have e3 : (st ++ [y]).take st.length = st := by simp
  rw [e1, e3]
  refine Ev.t (decide_eq_true (by omega)) (Ev.g (Int.natCast_nonneg j) (Ev.bindc (by rw [Int.toNat_natCast]; exact hi) (Ev.f (by rw [c']; rfl) (Ev.f (by rw [c']; rfl) (Ev.t c (Ev.g ⟨by decide, by simp, by simp; omega⟩ (Ev.bindc e2 ?_)))))))
  have h' := h (v + 1)
  cases hb : y.b with
  | true =>
    rw [hb] at h'
    refine Ev.f rfl ?_
    rw [wrap64 (by omega) (by omega)]
    exact h'
  | false =>
    rw [hb] at h'
    refine Ev.t rfl ?_
    rw [hk, wrap64 (a := (k : Int) - 1) (by omega) (by omega), wrap64 (by omega) (by omega), show (k : Int) - 1 + 1 = k by omega]
    exact h'
end Go.Proofs.Ytbcjcekoonebiaa.Tl

set_option linter.unusedVariables false
set_option linter.unusedSimpArgs false
namespace Go.Proofs.Ytbcjcekoonebiaa.Tl
open Go Go.RowKit
def ChE (ps : List (List GInst)) (k : Nat) (x : Val) (o : List Val) (m : List GMiss) : Prop :=
  ∀ (out : List Val) (bad : List GMiss) (v : Nat), out.length + o.length ≤ 1000000 → bad.length + m.length ≤ 1000000 → ∃ v', Ev (fun n => s_f77 n (k : Int) x ps ⟨v, out⟩ bad) (ps, ⟨v', out ++ o⟩, bad ++ m)
theorem ch_end (ps : List (List GInst)) (x : Val) : ChE ps ps.length x [x] [] := fun out bad v h1 h2 => by
  simp only [List.length_cons, List.length_nil] at h1
  refine ⟨v + 1, Ev.succ ?_⟩
  simp only [s_f77]
  exact Ev.t (by simp) (Ev.g (by omega) (Ev.bindc (a := Val.mk 0 0 false ⟨#[]⟩ []) (by simp) ((Ev.mk _).congr (by simp))))
def ChL (ps : List (List GInst)) (k : Nat) : List Val → List Val → List GMiss → Prop
  | [], o, m => o = [] ∧ m = []
  | y :: l, o, m => ∃ o1 m1 o2 m2, o = o1 ++ o2 ∧ m = m1 ++ m2 ∧ ChE ps k y o1 m1 ∧ ChL ps k l o2 m2
theorem ch_l {ps : List (List GInst)} {k : Nat} (hk : k ≤ 1000000) {l : List Val} {e : Int} : ∀ (r : List Val) (i : Nat) (o : List Val) (m : List GMiss), l.drop i = r → ChL ps (k + 1) r o m → ∀ (out : List Val) (bad : List GMiss) (v : Nat), out.length + o.length ≤ 1000000 → bad.length + m.length ≤ 1000000 →
    ∃ v', Ev (fun n => s_f77_l1 n (k : Int) (l, e) i ps v out bad) (ps, ⟨v', out ++ o⟩, bad ++ m)
  | [], i, o, m, h, hc, out, bad, v, h1, h2 => by
    obtain ⟨rfl, rfl⟩ := hc
    refine ⟨v, Ev.succ ?_⟩
    simp only [s_f77_l1]
    exact Ev.f (cj_fm (List.drop_eq_nil_iff.1 h)) ((Ev.mk _).congr (by simp))
  | y :: r, i, o, m, h, hc, out, bad, v, h1, h2 => by
    obtain ⟨o1, m1, o2, m2, rfl, rfl, hy, hr⟩ := hc
    simp only [List.length_append] at h1 h2
    have hlt : i < l.length := by
      rcases Nat.lt_or_ge i l.length with h' | h'
      · exact h'
      · rw [List.drop_eq_nil_of_le h'] at h; cases h
    rw [List.drop_eq_getElem_cons hlt] at h
    injection h with h3 h4
    obtain ⟨v1, e1⟩ := hy out bad v (by omega) (by omega)
    obtain ⟨v2, e2⟩ := ch_l hk r (i + 1) o2 m2 h4 hr (out ++ o1) (bad ++ m1) v1 (by simp; omega) (by simp; omega)
    refine ⟨v2, Ev.succ ?_⟩
    simp only [s_f77_l1]
    refine Ev.t (decide_eq_true (by omega)) (Ev.bindc (a := y) (by rw [List.getElem?_eq_getElem hlt, h3]) (Ev.bind (a := (ps, ⟨v1, out ++ o1⟩, bad ++ m1)) ?_ (e2.congr (by simp))))
    rw [wrap64 (by omega) (by omega)]
    exact e1
where
  cj_fm {j m : Nat} (h : m ≤ j) : decide ((j : Int) < (m : Int)) = false := decide_eq_false (by omega)
theorem ch_run {ps : List (List GInst)} {k : Nat} {p : List GInst} (hk : ps[k]? = some p) (hps : ps.length ≤ 1000000) {x : Val} {l : List Val} {e : Int} (hr : Ev (fun n => s_f40 n p x) (l, e)) {o : List Val} {m : List GMiss} (hl : ChL ps (k + 1) l o m) :
    ChE ps k x o (bif e != 0 then ⟨(k : Int), x⟩ :: m else m) := fun out bad v h1 h2 => by
  have hlt : k < ps.length := (List.getElem?_eq_some_iff.1 hk).1
  cases he : e != 0 with
  | true =>
    rw [he] at h2
    simp only [cond_true, List.length_cons] at h2
    obtain ⟨v', e1⟩ := ch_l (l := l) (e := e) (by omega : k ≤ 1000000) l 0 o m rfl hl out (bad ++ [⟨(k : Int), x⟩]) v h1 (by simp; omega)
    refine ⟨v', Ev.succ ?_⟩
    simp only [s_f77]
    exact Ev.f (beq_false_of_ne (by omega)) (Ev.g (Int.natCast_nonneg k) (Ev.bindc (by rw [Int.toNat_natCast]; exact hk) (Ev.bind hr (Ev.t he (Ev.g (by omega) (e1.congr (by simp)))))))
  | false =>
    rw [he] at h2
    simp only [cond_false] at h2
    obtain ⟨v', e1⟩ := ch_l (l := l) (e := e) (by omega : k ≤ 1000000) l 0 o m rfl hl out bad v h1 h2
    refine ⟨v', Ev.succ ?_⟩
    simp only [s_f77]
    exact Ev.f (beq_false_of_ne (by omega)) (Ev.g (Int.natCast_nonneg k) (Ev.bindc (by rw [Int.toNat_natCast]; exact hk) (Ev.bind hr (Ev.f he e1))))
theorem e44 {ps : List (List GInst)} {x : Val} {o : List Val} {m : List GMiss} (h : ChE ps 0 x o m) (h1 : o.length ≤ 1000000) (h2 : m.length ≤ 1000000) : Ev (fun n => s_f44 n ps x) (o, m) := by
  obtain ⟨v, e⟩ := h [] [] 0 (by simpa using h1) (by simpa using h2)
  unfold s_f44
  exact Ev.bind e (Ev.mk _)
end Go.Proofs.Ytbcjcekoonebiaa.Tl

set_option linter.unusedVariables false
set_option linter.unusedSimpArgs false
namespace Go.Proofs.Ytbcjcekoonebiaa.Tl
open Go Go.RowKit
abbrev v0' : Val := .mk 0 0 false ⟨#[]⟩ []
abbrev iV (i : Int) : Val := .mk 1 i false ⟨#[]⟩ []
abbrev iX : GInst := ⟨⟨#[120]⟩, v0', 0⟩
abbrev iPush (v : Val) : GInst := ⟨⟨#[112, 117, 115, 104]⟩, v, 0⟩
abbrev iDiv : GInst := ⟨⟨#[100, 105, 118]⟩, v0', 0⟩
abbrev iEmit (n : Int) : GInst := ⟨⟨#[101, 109, 105, 116]⟩, v0', n⟩
abbrev iRet : GInst := ⟨⟨#[114, 101, 116]⟩, v0', 0⟩
theorem kn1 : Ev (fun n => s_f40 n [iX, iX, iEmit 2, iRet] (iV 3)) ([iV 3, iV 3], 0) :=
  e40 (run_step rfl rfl rfl rfl (st' := [iV 3]) (out' := []) rfl (by decide) (by decide) (by decide) (run_step rfl rfl rfl rfl (st' := [iV 3, iV 3]) (out' := []) rfl (by decide) (by decide) (by decide) (run_step rfl rfl rfl rfl (st' := []) (out' := [iV 3, iV 3]) rfl (by decide) (by decide) (by decide) (run_ret rfl rfl _ _))) 0)
abbrev kq : List GInst := [iPush (iV 6), iX, iDiv, iEmit 1, iRet]
theorem kn2 : Ev (fun n => s_f40 n kq (iV 3)) ([iV 2], 0) :=
  e40 (run_step rfl rfl rfl rfl (st' := [iV 6]) (out' := []) rfl (by decide) (by decide) (by decide) (run_step rfl rfl rfl rfl (st' := [iV 6, iV 3]) (out' := []) rfl (by decide) (by decide) (by decide) (run_step rfl rfl rfl rfl (st' := [iV 2]) (out' := []) rfl (by decide) (by decide) (by decide) (run_step rfl rfl rfl rfl (st' := []) (out' := [iV 2]) rfl (by decide) (by decide) (by decide) (run_ret rfl rfl _ _)))) 0)
theorem kn3 : Ev (fun n => s_f40 n kq (iV 0)) ([], 8) :=
  e40 (run_step rfl rfl rfl rfl (st' := [iV 6]) (out' := []) rfl (by decide) (by decide) (by decide) (run_step rfl rfl rfl rfl (st' := [iV 6, iV 0]) (out' := []) rfl (by decide) (by decide) (by decide) (run_err rfl rfl rfl rfl (st' := []) (out' := []) rfl (by decide) (by decide) (by decide))) 0)
theorem kn4 : Ev (fun n => s_f44 n [[iX, iX, iEmit 2, iRet], kq] (iV 3)) ([iV 2, iV 2], []) := by
  have a : ChE [[iX, iX, iEmit 2, iRet], kq] 1 (iV 3) [iV 2] [] := ch_run rfl (by decide) kn2 ⟨[iV 2], [], [], [], rfl, rfl, ch_end _ _, rfl, rfl⟩
  exact e44 (ch_run rfl (by decide) kn1 ⟨[iV 2], [], [iV 2], [], rfl, rfl, a, [iV 2], [], [], [], rfl, rfl, a, rfl, rfl⟩) (by decide) (by decide)
theorem kn5 : Ev (fun n => s_f44 n [kq] (iV 0)) ([], [⟨0, iV 0⟩]) :=
  e44 (ch_run (k := 0) rfl (by decide) kn3 (o := []) (m := []) ⟨rfl, rfl⟩) (by decide) (by decide)
theorem e36 : Ev (fun n => s_f36 n) true := by
  unfold s_f36
  exact Ev.bind kn1 (Ev.bind kn4 (Ev.bind kn5 (Ev.bind kn3 (Ev.t rfl (Ev.t rfl (Ev.t rfl (Ev.bindc rfl (Ev.t rfl (Ev.t rfl (Ev.t rfl (Ev.bindc rfl (Ev.t rfl (Ev.bindc rfl (Ev.t rfl (Ev.mk _)))))))))))))))
end Go.Proofs.Ytbcjcekoonebiaa.Tl

set_option linter.unusedVariables false
set_option linter.unusedSimpArgs false
namespace Go.Proofs.Ytbcjcekoonebiaa.Tl
open Go Go.RowKit
theorem drop_c {α : Type} {t r : List α} {j : Nat} {x : α} (h : t.drop j = x :: r) : j < t.length ∧ t[j]? = some x ∧ t.drop (j + 1) = r := by
  have hlt : j < t.length := by
    rcases Nat.lt_or_ge j t.length with h1 | h1
    · exact h1
    · rw [List.drop_eq_nil_of_le h1] at h; cases h
  rw [List.drop_eq_getElem_cons hlt] at h
  injection h with h1 h2
  exact ⟨hlt, by rw [List.getElem?_eq_getElem hlt, h1], h2⟩
theorem drop_n {α : Type} {t : List α} {j : Nat} (h : t.drop j = []) : t.length ≤ j := List.drop_eq_nil_iff.1 h
theorem cj_t {j m : Nat} (h : j < m) : decide ((j : Int) < (m : Int)) = true := decide_eq_true (by omega)
theorem cj_f {j m : Nat} (h : m ≤ j) : decide ((j : Int) < (m : Int)) = false := decide_eq_false (by omega)
theorem w1 {d : Int} (h0 : -1000000 ≤ d) (h1 : d ≤ 1000000) : IntKind.i64.wrap (d + 1) = d + 1 := wrap64 (by omega) (by omega)
theorem w1m {d : Int} (h0 : -1000000 ≤ d) (h1 : d ≤ 1000000) : IntKind.i64.wrap (d - 1) = d - 1 := wrap64 (by omega) (by omega)

/-! ### what is wrong with a value -/
mutual
def ckV : Val → Int → Int
  | .mk k i b s t, d => bif (decide (k < 1)) || (decide (k > 4)) then 5 else bif ((((k != 1) && (i != 0)) || ((k != 2) && b)) || ((k != 3) && (s.data.toList != []))) || ((k != 4) && (decide ((t.length : Int) > 0))) then 2
    else bif decide ((s.size : Int) > 255) then 4 else bif k != 4 then 0 else bif (t.length : Int) == 0 then 1 else bif decide ((t.length : Int) > 8) then 10 else bif decide (d > 4) then 9 else ckVs t (d + 1)
def ckVs : List Val → Int → Int
  | [], _ => 0
  | x :: r, d => bif ckV x d != 0 then ckV x d else ckVs r d
end
mutual
theorem e68 : ∀ (v : Val) (d : Int), 0 ≤ d → d ≤ 5 → Ev (fun n => s_f68 n v d) (ckV v d)
  | .mk k i b s t, d, h0, h1 => by
    refine Ev.succ ?_
    simp only [s_f68, ckV, Val.kind, Val.i, Val.b, Val.s, Val.t]
    refine Ev.if (fun _ => Ev.mk _) (fun _ => Ev.if (fun _ => Ev.mk _) (fun _ => Ev.if (fun _ => Ev.mk _) (fun _ => Ev.if (fun _ => Ev.mk _) (fun _ => Ev.if (fun _ => Ev.mk _) (fun _ => Ev.if (fun _ => Ev.mk _) (fun _ => Ev.if (fun _ => Ev.mk _) (fun hd => ?_)))))))
    exact e68s t k i b s t 0 d rfl h0 (by simpa using hd)
theorem e68s : ∀ (r : List Val) (k i : Int) (b : Bool) (s : ByteArray) (t : List Val) (j : Nat) (d : Int), t.drop j = r → 0 ≤ d → d ≤ 4 → Ev (fun n => s_f68_l1 n (.mk k i b s t) d j) (ckVs r (d + 1))
  | [], k, i, b, s, t, j, d, h, h0, h1 => by
    refine Ev.succ ?_
    simp only [s_f68_l1, ckVs, Val.t]
    exact Ev.f (cj_f (drop_n h)) (Ev.mk _)
  | x :: r, k, i, b, s, t, j, d, h, h0, h1 => by
    obtain ⟨hj, hx, hr⟩ := drop_c h
    refine Ev.succ ?_
    simp only [s_f68_l1, ckVs, Val.t]
    refine Ev.t (cj_t hj) (Ev.bindc hx (Ev.bind (a := ckV x (d + 1)) ?_ (Ev.if (fun _ => Ev.mk _) (fun _ => e68s r k i b s t (j + 1) d hr h0 h1))))
    rw [w1 (by omega) (by omega)]
    exact e68 x (d + 1) (by omega) (by omega)
end
theorem e34 (v : Val) : Ev (fun n => s_f34 n v) (ckV v 0) := by
  unfold s_f34
  exact Ev.ret (g := id) (e68 v 0 (by omega) (by omega))

/-! ### what is few -/
mutual
def bgV : Val → Int → Int → Int
  | .mk k i b s t, d, l => bif (((decide (l ≤ 0)) || (decide (d ≤ 0))) || (decide ((t.length : Int) > 20))) || (decide ((s.size : Int) > 300)) then 0 else bgVs t (d - 1) (l - 1)
def bgVs : List Val → Int → Int → Int
  | [], _, l => l
  | x :: r, d, l => bif decide (l > 0) then bgVs r d (bgV x d l) else l
end
mutual
theorem bgV_le : ∀ (v : Val) (d l : Int), 0 ≤ l → 0 ≤ bgV v d l ∧ bgV v d l ≤ l
  | .mk k i b s t, d, l, h => by
    simp only [bgV]
    cases hc : (((decide (l ≤ 0)) || (decide (d ≤ 0))) || (decide ((t.length : Int) > 20))) || (decide ((s.size : Int) > 300)) with
    | true => exact ⟨by simp, by simpa using h⟩
    | false =>
      simp only [cond_false]
      simp only [Bool.or_eq_false_iff, decide_eq_false_iff_not] at hc
      have := bgVs_le t (d - 1) (l - 1) (by omega)
      omega
theorem bgVs_le : ∀ (r : List Val) (d l : Int), 0 ≤ l → 0 ≤ bgVs r d l ∧ bgVs r d l ≤ l
  | [], d, l, h => by simp only [bgVs]; omega
  | x :: r, d, l, h => by
    simp only [bgVs]
    cases hc : decide (l > 0) with
    | true =>
      simp only [cond_true]
      have h1 := bgV_le x d l h
      have h2 := bgVs_le r d (bgV x d l) h1.1
      omega
    | false => simp only [cond_false]; omega
end
mutual
theorem e90 : ∀ (v : Val) (d l : Int), -5 ≤ d → d ≤ 30 → -5 ≤ l → l ≤ 1000 → Ev (fun n => s_f90 n v d l) (bgV v d l)
  | .mk k i b s t, d, l, h0, h1, h2, h3 => by
    refine Ev.succ ?_
    simp only [s_f90, bgV, Val.kind, Val.i, Val.b, Val.s, Val.t]
    refine Ev.if (fun _ => Ev.mk _) (fun hc => ?_)
    have c1 := of_decide_eq_false (or_f (or_f (or_f hc).1).1).1
    have c2 := of_decide_eq_false (or_f (or_f (or_f hc).1).1).2
    have c3 := of_decide_eq_false (or_f (or_f hc).1).2
    have c3 : ¬ ((t.length : Int) > 20) := c3
    rw [w1m (by omega) (by omega)]
    exact e90s t k i b s t 0 d (l - 1) rfl (by omega) h1 (by omega) (by omega) (by omega)
theorem e90s : ∀ (r : List Val) (k i : Int) (b : Bool) (s : ByteArray) (t : List Val) (j : Nat) (d l : Int), t.drop j = r → 0 < d → d ≤ 30 → 0 ≤ l → l ≤ 1000 → t.length ≤ 20 → Ev (fun n => s_f90_l1 n (.mk k i b s t) d l j) (bgVs r (d - 1) l)
  | [], k, i, b, s, t, j, d, l, h, h0, h1, h2, h3, h4 => by
    refine Ev.succ ?_
    simp only [s_f90_l1, bgVs, Val.t]
    exact Ev.f (and_f (cj_f (drop_n h))) (Ev.mk _)
  | x :: r, k, i, b, s, t, j, d, l, h, h0, h1, h2, h3, h4 => by
    obtain ⟨hj, hx, hr⟩ := drop_c h
    refine Ev.succ ?_
    simp only [s_f90_l1, bgVs, Val.t]
    refine Ev.ifa (cj_t hj) (fun hl => ?_) (fun hl => Ev.mk _)
    have hb := bgV_le x (d - 1) l h2
    refine Ev.g (Int.natCast_nonneg j) (Ev.bindc (by rw [Int.toNat_natCast]; exact hx) (Ev.bind (a := bgV x (d - 1) l) ?_ ?_))
    · rw [w1m (by omega) (by omega)]
      exact e90 x (d - 1) l (by omega) (by omega) (by omega) (by omega)
    · rw [w1 (by omega) (by omega)]
      exact e90s r k i b s t (j + 1) d _ hr h0 h1 hb.1 (by omega) h4
end
theorem e55 (v : Val) : Ev (fun n => s_f55 n v) (decide (bgV v 12 300 > 0)) := by
  unfold s_f55
  exact Ev.ret (e90 v 12 300 (by omega) (by omega) (by omega) (by omega))

mutual
def BdV : Val → Prop
  | .mk k i b s t => t.length ≤ 20 ∧ BdVs t
def BdVs : List Val → Prop
  | [] => True
  | x :: r => BdV x ∧ BdVs r
end
mutual
theorem bg_bd : ∀ (v : Val) (d l : Int), 0 < bgV v d l → BdV v
  | .mk k i b s t, d, l, h => by
    simp only [bgV] at h
    cases hc : (((decide (l ≤ 0)) || (decide (d ≤ 0))) || (decide ((t.length : Int) > 20))) || (decide ((s.size : Int) > 300)) with
    | true => rw [hc] at h; simp at h
    | false =>
      rw [hc] at h
      simp only [cond_false] at h
      simp only [Bool.or_eq_false_iff, decide_eq_false_iff_not] at hc
      exact ⟨by omega, bg_bds t (d - 1) (l - 1) h⟩
theorem bg_bds : ∀ (r : List Val) (d l : Int), 0 < bgVs r d l → BdVs r
  | [], d, l, h => trivial
  | x :: r, d, l, h => by
    simp only [bgVs] at h
    cases hc : decide (l > 0) with
    | true =>
      rw [hc] at h
      simp only [cond_true] at h
      have h2 := bg_bds r d _ h
      refine ⟨bg_bd x d l ?_, h2⟩
      rcases Int.lt_or_le 0 (bgV x d l) with h3 | h3
      · exact h3
      · have h4 := bgV_le x d l (by simp at hc; omega)
        have h5 := bgVs_le r d (bgV x d l) h4.1
        omega
    | false =>
      rw [hc] at h
      simp only [cond_false] at h
      simp at hc
      omega
end

/-! ### as the document's: the same tree -/
mutual
theorem e22 : ∀ v : Val, BdV v → Ev (fun n => s_f22 n v) v
  | .mk k i b s t, h => by
    refine Ev.succ ?_
    simp only [s_f22]
    exact e22s t k i b s t 0 [] rfl rfl h.1 h.2
theorem e22s : ∀ (r : List Val) (k i : Int) (b : Bool) (s : ByteArray) (t : List Val) (j : Nat) (acc : List Val), acc ++ r = t → acc.length = j → t.length ≤ 20 → BdVs r → Ev (fun n => s_f22_l1 n (.mk k i b s t) j acc) (.mk k i b s t)
  | [], k, i, b, s, t, j, acc, h, hj, hl, hb => by
    refine Ev.succ ?_
    subst hj
    simp only [List.append_nil] at h
    subst h
    simp only [s_f22_l1, Val.kind, Val.i, Val.b, Val.s, Val.t]
    exact Ev.f (cj_f (Nat.le_refl _)) (Ev.mk _)
  | x :: r, k, i, b, s, t, j, acc, h, hj, hl, hb => by
    refine Ev.succ ?_
    have hx : t[j]? = some x := by subst h hj; simp
    have hlt : j < t.length := (List.getElem?_eq_some_iff.1 hx).1
    simp only [s_f22_l1, Val.t]
    exact Ev.t (cj_t hlt) (Ev.bindc hx (Ev.bind (e22 x hb.1) (Ev.g (by omega) (e22s r k i b s t (j + 1) (acc ++ [x]) (by simp [h]) (by simp [hj]) hl hb.2))))
end

theorem e18 (v : Val) : (BdV v ∧ ckV v 0 = 0 ∧ Ev (fun n => s_f18 n v) true) ∨ Ev (fun n => s_f18 n v) false := by
  unfold s_f18
  cases hb : decide (bgV v 12 300 > 0) with
  | false => right; exact Ev.bind (hb ▸ e55 v) (Ev.f rfl (Ev.mk _))
  | true =>
    have hbd := bg_bd v 12 300 (of_decide_eq_true hb)
    have h : Ev (fun n => (s_f55 n v).bind fun q1 => bif q1 then (s_f22 n v).bind fun q4 => (s_f34 n q4).bind fun q6 => some (q6 == 0) else some false) (ckV v 0 == 0) :=
      Ev.bind (hb ▸ e55 v) (Ev.t rfl (Ev.bind (e22 v hbd) (Ev.ret (e34 v))))
    by_cases hc : ckV v 0 = 0
    · left; rw [hc] at h; exact ⟨hbd, hc, h⟩
    · right; rw [show (ckV v 0 == 0) = false from beq_false_of_ne hc] at h; exact h
end Go.Proofs.Ytbcjcekoonebiaa.Tl

set_option linter.unusedVariables false
set_option linter.unusedSimpArgs false
namespace Go.Proofs.Ytbcjcekoonebiaa.Tl
open Go Go.RowKit
/-! ### which value stands first -/
theorem e100 (b : Bool) : Ev (fun n => s_f100 n b) (bif b then -1 else 1) := by
  unfold s_f100
  exact Ev.if (fun _ => Ev.mk _) (fun _ => Ev.mk _)
theorem cmpI_ne {x y : Int} (h : x ≠ y) : cmpI x y = bif decide (x < y) then -1 else 1 := by
  unfold cmpI
  by_cases h1 : x < y
  · simp [h1]
  · have h2 : x > y := by omega
    simp [h1, h2]
theorem cmpI_ne0 {x y : Int} (h : x ≠ y) : cmpI x y ≠ 0 := by
  rw [cmpI_ne h]; cases decide (x < y) <;> simp
theorem cmpI_eq (x : Int) : cmpI x x = 0 := by simp [cmpI]
theorem cmpL_rf : ∀ l : List UInt8, Lib.compareBytes l l = 0
  | [] => rfl
  | x :: l => by
    have hx : ¬ x < x := fun h => by simp at h
    simp [Lib.compareBytes, cmpL_rf l, hx]
theorem cmpL_ne : ∀ a b : List UInt8, a ≠ b → Lib.compareBytes a b = bif Op.bytesLess a b then -1 else 1
  | [], [], h => absurd rfl h
  | [], _ :: _, _ => rfl
  | _ :: _, [], _ => rfl
  | x :: a, y :: b, hne => by
    rcases Nat.lt_trichotomy x.toNat y.toNat with h | h | h
    · have h1 : x < y := h
      simp [Lib.compareBytes, Op.bytesLess, h1]
    · have h1 : x = y := UInt8.toNat_inj.1 h
      subst h1
      have hx : ¬ x < x := fun h => by simp at h
      have ih := cmpL_ne a b (fun q => hne (by rw [q]))
      simp [Lib.compareBytes, Op.bytesLess, hx]
      simpa using ih
    · have h1 : y < x := h
      have h2 : ¬ x < y := fun q => by have q : x.toNat < y.toNat := q; omega
      have h3 : ¬ x = y := fun q => by subst q; omega
      have h4 : (x == y) = false := beq_false_of_ne h3
      simp [Lib.compareBytes, Op.bytesLess, h1, h2, h3, h4]
theorem nil_of {α : Type} {t : List α} (h : decide ((t.length : Int) > 0) = false) : t = [] := List.eq_nil_of_length_eq_zero (by have := of_decide_eq_false h; omega)
theorem bne_t {α : Type} [BEq α] [LawfulBEq α] {a b : α} (h : (a != b) = true) : a ≠ b := by simpa using h
theorem bne_f {α : Type} [BEq α] [LawfulBEq α] {a b : α} (h : (a != b) = false) : a = b := by simpa using h
theorem ev100 {p : Prop} [Decidable p] {c : Int} (h : c = bif decide p then -1 else 1) : Ev (fun n => (s_f100 n (decide p)).bind fun q => some q) c := h ▸ Ev.ret (g := id) (e100 _)
theorem cmpV_mk (k i : Int) (b : Bool) (s : ByteArray) (t : List Val) (k' i' : Int) (b' : Bool) (s' : ByteArray) (t' : List Val) : cmpV (.mk k i b s t) (.mk k' i' b' s' t') =
    bif k != k' then cmpI k k' else bif i != i' then cmpI i i' else bif b != b' then cmpI (bI b) (bI b') else bif s.data.toList != s'.data.toList then cmpB s s' else cmpVs t t' := by
  simp only [cmpV, Val.kind, Val.i, Val.b, Val.s, Val.t]
  by_cases h1 : k = k'
  · subst h1
    by_cases h2 : i = i'
    · subst h2
      by_cases h3 : b = b'
      · subst h3
        by_cases h4 : s.data.toList = s'.data.toList
        · have hc : cmpB s s' = 0 := by show Lib.compareBytes _ _ = 0; rw [h4]; exact cmpL_rf _
          simp only [cmpI_eq, orI, if_true, hc, h4, bne_self_eq_false, cond_false]
        · have hc : cmpB s s' = bif Op.bytesLess s.data.toList s'.data.toList then -1 else 1 := cmpL_ne _ _ h4
          have h0 : cmpB s s' ≠ 0 := by rw [hc]; cases Op.bytesLess s.data.toList s'.data.toList <;> simp
          have h5 : (s.data.toList != s'.data.toList) = true := by simpa using h4
          simp only [cmpI_eq, orI, if_true, h0, h5, bne_self_eq_false, cond_false, if_false, cond_true]
      · have hb : bI b ≠ bI b' := fun q => h3 (by revert q; cases b <;> cases b' <;> simp [bI])
        have h0 := cmpI_ne0 hb
        have h5 : (b != b') = true := by simpa using h3
        simp only [cmpI_eq, orI, if_true, h0, h5, bne_self_eq_false, cond_false, if_false, cond_true]
    · have h0 := cmpI_ne0 h2
      have h5 : (i != i') = true := by simpa using h2
      simp only [cmpI_eq, orI, if_true, h0, h5, bne_self_eq_false, cond_false, if_false, cond_true]
  · have h0 := cmpI_ne0 h1
    have h5 : (k != k') = true := by simpa using h1
    simp only [orI, h0, h5, if_false, cond_true]
mutual
theorem e64 : ∀ a b : Val, BdV a → Ev (fun n => s_f64 n a b) (cmpV a b)
  | .mk k i b s t, .mk k' i' b' s' t', hbd => by
    refine Ev.succ ?_
    rw [cmpV_mk]
    simp only [s_f64, Val.kind, Val.i, Val.b, Val.s, Val.t]
    refine Ev.if (fun h => ev100 (cmpI_ne (bne_t h))) (fun h1 => Ev.if (fun h => ev100 (cmpI_ne (bne_t h))) (fun h2 => Ev.if (fun h => ?_) (fun h3 => Ev.if (fun h => ?_) (fun h4 => ?_))))
    · have hv : cmpI (bI b) (bI b') = bif b' then -1 else 1 := by have h := bne_t h; revert h; cases b <;> cases b' <;> simp [bI, cmpI]
      rw [hv]
      exact Ev.ret (g := id) (e100 _)
    · have hc : cmpB s s' = bif Op.bytesLess s.data.toList s'.data.toList then -1 else 1 := cmpL_ne _ _ (bne_t h)
      rw [hc]
      exact Ev.ret (g := id) (e100 _)
    · exact e64s t k i b s t (.mk k' i' b' s' t') 0 rfl (Nat.zero_le _) (Nat.zero_le _) hbd.1 hbd.2
theorem e64s : ∀ (r : List Val) (k i : Int) (b : Bool) (s : ByteArray) (t : List Val) (w : Val) (j : Nat), t.drop j = r → j ≤ t.length → j ≤ w.t.length → t.length ≤ 20 → BdVs r → Ev (fun n => s_f64_l1 n (.mk k i b s t) w j) (cmpVs r (w.t.drop j))
  | [], k, i, b, s, t, w, j, h, h1, h2, hl, hbd => by
    refine Ev.succ ?_
    have hle := drop_n h
    simp only [s_f64_l1, show ∀ k i b s t, (Val.mk k i b s t).t = t from fun _ _ _ _ _ => rfl]
    refine Ev.f (and_f (cj_f hle)) ?_
    cases hw : w.t.drop j with
    | nil =>
      have := drop_n hw
      simp only [cmpVs]
      exact Ev.f (by rw [show t.length = w.t.length by omega]; simp) (Ev.mk _)
    | cons y q =>
      obtain ⟨hj, _, _⟩ := drop_c hw
      simp only [cmpVs]
      refine Ev.t (by simp; omega) (ev100 ?_)
      rw [decide_eq_true (by omega)]
      rfl
  | x :: r, k, i, b, s, t, w, j, h, h1, h2, hl, hbd => by
    obtain ⟨hj, hx, hr⟩ := drop_c h
    refine Ev.succ ?_
    simp only [s_f64_l1, show ∀ k i b s t, (Val.mk k i b s t).t = t from fun _ _ _ _ _ => rfl]
    cases hw : w.t.drop j with
    | nil =>
      have hle := drop_n hw
      simp only [cmpVs]
      refine Ev.f (by rw [cj_f hle, Bool.and_false]) (Ev.t (by simp; omega) (ev100 ?_))
      rw [decide_eq_false (by omega)]
      rfl
    | cons y q =>
      obtain ⟨hj2, hy, hq⟩ := drop_c hw
      simp only [cmpVs]
      refine Ev.t (by rw [cj_t hj, cj_t hj2]; rfl) ?_
      refine Ev.g (Int.natCast_nonneg j) (Ev.bindc (by rw [Int.toNat_natCast]; exact hx) (Ev.g (Int.natCast_nonneg j) (Ev.bindc (by rw [Int.toNat_natCast]; exact hy) (Ev.bind (e64 x y hbd.1) ?_))))
      by_cases hc : cmpV x y = 0
      · rw [if_pos hc]
        refine Ev.f (by simp [hc]) ?_
        have := e64s r k i b s t w (j + 1) hr (by omega) (by omega) hl hbd.2
        rw [hq] at this
        rw [show IntKind.i64.wrap ((j : Int) + 1) = ((j + 1 : Nat) : Int) by rw [wrap64 (by omega) (by omega)]; rfl]
        exact this
      · rw [if_neg hc]
        exact Ev.t (by simpa using hc) (Ev.mk _)
end
theorem e25 (a b : Val) (h : BdV a) : Ev (fun n => s_f25 n a b) (cmpV a b == 0) := by
  unfold s_f25
  exact Ev.ret (e64 a b h)
mutual
theorem cmpV_self : ∀ a : Val, cmpV a a = 0
  | .mk k i b s t => by
    rw [cmpV_mk]
    simp [cmpVs_self t]
theorem cmpVs_self : ∀ a : List Val, cmpVs a a = 0
  | [] => rfl
  | x :: r => by simp only [cmpVs, cmpV_self x, if_true, cmpVs_self r]
end
end Go.Proofs.Ytbcjcekoonebiaa.Tl

set_option linter.unusedVariables false
set_option linter.unusedSimpArgs false
namespace Go.Proofs.Ytbcjcekoonebiaa.Tl
open Go Go.RowKit
/-! ### types of values -/
mutual
def tyV : Val → Ty
  | .mk k i b s t => .mk k (tyVs t)
def tyVs : List Val → List Ty
  | [] => []
  | x :: r => tyV x :: tyVs r
end
theorem tyVs_length : ∀ l : List Val, (tyVs l).length = l.length
  | [] => rfl
  | x :: r => by simp only [tyVs, List.length_cons, tyVs_length r]
mutual
theorem e21 : ∀ v : Val, BdV v → Ev (fun n => s_f21 n v) (tyV v)
  | .mk k i b s t, h => by
    refine Ev.succ ?_
    simp only [s_f21, tyV]
    exact e21s t k i b s t 0 [] rfl rfl h.1 h.2
theorem e21s : ∀ (r : List Val) (k i : Int) (b : Bool) (s : ByteArray) (t : List Val) (j : Nat) (acc : List Ty), t.drop j = r → acc.length = j → t.length ≤ 20 → BdVs r → Ev (fun n => s_f21_l1 n (.mk k i b s t) j acc) (.mk k (acc ++ tyVs r))
  | [], k, i, b, s, t, j, acc, h, hj, hl, hb => by
    refine Ev.succ ?_
    simp only [s_f21_l1, Val.kind, Val.t, tyVs, List.append_nil]
    exact Ev.f (cj_f (drop_n h)) (Ev.mk _)
  | x :: r, k, i, b, s, t, j, acc, h, hj, hl, hb => by
    obtain ⟨hlt, hx, hr⟩ := drop_c h
    refine Ev.succ ?_
    simp only [s_f21_l1, Val.t, tyVs]
    refine Ev.t (cj_t hlt) (Ev.bindc hx (Ev.bind (e21 x hb.1) (Ev.g (by omega) ((e21s r k i b s t (j + 1) (acc ++ [tyV x]) hr (by simp [hj]) hl hb.2).congr (by simp)))))
end

abbrev zT : Ty := .mk 0 []
/-! ### what is wrong with a type -/
mutual
def ckT : Ty → Int → Int
  | .mk k l, d => bif ((decide (k < 1)) || (decide (k > 4))) || ((k != 4) && (decide ((l.length : Int) > 0))) then 5 else bif k != 4 then 0 else bif (l.length : Int) == 0 then 1 else bif decide ((l.length : Int) > 8) then 10 else bif decide (d > 4) then 9 else ckTs l (d + 1)
def ckTs : List Ty → Int → Int
  | [], _ => 0
  | x :: r, d => bif ckT x d != 0 then ckT x d else ckTs r d
end
mutual
theorem e91 : ∀ (v : Ty) (d : Int), 0 ≤ d → d ≤ 5 → Ev (fun n => s_f91 n v d) (ckT v d)
  | .mk k t, d, h0, h1 => by
    refine Ev.succ ?_
    simp only [s_f91, ckT, Ty.kind, Ty.of]
    refine Ev.if (fun _ => Ev.mk _) (fun _ => Ev.if (fun _ => Ev.mk _) (fun _ => Ev.if (fun _ => Ev.mk _) (fun _ => Ev.if (fun _ => Ev.mk _) (fun _ => Ev.if (fun _ => Ev.mk _) (fun hd => ?_)))))
    exact e91s t k t 0 d rfl h0 (by simpa using hd)
theorem e91s : ∀ (r : List Ty) (k : Int) (t : List Ty) (j : Nat) (d : Int), t.drop j = r → 0 ≤ d → d ≤ 4 → Ev (fun n => s_f91_l1 n (.mk k t) d j) (ckTs r (d + 1))
  | [], k, t, j, d, h, h0, h1 => by
    refine Ev.succ ?_
    simp only [s_f91_l1, ckTs, Ty.of]
    exact Ev.f (cj_f (drop_n h)) (Ev.mk _)
  | x :: r, k, t, j, d, h, h0, h1 => by
    obtain ⟨hj, hx, hr⟩ := drop_c h
    refine Ev.succ ?_
    simp only [s_f91_l1, ckTs, Ty.of]
    refine Ev.t (cj_t hj) (Ev.bindc hx (Ev.bind (a := ckT x (d + 1)) ?_ (Ev.if (fun _ => Ev.mk _) (fun _ => e91s r k t (j + 1) d hr h0 h1))))
    rw [w1 (by omega) (by omega)]
    exact e91 x (d + 1) (by omega) (by omega)
end
theorem e56 (v : Ty) : Ev (fun n => s_f56 n v) (ckT v 0) := by
  unfold s_f56
  exact Ev.ret (g := id) (e91 v 0 (by omega) (by omega))

/-! ### types alike -/
mutual
def sameT : Ty → Ty → Bool
  | .mk k l, u => bif (k != u.kind) || ((l.length : Int) != (u.of.length : Int)) then false else sameTs l u.of
def sameTs : List Ty → List Ty → Bool
  | x :: r, y :: q => bif !(sameT x y) then false else sameTs r q
  | _, _ => true
end
mutual
theorem e65 : ∀ (a b : Ty), Ev (fun n => s_f65 n a b) (sameT a b)
  | .mk k l, b => by
    refine Ev.succ ?_
    simp only [s_f65, sameT, Ty.kind, Ty.of]
    refine Ev.if (fun _ => Ev.mk _) (fun hc => ?_)
    simp only [Bool.or_eq_false_iff] at hc
    have hl : l.length = b.of.length := by have q : ((l.length : Int) != (b.of.length : Int)) = false := hc.2; simp at q; omega
    exact e65s l k l b 0 rfl hl
theorem e65s : ∀ (r : List Ty) (k : Int) (l : List Ty) (b : Ty) (j : Nat), l.drop j = r → l.length = b.of.length → Ev (fun n => s_f65_l1 n (.mk k l) b j) (sameTs r (b.of.drop j))
  | [], k, l, b, j, h, hl => by
    refine Ev.succ ?_
    simp only [s_f65_l1, sameTs, Ty.of]
    exact Ev.f (cj_f (drop_n h)) (Ev.mk _)
  | x :: r, k, l, b, j, h, hl => by
    obtain ⟨hj, hx, hr⟩ := drop_c h
    refine Ev.succ ?_
    have hy : b.of[j]? = some (b.of[j]'(by omega)) := List.getElem?_eq_getElem (by omega)
    rw [drop_get hy]
    simp only [s_f65_l1, sameTs, Ty.of]
    refine Ev.t (cj_t hj) (Ev.bindc hx (Ev.bindc hy (Ev.bind (e65 x _) (Ev.if (fun _ => Ev.mk _) (fun _ => e65s r k l b (j + 1) hr hl)))))
end
mutual
theorem sameT_iff : ∀ a b : Ty, sameT a b = true ↔ a = b
  | .mk k l, .mk k' l' => by
    simp only [sameT, Ty.kind, Ty.of]
    cases hc : (k != k') || ((l.length : Int) != (l'.length : Int)) with
    | true =>
      simp only [cond_true, Bool.false_eq_true, false_iff, Ty.mk.injEq, not_and]
      rintro rfl rfl
      simp at hc
    | false =>
      simp only [cond_false, Ty.mk.injEq]
      simp only [Bool.or_eq_false_iff] at hc
      have h1 : k = k' := by simpa using hc.1
      have h2 : l.length = l'.length := by have := hc.2; simp at this; omega
      rw [sameTs_iff l l' h2]
      simp [h1]
theorem sameTs_iff : ∀ a b : List Ty, a.length = b.length → (sameTs a b = true ↔ a = b)
  | [], [], _ => by simp [sameTs]
  | [], _ :: _, h => by simp at h
  | _ :: _, [], h => by simp at h
  | x :: r, y :: q, h => by
    simp only [sameTs]
    have h1 := sameT_iff x y
    have h2 := sameTs_iff r q (by simpa using h)
    cases hc : sameT x y with
    | true =>
      have h3 := h1.1 hc
      subst h3
      simp [h2]
    | false =>
      simp only [Bool.not_false, cond_true, Bool.false_eq_true, false_iff, List.cons.injEq, not_and]
      intro h3
      rw [h3, (sameT_iff y y).2 rfl] at hc
      cases hc
end
theorem sameT_eq (a b : Ty) : sameT a b = true ↔ a = b := sameT_iff a b

/-! ### ops -/
def arS (o : List UInt8) : Int :=
  bif o == [108, 105, 116] then 0 else bif o == [120] then 0 else bif o == [97, 116] then 1 else bif o == [110, 101, 103] then 1 else bif o == [110, 111, 116] then 1 else bif o == [108, 101, 110] then 1
  else bif o == [97, 100, 100] then 2 else bif o == [115, 117, 98] then 2 else bif o == [109, 117, 108] then 2 else bif o == [100, 105, 118] then 2 else bif o == [114, 101, 109] then 2 else bif o == [101, 113] then 2 else bif o == [108, 116] then 2
  else bif o == [97, 110, 100] then 2 else bif o == [111, 114] then 2 else bif o == [99, 97, 116] then 2 else bif o == [105, 102] then 3 else bif o == [116, 117, 112] then -1 else -2
def allK (k : Int) (ts : List Ty) (r : Ty) : Ty × Int :=
  match ts with
  | [] => (r, 0)
  | x :: q => bif x.kind != k then (zT, 5) else allK k q r
theorem e94_1 : ∀ (r ts : List Ty) (j : Nat), ts.drop j = r → Ev (fun n => s_f94_l1 n ts j) (allK 1 r (.mk 1 []))
  | [], ts, j, h => by
    refine Ev.succ ?_
    simp only [s_f94_l1, allK]
    exact Ev.f (cj_f (drop_n h)) (Ev.mk _)
  | x :: r, ts, j, h => by
    obtain ⟨hj, hx, hr⟩ := drop_c h
    refine Ev.succ ?_
    simp only [s_f94_l1, allK]
    exact Ev.t (cj_t hj) (Ev.bindc hx (Ev.if (fun _ => Ev.mk _) (fun _ => e94_1 r ts (j + 1) hr)))
theorem e94_7 : ∀ (r ts : List Ty) (j : Nat), ts.drop j = r → Ev (fun n => s_f94_l7 n ts j) (allK 2 r (.mk 2 []))
  | [], ts, j, h => by
    refine Ev.succ ?_
    simp only [s_f94_l7, allK]
    exact Ev.f (cj_f (drop_n h)) (Ev.mk _)
  | x :: r, ts, j, h => by
    obtain ⟨hj, hx, hr⟩ := drop_c h
    refine Ev.succ ?_
    simp only [s_f94_l7, allK]
    exact Ev.t (cj_t hj) (Ev.bindc hx (Ev.if (fun _ => Ev.mk _) (fun _ => e94_7 r ts (j + 1) hr)))
theorem e94_10 : ∀ (r ts : List Ty) (j : Nat), ts.drop j = r → Ev (fun n => s_f94_l10 n ts j) (allK 3 r (.mk 3 []))
  | [], ts, j, h => by
    refine Ev.succ ?_
    simp only [s_f94_l10, allK]
    exact Ev.f (cj_f (drop_n h)) (Ev.mk _)
  | x :: r, ts, j, h => by
    obtain ⟨hj, hx, hr⟩ := drop_c h
    refine Ev.succ ?_
    simp only [s_f94_l10, allK]
    exact Ev.t (cj_t hj) (Ev.bindc hx (Ev.if (fun _ => Ev.mk _) (fun _ => e94_10 r ts (j + 1) hr)))
theorem e94_11 : ∀ (r ts : List Ty) (j : Nat), ts.drop j = r → Ev (fun n => s_f94_l11 n ts j) (allK 3 r (.mk 1 []))
  | [], ts, j, h => by
    refine Ev.succ ?_
    simp only [s_f94_l11, allK]
    exact Ev.f (cj_f (drop_n h)) (Ev.mk _)
  | x :: r, ts, j, h => by
    obtain ⟨hj, hx, hr⟩ := drop_c h
    refine Ev.succ ?_
    simp only [s_f94_l11, allK]
    exact Ev.t (cj_t hj) (Ev.bindc hx (Ev.if (fun _ => Ev.mk _) (fun _ => e94_11 r ts (j + 1) hr)))
theorem e94_12 : ∀ (r ts : List Ty) (j : Nat), ts.drop j = r → Ev (fun n => s_f94_l12 n ts j) (allK 0 r (.mk 0 []))
  | [], ts, j, h => by
    refine Ev.succ ?_
    simp only [s_f94_l12, allK]
    exact Ev.f (cj_f (drop_n h)) (Ev.mk _)
  | x :: r, ts, j, h => by
    obtain ⟨hj, hx, hr⟩ := drop_c h
    refine Ev.succ ?_
    simp only [s_f94_l12, allK]
    exact Ev.t (cj_t hj) (Ev.bindc hx (Ev.if (fun _ => Ev.mk _) (fun _ => e94_12 r ts (j + 1) hr)))

abbrev th (ts : List Ty) (j : Nat) : Ty := (ts[j]?).getD zT
def opTy (o : List UInt8) (m : Int) (ts : List Ty) : Ty × Int :=
  bif o == [97, 116] then (bif (th ts 0).kind != 4 then (zT, 5) else bif decide (m < 0) then (zT, 1) else bif decide (m ≥ ((th ts 0).of.length : Int)) then (zT, 1) else (th (th ts 0).of m.toNat, 0))
  else bif o == [116, 117, 112] then (bif ckT (.mk 4 ts) 0 != 0 then (zT, 9) else (.mk 4 ts, 0))
  else bif o == [101, 113] then (bif !(sameT (th ts 0) (th ts 1)) then (zT, 5) else (.mk 2 [], 0))
  else bif o == [108, 116] then (bif !(sameT (th ts 0) (th ts 1)) then (zT, 5) else (.mk 2 [], 0))
  else bif o == [105, 102] then (bif (th ts 0).kind != 2 then (zT, 5) else bif !(sameT (th ts 1) (th ts 2)) then (zT, 5) else (th ts 1, 0))
  else bif o == [110, 101, 103] then allK 1 ts (.mk 1 []) else bif o == [97, 100, 100] then allK 1 ts (.mk 1 []) else bif o == [115, 117, 98] then allK 1 ts (.mk 1 []) else bif o == [109, 117, 108] then allK 1 ts (.mk 1 []) else bif o == [100, 105, 118] then allK 1 ts (.mk 1 []) else bif o == [114, 101, 109] then allK 1 ts (.mk 1 [])
  else bif o == [110, 111, 116] then allK 2 ts (.mk 2 []) else bif o == [97, 110, 100] then allK 2 ts (.mk 2 []) else bif o == [111, 114] then allK 2 ts (.mk 2 [])
  else bif o == [99, 97, 116] then allK 3 ts (.mk 3 []) else bif o == [108, 101, 110] then allK 3 ts (.mk 1 []) else allK 0 ts (.mk 0 [])
theorem th_get {ts : List Ty} {j : Nat} (h : j < ts.length) : ts[j]? = some (th ts j) := by
  simp [th, List.getElem?_eq_getElem h]
theorem e94 (op : ByteArray) (m : Int) (ts : List Ty) (h1 : op.data.toList = [97, 116] → 0 < ts.length) (h2 : op.data.toList = [101, 113] ∨ op.data.toList = [108, 116] → 1 < ts.length) (h3 : op.data.toList = [105, 102] → 2 < ts.length) : Ev (fun n => s_f94 n op m ts) (opTy op.data.toList m ts) := by
  unfold s_f94 opTy
  generalize op.data.toList = o at *
  refine Ev.if (fun h => ?_) (fun _ => Ev.if (fun h => ?_) (fun _ => Ev.if (fun h => ?_) (fun _ => Ev.if (fun h => ?_) (fun _ => Ev.if (fun h => ?_) (fun _ => Ev.if (fun h => ?_) (fun _ => Ev.if (fun h => ?_) (fun _ => Ev.if (fun h => ?_) (fun _ => Ev.if (fun h => ?_) (fun _ => Ev.if (fun h => ?_) (fun _ => Ev.if (fun h => ?_) (fun _ => Ev.if (fun h => ?_) (fun _ => Ev.if (fun h => ?_) (fun _ => Ev.if (fun h => ?_) (fun _ => Ev.if (fun h => ?_) (fun _ => Ev.if (fun h => ?_) (fun _ => ?_))))))))))))))))
  · have h0 := th_get (h1 (eq_of_beq h))
    refine Ev.bindc h0 (Ev.if (fun _ => Ev.mk _) (fun _ => Ev.if (fun _ => Ev.mk _) (fun hm => Ev.bindc h0 (Ev.if (fun _ => Ev.mk _) (fun hl => Ev.bindc h0 (Ev.g ?_ (Ev.bindc (th_get ?_) (Ev.mk _))))))))
    · simpa using hm
    · simp at hm hl; omega
  · exact Ev.bind (e56 _) (Ev.if (fun _ => Ev.mk _) (fun _ => Ev.mk _))
  · have hl := h2 (.inl (eq_of_beq h))
    exact Ev.bindc (th_get (by omega)) (Ev.bindc (th_get hl) (Ev.bind (e65 _ _) (Ev.if (fun _ => Ev.mk _) (fun _ => Ev.mk _))))
  · have hl := h2 (.inr (eq_of_beq h))
    exact Ev.bindc (th_get (by omega)) (Ev.bindc (th_get hl) (Ev.bind (e65 _ _) (Ev.if (fun _ => Ev.mk _) (fun _ => Ev.mk _))))
  · have hl := h3 (eq_of_beq h)
    exact Ev.bindc (th_get (by omega)) (Ev.if (fun _ => Ev.mk _) (fun _ => Ev.bindc (th_get (by omega)) (Ev.bindc (th_get hl) (Ev.bind (e65 _ _) (Ev.if (fun _ => Ev.mk _) (fun _ => Ev.bindc (th_get (by omega)) (Ev.mk _)))))))
  all_goals first | exact e94_1 _ _ _ rfl | exact e94_7 _ _ _ rfl | exact e94_10 _ _ _ rfl | exact e94_11 _ _ _ rfl | exact e94_12 _ _ _ rfl

/-! ### what is few of expressions -/
mutual
def BdE : Ex → Prop
  | .mk o v m a => a.length ≤ 12 ∧ BdV v ∧ BdEs a
def BdEs : List Ex → Prop
  | [] => True
  | x :: r => BdE x ∧ BdEs r
end
/-! ### the type of an expression -/
mutual
def ckE : Ex → Ty → Int → Ty × Int
  | .mk o v m a, ty, d =>
    bif arS o.data.toList == (-2) then (zT, 6) else bif decide (d > 12) then (zT, 9)
    else bif ((decide (arS o.data.toList ≥ 0)) && ((a.length : Int) != arS o.data.toList)) || ((decide (arS o.data.toList < 0)) && ((decide ((a.length : Int) < 1)) || (decide ((a.length : Int) > 8)))) then (zT, 1)
    else bif ((o.data.toList != [97, 116]) && (m != 0)) || ((o.data.toList != [108, 105, 116]) && (!(((((v.kind == 0) && (v.i == 0)) && (!v.b)) && (v.s.data.toList == [])) && ((v.t.length : Int) == 0)))) then (zT, 1)
    else bif o.data.toList == [108, 105, 116] then (bif ckV v 0 != 0 then (zT, ckV v 0) else (tyV v, 0))
    else bif o.data.toList == [120] then (ty, 0)
    else bif (ckEs a ty (d + 1)).2 != 0 then (zT, (ckEs a ty (d + 1)).2) else opTy o.data.toList m (ckEs a ty (d + 1)).1
def ckEs : List Ex → Ty → Int → List Ty × Int
  | [], _, _ => ([], 0)
  | e :: r, ty, d => bif (ckE e ty d).2 != 0 then ([], (ckE e ty d).2) else bif (ckEs r ty d).2 != 0 then ([], (ckEs r ty d).2) else ((ckE e ty d).1 :: (ckEs r ty d).1, 0)
end
end Go.Proofs.Ytbcjcekoonebiaa.Tl

set_option linter.unusedVariables false
set_option linter.unusedSimpArgs false
namespace Go.Proofs.Ytbcjcekoonebiaa.Tl
open Go Go.RowKit
/-! ### values that may be, of a type -/
mutual
def lfV : Val → Prop
  | .mk k i b s t => (((decide (k < 1)) || (decide (k > 4))) = false) ∧ ((((((k != 1) && (i != 0)) || ((k != 2) && b)) || ((k != 3) && (s.data.toList != []))) || ((k != 4) && (decide ((t.length : Int) > 0)))) = false) ∧ s.size ≤ 255 ∧ lfVs t
def lfVs : List Val → Prop
  | [] => True
  | x :: r => lfV x ∧ lfVs r
end
mutual
theorem ckV_lf : ∀ (v : Val) (d : Int), ckV v d = 0 ↔ lfV v ∧ ckT (tyV v) d = 0
  | .mk k i b s t, d => by
    simp only [ckV, lfV, tyV, ckT, tyVs_length]
    cases h1 : (decide (k < 1)) || (decide (k > 4)) with
    | true => simp
    | false =>
      cases h2 : ((((k != 1) && (i != 0)) || ((k != 2) && b)) || ((k != 3) && (s.data.toList != []))) || ((k != 4) && (decide ((t.length : Int) > 0))) with
      | true => simp
      | false =>
        have h3 := (or_f h2).2
        simp only [h3, Bool.or_false, cond_false, true_and, Bool.false_or]
        by_cases h4 : s.size ≤ 255
        · rw [show decide ((s.size : Int) > 255) = false from decide_eq_false (by omega)]
          simp only [cond_false, h4, true_and]
          cases h5 : k != 4 with
          | true =>
            have h6 : t = [] := by
              rw [h5, Bool.true_and] at h3
              exact nil_of h3
            subst h6
            simp [lfVs]
          | false =>
            simp only [cond_false]
            cases h7 : (t.length : Int) == 0 with
            | true => simp
            | false =>
              simp only [cond_false]
              cases h8 : decide ((t.length : Int) > 8) with
              | true => simp
              | false =>
                simp only [cond_false]
                cases h9 : decide (d > 4) with
                | true => simp
                | false => simp only [cond_false]; exact ckVs_lf t (d + 1)
        · rw [show decide ((s.size : Int) > 255) = true from decide_eq_true (by omega)]
          simp [h4]
theorem ckVs_lf : ∀ (v : List Val) (d : Int), ckVs v d = 0 ↔ lfVs v ∧ ckTs (tyVs v) d = 0
  | [], d => by simp [ckVs, lfVs, tyVs, ckTs]
  | x :: r, d => by
    have h1 := ckV_lf x d
    have h2 := ckVs_lf r d
    simp only [ckVs, lfVs, tyVs, ckTs]
    by_cases h3 : ckV x d = 0
    · obtain ⟨h4, h5⟩ := h1.1 h3
      simp [h3, h5, h2, h4]
    · rw [show (ckV x d != 0) = true by simpa using h3]
      simp only [cond_true, h3, false_iff, not_and]
      rintro ⟨h4, _⟩
      have h5 : ckT (tyV x) d ≠ 0 := fun q => h3 (h1.2 ⟨h4, q⟩)
      rw [show (ckT (tyV x) d != 0) = true by simpa using h5]
      simpa using h5
end
mutual
theorem ckT_down : ∀ (t : Ty) (d : Int), ckT t (d + 1) = 0 → ckT t d = 0
  | .mk k l, d, h => by
    simp only [ckT] at h ⊢
    cases h1 : ((decide (k < 1)) || (decide (k > 4))) || ((k != 4) && (decide ((l.length : Int) > 0))) with
    | true => rw [h1] at h; simp at h
    | false =>
      rw [h1] at h
      simp only [cond_false] at h ⊢
      cases h2 : k != 4 with
      | true => rfl
      | false =>
        rw [h2] at h
        simp only [cond_false] at h ⊢
        cases h3 : (l.length : Int) == 0 with
        | true => rw [h3] at h; simp at h
        | false =>
          rw [h3] at h
          simp only [cond_false] at h ⊢
          cases h4 : decide ((l.length : Int) > 8) with
          | true => rw [h4] at h; simp at h
          | false =>
            rw [h4] at h
            simp only [cond_false] at h ⊢
            cases h5 : decide (d + 1 > 4) with
            | true => rw [h5] at h; simp at h
            | false =>
              rw [h5] at h
              simp only [cond_false] at h
              have h6 := of_decide_eq_false h5
              rw [show decide (d > 4) = false from decide_eq_false (by omega)]
              exact ckTs_down l (d + 1) h
theorem ckTs_down : ∀ (t : List Ty) (d : Int), ckTs t (d + 1) = 0 → ckTs t d = 0
  | [], d, h => rfl
  | x :: r, d, h => by
    simp only [ckTs] at h ⊢
    by_cases h1 : ckT x (d + 1) = 0
    · rw [h1] at h
      simp only [bne_self_eq_false, cond_false] at h
      rw [ckT_down x d h1]
      simp only [bne_self_eq_false, cond_false]
      exact ckTs_down r d h
    · rw [show (ckT x (d + 1) != 0) = true by simpa using h1] at h
      exact absurd h h1
end
theorem ckTs_get : ∀ {ts : List Ty} {d : Int} {j : Nat} {t : Ty}, ckTs ts d = 0 → ts[j]? = some t → ckT t d = 0
  | [], d, j, t, h, hj => by simp at hj
  | x :: r, d, j, t, h, hj => by
    simp only [ckTs] at h
    by_cases h1 : ckT x d = 0
    · rw [h1] at h
      simp only [bne_self_eq_false, cond_false] at h
      cases j with
      | zero => simp at hj; subst hj; exact h1
      | succ j => exact ckTs_get h (by simpa using hj)
    · rw [show (ckT x d != 0) = true by simpa using h1] at h
      exact absurd h h1
theorem ckT_tup {k : Int} {ts : List Ty} {d : Int} (hk : k = 4) (h : ckT (.mk k ts) d = 0) : ts ≠ [] ∧ ts.length ≤ 8 ∧ d ≤ 4 ∧ ckTs ts (d + 1) = 0 := by
  subst hk
  simp only [ckT] at h
  simp at h
  cases h3 : (ts.length : Int) == 0 with
  | true =>
    rw [h3] at h
    simp at h
  | false =>
    have hne : ts ≠ [] := by rintro rfl; simp at h3
    rw [h3] at h
    simp only [cond_false] at h
    cases h4 : decide (8 < (ts.length : Int)) with
    | true => rw [h4] at h; simp at h
    | false =>
      rw [h4] at h
      simp only [cond_false] at h
      have h4 := of_decide_eq_false h4
      cases h5 : decide (4 < d) with
      | true => rw [h5] at h; simp at h
      | false =>
        rw [h5] at h
        simp only [cond_false] at h
        exact ⟨hne, by omega, by have := of_decide_eq_false h5; omega, h⟩
mutual
theorem lf_bd : ∀ (v : Val) (d : Int), lfV v → ckT (tyV v) d = 0 → BdV v
  | .mk k i b s t, d, h, hc => by
    by_cases hk : k = 4
    · obtain ⟨h1, h2, h3, h4⟩ := ckT_tup hk hc
      rw [tyVs_length] at h2
      exact ⟨by omega, lfs_bd t (d + 1) h.2.2.2 h4⟩
    · have h3 := (or_f h.2.1).2
      rw [show (k != 4) = true by simpa using hk] at h3
      have h6 : t = [] := by
        rw [Bool.true_and] at h3
        exact nil_of h3
      subst h6
      exact ⟨by simp, trivial⟩
theorem lfs_bd : ∀ (v : List Val) (d : Int), lfVs v → ckTs (tyVs v) d = 0 → BdVs v
  | [], d, _, _ => trivial
  | x :: r, d, h, hc => by
    simp only [tyVs, ckTs] at hc
    by_cases h1 : ckT (tyV x) d = 0
    · rw [h1] at hc
      simp only [bne_self_eq_false, cond_false] at hc
      exact ⟨lf_bd x d h.1 h1, lfs_bd r d h.2 hc⟩
    · rw [show (ckT (tyV x) d != 0) = true by simpa using h1] at hc
      exact absurd hc h1
end
end Go.Proofs.Ytbcjcekoonebiaa.Tl

set_option linter.unusedVariables false
set_option linter.unusedSimpArgs false
namespace Go.Proofs.Ytbcjcekoonebiaa.Tl
open Go Go.RowKit
def OKv (v : Val) (t : Ty) : Prop := lfV v ∧ tyV v = t ∧ ckT t 0 = 0
def OKvs : List Val → List Ty → Prop
  | [], [] => True
  | v :: vs, t :: ts => OKv v t ∧ OKvs vs ts
  | _, _ => False
theorem OKvs.len : ∀ {vs : List Val} {ts : List Ty}, OKvs vs ts → vs.length = ts.length
  | [], [], _ => rfl
  | [], _ :: _, h => by simp [OKvs] at h
  | _ :: _, [], h => by simp [OKvs] at h
  | v :: vs, t :: ts, h => by simp only [List.length_cons, OKvs.len h.2]
theorem OKvs.lf : ∀ {vs : List Val} {ts : List Ty}, OKvs vs ts → lfVs vs ∧ tyVs vs = ts
  | [], [], _ => ⟨trivial, rfl⟩
  | [], _ :: _, h => by simp [OKvs] at h
  | _ :: _, [], h => by simp [OKvs] at h
  | v :: vs, t :: ts, h => ⟨⟨h.1.1, (OKvs.lf h.2).1⟩, by simp only [tyVs, h.1.2.1, (OKvs.lf h.2).2]⟩
theorem OKv.bd {v : Val} {t : Ty} (h : OKv v t) : BdV v := lf_bd v 0 h.1 (by rw [h.2.1]; exact h.2.2)
theorem OKv.text {v : Val} {t : Ty} (h : OKv v t) : v.s.size ≤ 255 := by
  cases v; exact h.1.2.2.1
theorem ok_int (i : Int) : OKv (.mk 1 i false ⟨#[]⟩ []) (.mk 1 []) := ⟨⟨rfl, rfl, Nat.zero_le _, trivial⟩, rfl, rfl⟩
theorem ok_bool (b : Bool) : OKv (.mk 2 0 b ⟨#[]⟩ []) (.mk 2 []) := ⟨⟨rfl, rfl, Nat.zero_le _, trivial⟩, rfl, rfl⟩
theorem ok_text (s : ByteArray) (h : s.size ≤ 255) : OKv (.mk 3 0 false s []) (.mk 3 []) := ⟨by simp [lfV, lfVs, h], rfl, rfl⟩
theorem ok_plain {v : Val} {t : Ty} (h : OKv v t) (hk : t.kind ≠ 4) : t = .mk t.kind [] := by
  obtain ⟨h1, rfl, h2⟩ := h
  cases v with
  | mk k i b s l =>
    have hk : k ≠ 4 := hk
    have h3 := (or_f h1.2.1).2
    rw [show (k != 4) = true by simpa using hk, Bool.true_and] at h3
    have h6 : l = [] := nil_of h3
    subst h6
    rfl
theorem lfVs_get : ∀ {l : List Val} {j : Nat} {v : Val}, lfVs l → l[j]? = some v → lfV v
  | [], j, v, h, hj => by simp at hj
  | x :: r, j, v, h, hj => by
    cases j with
    | zero => simp at hj; subst hj; exact h.1
    | succ j => exact lfVs_get h.2 (by simpa using hj)
theorem tyVs_get : ∀ {l : List Val} {j : Nat}, (tyVs l)[j]? = (l[j]?).map tyV
  | [], j => by simp [tyVs]
  | x :: r, j => by
    cases j with
    | zero => simp [tyVs]
    | succ j => simp [tyVs, tyVs_get (l := r)]
theorem ok_part {v : Val} {t : Ty} (h : OKv v t) (hk : t.kind = 4) {j : Nat} (hj : j < t.of.length) : ∃ w, v.t[j]? = some w ∧ OKv w (th t.of j) := by
  obtain ⟨h1, rfl, h2⟩ := h
  cases v with
  | mk k i b s l =>
    have hk : k = 4 := hk
    obtain ⟨_, _, _, h4⟩ := ckT_tup hk h2
    have hj : j < (tyVs l).length := hj
    have hg : (tyVs l)[j]? = some (th (tyVs l) j) := th_get hj
    have hg2 := hg
    rw [tyVs_get] at hg2
    simp only [Option.map_eq_some_iff] at hg2
    obtain ⟨w, hw, he⟩ := hg2
    exact ⟨w, hw, lfVs_get h1.2.2.2 hw, he, ckT_down _ 0 (ckTs_get h4 hg)⟩

theorem arS_cases {o : List UInt8} (h : arS o ≠ -2) : o = [108, 105, 116] ∨ o = [120] ∨ o = [97, 116] ∨ o = [110, 101, 103] ∨ o = [110, 111, 116] ∨ o = [108, 101, 110] ∨ o = [97, 100, 100] ∨ o = [115, 117, 98] ∨ o = [109, 117, 108] ∨ o = [100, 105, 118] ∨ o = [114, 101, 109] ∨ o = [101, 113] ∨ o = [108, 116] ∨ o = [97, 110, 100] ∨ o = [111, 114] ∨ o = [99, 97, 116] ∨ o = [105, 102] ∨ o = [116, 117, 112] := by
  apply Classical.byContradiction
  intro hn
  simp only [not_or] at hn
  apply h
  obtain ⟨h1, h2, h3, h4, h5, h6, h7, h8, h9, h10, h11, h12, h13, h14, h15, h16, h17, h18⟩ := hn
  simp only [arS, beq_false_of_ne h1, beq_false_of_ne h2, beq_false_of_ne h3, beq_false_of_ne h4, beq_false_of_ne h5, beq_false_of_ne h6, beq_false_of_ne h7, beq_false_of_ne h8, beq_false_of_ne h9, beq_false_of_ne h10, beq_false_of_ne h11, beq_false_of_ne h12, beq_false_of_ne h13, beq_false_of_ne h14, beq_false_of_ne h15, beq_false_of_ne h16, beq_false_of_ne h17, beq_false_of_ne h18, cond_false]

theorem two_of {ws : List Val} {ts : List Ty} (h : OKvs ws ts) (hl : ts.length = 2) : ∃ a b s t, ws = [a, b] ∧ ts = [s, t] ∧ OKv a s ∧ OKv b t := by
  rcases ts with _ | ⟨s, _ | ⟨t, _ | ⟨u, ts⟩⟩⟩ <;> simp at hl
  rcases ws with _ | ⟨a, _ | ⟨b, _ | ⟨c, ws⟩⟩⟩ <;> simp [OKvs] at h
  exact ⟨a, b, s, t, rfl, rfl, h.1, h.2⟩
theorem one_of {ws : List Val} {ts : List Ty} (h : OKvs ws ts) (hl : ts.length = 1) : ∃ a s, ws = [a] ∧ ts = [s] ∧ OKv a s := by
  rcases ts with _ | ⟨s, _ | ⟨u, ts⟩⟩ <;> simp at hl
  rcases ws with _ | ⟨a, _ | ⟨c, ws⟩⟩ <;> simp [OKvs] at h
  exact ⟨a, s, rfl, rfl, h⟩
theorem allK2 {k : Int} {s t r u : Ty} (h : allK k [s, t] r = (u, 0)) : s.kind = k ∧ t.kind = k ∧ u = r := by
  simp only [allK] at h
  cases h1 : s.kind != k with
  | true => rw [h1] at h; simp at h
  | false =>
    cases h2 : t.kind != k with
    | true => rw [h1, h2] at h; simp at h
    | false => rw [h1, h2] at h; simp at h; exact ⟨bne_f h1, bne_f h2, h.symm⟩
theorem allK1 {k : Int} {s r u : Ty} (h : allK k [s] r = (u, 0)) : s.kind = k ∧ u = r := by
  simp only [allK] at h
  cases h1 : s.kind != k with
  | true => rw [h1] at h; simp at h
  | false => rw [h1] at h; simp at h; exact ⟨bne_f h1, h.symm⟩

def Made (op : ByteArray) (m : Int) (ws : List Val) (t : Ty) : Prop :=
  ∃ w h, applyS op m ws = some (w, h) ∧ Ev (fun n => s_f63 n op m ws) (w, h) ∧ (h = 0 → OKv w t) ∧ (h ≠ 0 → w = zeroV)

theorem made {op : ByteArray} {m : Int} {ws : List Val} {ts : List Ty} {t : Ty} (hw : OKvs ws ts) (har : arS op.data.toList ≠ -2)
    (hlen : (((decide (arS op.data.toList ≥ 0)) && ((ts.length : Int) != arS op.data.toList)) || ((decide (arS op.data.toList < 0)) && ((decide ((ts.length : Int) < 1)) || (decide ((ts.length : Int) > 8))))) = false)
    (h1 : op.data.toList ≠ [108, 105, 116]) (h2 : op.data.toList ≠ [120]) (h3 : op.data.toList ≠ [97, 110, 100]) (h4 : op.data.toList ≠ [111, 114]) (h5 : op.data.toList ≠ [105, 102]) (ht : opTy op.data.toList m ts = (t, 0)) : Made op m ws t := by
  have hl : ∀ c : Int, 0 ≤ c → arS op.data.toList = c → (ts.length : Int) = c := by
    intro c hc e
    rw [e] at hlen
    simp only [decide_eq_true (show c ≥ 0 from hc), decide_eq_false (show ¬ c < 0 by omega), Bool.true_and, Bool.false_and, Bool.or_false] at hlen
    exact bne_f hlen
  unfold Made applyS s_f63
  generalize hop : op.data.toList = o at *
  rcases arS_cases har with rfl | rfl | rfl | rfl | rfl | rfl | rfl | rfl | rfl | rfl | rfl | rfl | rfl | rfl | rfl | rfl | rfl | rfl
  · exact absurd rfl h1
  · exact absurd rfl h2
  · -- at
    obtain ⟨a, s, rfl, rfl, ha⟩ := one_of hw (by have := hl 1 (by omega) rfl; omega)
    have ht : (bif s.kind != 4 then (zT, (5 : Int)) else bif decide (m < 0) then (zT, (1 : Int)) else bif decide (m ≥ (s.of.length : Int)) then (zT, (1 : Int)) else (th s.of m.toNat, (0 : Int))) = (t, 0) := ht
    cases c1 : s.kind != 4 with
    | true => rw [c1] at ht; simp at ht
    | false =>
      cases c2 : decide (m < 0) with
      | true => rw [c1, c2] at ht; simp at ht
      | false =>
        cases c3 : decide (m ≥ (s.of.length : Int)) with
        | true => rw [c1, c2, c3] at ht; simp at ht
        | false =>
          rw [c1, c2, c3] at ht
          simp only [cond_false, Prod.mk.injEq, and_true] at ht
          have c2 := of_decide_eq_false c2
          have c3 := of_decide_eq_false c3
          obtain ⟨w, q1, q2⟩ := ok_part ha (bne_f c1) (j := m.toNat) (by omega)
          refine ⟨w, 0, ?_, ?_, fun _ => ht ▸ q2, fun q => absurd rfl q⟩
          · simp only [if_true, if_pos (show 0 ≤ m by omega), q1]
          · exact Ev.t rfl (Ev.bindc rfl (Ev.g (by omega) (Ev.bindc q1 (Ev.mk _))))
  · -- neg
    obtain ⟨a, s, rfl, rfl, ha⟩ := one_of hw (by have := hl 1 (by omega) rfl; omega)
    obtain ⟨_, rfl⟩ := allK1 (show allK 1 [s] (.mk 1 []) = (t, 0) from ht)
    exact ⟨_, 0, by simp [oneS, hop], Ev.bindc rfl (Ev.mk _), fun _ => ok_int _, fun q => absurd rfl q⟩
  · -- not
    obtain ⟨a, s, rfl, rfl, ha⟩ := one_of hw (by have := hl 1 (by omega) rfl; omega)
    obtain ⟨_, rfl⟩ := allK1 (show allK 2 [s] (.mk 2 []) = (t, 0) from ht)
    exact ⟨_, 0, by simp [oneS, hop], Ev.bindc rfl (Ev.mk _), fun _ => ok_bool _, fun q => absurd rfl q⟩
  · -- len
    obtain ⟨a, s, rfl, rfl, ha⟩ := one_of hw (by have := hl 1 (by omega) rfl; omega)
    obtain ⟨_, rfl⟩ := allK1 (show allK 3 [s] (.mk 1 []) = (t, 0) from ht)
    exact ⟨_, 0, by simp [oneS, hop], Ev.bindc rfl (Ev.mk _), fun _ => ok_int _, fun q => absurd rfl q⟩
  · -- add
    obtain ⟨a, b, s, s', rfl, rfl, ha, hb⟩ := two_of hw (by have := hl 2 (by omega) rfl; omega)
    obtain ⟨_, _, rfl⟩ := allK2 (show allK 1 [s, s'] (.mk 1 []) = (t, 0) from ht)
    exact ⟨_, 0, by simp [bothS, hop], Ev.bindc rfl (Ev.bindc rfl (Ev.mk _)), fun _ => ok_int _, fun q => absurd rfl q⟩
  · -- sub
    obtain ⟨a, b, s, s', rfl, rfl, ha, hb⟩ := two_of hw (by have := hl 2 (by omega) rfl; omega)
    obtain ⟨_, _, rfl⟩ := allK2 (show allK 1 [s, s'] (.mk 1 []) = (t, 0) from ht)
    exact ⟨_, 0, by simp [bothS, hop], Ev.bindc rfl (Ev.bindc rfl (Ev.mk _)), fun _ => ok_int _, fun q => absurd rfl q⟩
  · -- mul
    obtain ⟨a, b, s, s', rfl, rfl, ha, hb⟩ := two_of hw (by have := hl 2 (by omega) rfl; omega)
    obtain ⟨_, _, rfl⟩ := allK2 (show allK 1 [s, s'] (.mk 1 []) = (t, 0) from ht)
    exact ⟨_, 0, by simp [bothS, hop], Ev.bindc rfl (Ev.bindc rfl (Ev.mk _)), fun _ => ok_int _, fun q => absurd rfl q⟩
  · -- div
    obtain ⟨a, b, s, s', rfl, rfl, ha, hb⟩ := two_of hw (by have := hl 2 (by omega) rfl; omega)
    obtain ⟨_, _, rfl⟩ := allK2 (show allK 1 [s, s'] (.mk 1 []) = (t, 0) from ht)
    by_cases h0 : b.i = 0
    · exact ⟨zeroV, 8, by simp [bothS, hop, h0], Ev.bindc rfl (Ev.t (by simp [h0]) (Ev.mk _)), (fun q => by cases q), fun _ => rfl⟩
    · refine ⟨.mk 1 (W64 (a.i.tdiv b.i)) false ⟨#[]⟩ [], 0, by simp [bothS, hop, h0], ?_, fun _ => ok_int _, fun q => absurd rfl q⟩
      refine Ev.bindc rfl (Ev.f (by simpa using h0) (Ev.bindc rfl ?_))
      by_cases h6 : b.i = -1
      · refine Ev.t (by simp [h6]) (Ev.t rfl (Ev.bindc rfl ((Ev.mk _).congr ?_)))
        rw [h6, show a.i.tdiv (-1) = 0 - a.i by rw [Int.tdiv_neg, Int.tdiv_one]; omega]
      · exact Ev.f (by simpa using h6) (Ev.t rfl (Ev.bindc rfl (Ev.bindc rfl (Ev.g h0 (Ev.mk _)))))
  · -- rem
    obtain ⟨a, b, s, s', rfl, rfl, ha, hb⟩ := two_of hw (by have := hl 2 (by omega) rfl; omega)
    obtain ⟨_, _, rfl⟩ := allK2 (show allK 1 [s, s'] (.mk 1 []) = (t, 0) from ht)
    by_cases h0 : b.i = 0
    · exact ⟨zeroV, 8, by simp [bothS, hop, h0], Ev.bindc rfl (Ev.t (by simp [h0]) (Ev.mk _)), (fun q => by cases q), fun _ => rfl⟩
    · refine ⟨.mk 1 (a.i.tmod b.i) false ⟨#[]⟩ [], 0, by simp [bothS, hop, h0], ?_, fun _ => ok_int _, fun q => absurd rfl q⟩
      refine Ev.bindc rfl (Ev.f (by simpa using h0) (Ev.bindc rfl ?_))
      by_cases h6 : b.i = -1
      · refine Ev.t (by simp [h6]) (Ev.f rfl ((Ev.mk _).congr ?_))
        rw [h6, show a.i.tmod (-1) = 0 by rw [Int.tmod_neg, Int.tmod_one]]
      · exact Ev.f (by simpa using h6) (Ev.f rfl (Ev.bindc rfl (Ev.bindc rfl (Ev.g h0 (Ev.mk _)))))
  · -- eq
    obtain ⟨a, b, s, s', rfl, rfl, ha, hb⟩ := two_of hw (by have := hl 2 (by omega) rfl; omega)
    have ht : (bif !(sameT s s') then (zT, 5) else ((.mk 2 [] : Ty), (0 : Int))) = (t, 0) := ht
    cases c1 : !(sameT s s') with
    | true => rw [c1] at ht; simp at ht
    | false =>
      rw [c1] at ht
      simp at ht
      exact ⟨_, 0, by simp [bothS, hop], Ev.bindc rfl (Ev.bindc rfl (Ev.bind (e25 a b ha.bd) (Ev.mk _))), fun _ => ht ▸ ok_bool _, fun q => absurd rfl q⟩
  · -- lt
    obtain ⟨a, b, s, s', rfl, rfl, ha, hb⟩ := two_of hw (by have := hl 2 (by omega) rfl; omega)
    have ht : (bif !(sameT s s') then (zT, 5) else ((.mk 2 [] : Ty), (0 : Int))) = (t, 0) := ht
    cases c1 : !(sameT s s') with
    | true => rw [c1] at ht; simp at ht
    | false =>
      rw [c1] at ht
      simp at ht
      exact ⟨_, 0, by simp [bothS, hop], Ev.bindc rfl (Ev.bindc rfl (Ev.bind (e64 a b ha.bd) (Ev.mk _))), fun _ => ht ▸ ok_bool _, fun q => absurd rfl q⟩
  · exact absurd rfl h3
  · exact absurd rfl h4
  · -- cat
    obtain ⟨a, b, s, s', rfl, rfl, ha, hb⟩ := two_of hw (by have := hl 2 (by omega) rfl; omega)
    obtain ⟨_, _, rfl⟩ := allK2 (show allK 3 [s, s'] (.mk 3 []) = (t, 0) from ht)
    have l1 := ha.text
    have l2 := hb.text
    by_cases h6 : 255 < a.s.size + b.s.size
    · refine ⟨zeroV, 4, by simp [bothS, hop, h6]; omega, Ev.bindc rfl (Ev.bindc rfl (Ev.g (by omega) (Ev.t ?_ (Ev.mk _)))), (fun q => by cases q), fun _ => rfl⟩
      rw [ByteArray.size_append]; exact decide_eq_true (by omega)
    · refine ⟨.mk 3 0 false (a.s ++ b.s) [], 0, by simp [bothS, hop, h6]; omega, Ev.bindc rfl (Ev.bindc rfl (Ev.g (by omega) (Ev.f ?_ (Ev.mk _)))), fun _ => ok_text _ (by rw [ByteArray.size_append]; omega), fun q => absurd rfl q⟩
      rw [ByteArray.size_append]; exact decide_eq_false (by omega)
  · exact absurd rfl h5
  · -- tup
    have ht : (bif ckT (.mk 4 ts) 0 != 0 then (zT, 9) else ((.mk 4 ts : Ty), (0 : Int))) = (t, 0) := ht
    cases c1 : ckT (.mk 4 ts) 0 != 0 with
    | true => rw [c1] at ht; simp at ht
    | false =>
      rw [c1] at ht
      simp at ht
      subst ht
      have c1 := bne_f c1
      obtain ⟨q1, q2, _, _⟩ := ckT_tup rfl c1
      have ql := hw.len
      obtain ⟨q3, q4⟩ := hw.lf
      cases ws with
      | nil => have q5 : ts = [] := List.eq_nil_of_length_eq_zero (by simpa using ql.symm); exact absurd q5 q1
      | cons w ws =>
        refine ⟨.mk 4 0 false ⟨#[]⟩ (w :: ws), 0, ?_, Ev.f rfl (Ev.t rfl (Ev.g (by omega) (Ev.mk _))), fun _ => ⟨?_, by simp only [tyV, q4], c1⟩, fun q => absurd rfl q⟩
        · simp at ql
          simp
          omega
        · exact ⟨rfl, rfl, Nat.zero_le _, q3⟩
end Go.Proofs.Ytbcjcekoonebiaa.Tl

set_option linter.unusedVariables false
set_option linter.unusedSimpArgs false
namespace Go.Proofs.Ytbcjcekoonebiaa.Tl
open Go Go.RowKit
def Res (e : Ex) (x : Val) (t : Ty) : Prop := ∃ w h, evalS e x = some (w, h) ∧ Ev (fun n => s_f24 n e x) (w, h) ∧ (h = 0 → OKv w t) ∧ (h ≠ 0 → w = zeroV)
def Ress : List Ex → Val → List Ty → Prop
  | [], _, [] => True
  | e :: r, x, t :: ts => Res e x t ∧ Ress r x ts
  | _, _, _ => False
theorem Ress.len : ∀ {l : List Ex} {x : Val} {ts : List Ty}, Ress l x ts → l.length = ts.length
  | [], _, [], _ => rfl
  | [], _, _ :: _, h => by simp [Ress] at h
  | _ :: _, _, [], h => by simp [Ress] at h
  | _ :: _, _, _ :: _, h => by simp only [List.length_cons, Ress.len h.2]

theorem loopR (op : ByteArray) (v : Val) (m : Int) (a : List Ex) (x : Val) (ha : a.length ≤ 1000) : ∀ (r : List Ex) (rt : List Ty) (acc : List Val) (j : Nat), a.drop j = r → acc.length = j → Ress r x rt →
    ∃ ws g, allS r x = some (ws, g) ∧ (g = 0 → OKvs ws rt) ∧ ∀ M : Val × Int, (g = 0 → Ev (fun n => s_f63 n op m (acc ++ ws)) M) → Ev (fun n => s_f24_l1 n (.mk op v m a) x acc j) (if g = 0 then M else (zeroV, g))
  | [], [], acc, j, h, hj, hr => by
    refine ⟨[], 0, rfl, fun _ => trivial, fun M hM => Ev.succ ?_⟩
    have hM := hM rfl
    rw [List.append_nil] at hM
    simp only [s_f24_l1, Ex.a, Ex.op, Ex.n, if_true]
    exact Ev.f (cj_f (drop_n h)) (Ev.bind hM (Ev.mk _))
  | [], _ :: _, acc, j, h, hj, hr => by simp [Ress] at hr
  | _ :: _, [], acc, j, h, hj, hr => by simp [Ress] at hr
  | e :: r, t :: rt, acc, j, h, hj, hr => by
    obtain ⟨hlt, hx, hd⟩ := drop_c h
    obtain ⟨⟨w, f, h1, h2, h3, h4⟩, hr⟩ := hr
    obtain ⟨ws, g, k1, k2, k3⟩ := loopR op v m a x ha r rt (acc ++ [w]) (j + 1) hd (by simp [hj]) hr
    by_cases hf : f = 0
    · subst hf
      by_cases hg : g = 0
      · subst hg
        refine ⟨w :: ws, 0, by simp [allS, h1, k1], fun _ => ⟨h3 rfl, k2 rfl⟩, fun M hM => Ev.succ ?_⟩
        have hk := k3 M (fun _ => by simpa using hM rfl)
        simp only [s_f24_l1, Ex.a]
        exact Ev.t (cj_t hlt) (Ev.bindc hx (Ev.bind h2 (Ev.f rfl (Ev.g (by omega) hk))))
      · refine ⟨[], g, by simp [allS, h1, k1, hg], fun q => absurd q hg, fun M hM => Ev.succ ?_⟩
        have hk := k3 M (fun q => absurd q hg)
        simp only [s_f24_l1, Ex.a]
        exact Ev.t (cj_t hlt) (Ev.bindc hx (Ev.bind h2 (Ev.f rfl (Ev.g (by omega) hk))))
    · refine ⟨[], f, by simp [allS, h1, hf], fun q => absurd q hf, fun M hM => Ev.succ ?_⟩
      simp only [s_f24_l1, Ex.a, if_neg hf]
      exact Ev.t (cj_t hlt) (Ev.bindc hx (Ev.bind h2 (Ev.t (by simpa using hf) (Ev.mk _))))

theorem bif_zt {c : Bool} {e : Int} {p : Ty × Int} {t : Ty} (h : (bif c then (zT, e) else p) = (t, 0)) (he : e ≠ 0) : c = false ∧ p = (t, 0) := by
  cases c with
  | true => simp only [cond_true, Prod.mk.injEq] at h; exact absurd h.2 he
  | false => exact ⟨rfl, h⟩

theorem lazy {op : ByteArray} {v : Val} {m : Int} {a : List Ex} {x : Val} {ts : List Ty} {t : Ty} (hop : op.data.toList = [97, 110, 100] ∨ op.data.toList = [111, 114] ∨ op.data.toList = [105, 102]) (hr : Ress a x ts)
    (hlen : (((decide (arS op.data.toList ≥ 0)) && ((a.length : Int) != arS op.data.toList)) || ((decide (arS op.data.toList < 0)) && ((decide ((a.length : Int) < 1)) || (decide ((a.length : Int) > 8))))) = false) (ht : opTy op.data.toList m ts = (t, 0)) : Res (.mk op v m a) x t := by
  have hal : ∀ c : Int, 0 ≤ c → arS op.data.toList = c → (a.length : Int) = c := by
    intro c hc e
    rw [e] at hlen
    simp only [decide_eq_true (show c ≥ 0 from hc), decide_eq_false (show ¬ c < 0 by omega), Bool.true_and, Bool.false_and, Bool.or_false] at hlen
    exact bne_f hlen
  have hl2 := hr.len
  rcases hop with hop | hop | hop
  · have h2 := hal 2 (by omega) (by rw [hop]; rfl)
    rw [hop] at ht
    rcases a with _ | ⟨e0, _ | ⟨e1, _ | ⟨e2, a⟩⟩⟩ <;> simp at h2
    · rcases ts with _ | ⟨t0, _ | ⟨t1, _ | ⟨t2, ts⟩⟩⟩ <;> simp at hl2
      obtain ⟨⟨w, f, q1, q2, q3, q4⟩, ⟨w', f', r1, r2, r3, r4⟩, _⟩ := hr
      obtain ⟨c1, c2, rfl⟩ := allK2 (show allK 2 [t0, t1] (.mk 2 []) = (t, 0) from ht)
      by_cases hf : f = 0
      · subst hf
        have q3 := q3 rfl
        have ht0 := ok_plain q3 (by omega)
        rw [c1] at ht0
        cases hb : w.b with
        | true =>
          refine ⟨w', f', ?_, Ev.succ ?_, fun q => ?_, r4⟩
          · simp [evalS, hop, isLazy, nthS, q1, chooseS, hb, r1]
          · simp only [s_f24, Ex.op, Ex.a, hop]
            exact Ev.f rfl (Ev.f rfl (Ev.bindc rfl (Ev.bind q2 (Ev.f rfl (Ev.t rfl (Ev.f (by simp [hb]) (Ev.bindc rfl (Ev.bind r2 (Ev.mk _)))))))))
          · have := r3 q
            rw [ok_plain this (by omega), c2] at this
            exact this
        | false =>
          refine ⟨w, 0, ?_, Ev.succ ?_, fun q => ht0 ▸ q3, fun q => absurd rfl q⟩
          · simp [evalS, hop, isLazy, nthS, q1, chooseS, hb]
          · simp only [s_f24, Ex.op, Ex.a, hop]
            exact Ev.f rfl (Ev.f rfl (Ev.bindc rfl (Ev.bind q2 (Ev.f rfl (Ev.t rfl (Ev.t (by simp [hb]) (Ev.mk _)))))))
      · have q4 := q4 hf
        subst q4
        refine ⟨zeroV, f, ?_, Ev.succ ?_, fun q => absurd q hf, fun _ => rfl⟩
        · simp [evalS, hop, isLazy, nthS, q1, hf]
        · simp only [s_f24, Ex.op, Ex.a, hop]
          exact Ev.f rfl (Ev.f rfl (Ev.bindc rfl (Ev.bind q2 (Ev.t (by simpa using hf) (Ev.mk _)))))
    · omega
  · have h2 := hal 2 (by omega) (by rw [hop]; rfl)
    rw [hop] at ht
    rcases a with _ | ⟨e0, _ | ⟨e1, _ | ⟨e2, a⟩⟩⟩ <;> simp at h2
    · rcases ts with _ | ⟨t0, _ | ⟨t1, _ | ⟨t2, ts⟩⟩⟩ <;> simp at hl2
      obtain ⟨⟨w, f, q1, q2, q3, q4⟩, ⟨w', f', r1, r2, r3, r4⟩, _⟩ := hr
      obtain ⟨c1, c2, rfl⟩ := allK2 (show allK 2 [t0, t1] (.mk 2 []) = (t, 0) from ht)
      by_cases hf : f = 0
      · subst hf
        have q3 := q3 rfl
        have ht0 := ok_plain q3 (by omega)
        rw [c1] at ht0
        cases hb : w.b with
        | false =>
          refine ⟨w', f', ?_, Ev.succ ?_, fun q => ?_, r4⟩
          · simp [evalS, hop, isLazy, nthS, q1, chooseS, hb, r1]
          · simp only [s_f24, Ex.op, Ex.a, hop]
            exact Ev.f rfl (Ev.f rfl (Ev.bindc rfl (Ev.bind q2 (Ev.f rfl (Ev.f rfl (Ev.t rfl (Ev.f hb (Ev.bindc rfl (Ev.bind r2 (Ev.mk _))))))))))
          · have := r3 q
            rw [ok_plain this (by omega), c2] at this
            exact this
        | true =>
          refine ⟨w, 0, ?_, Ev.succ ?_, fun q => ht0 ▸ q3, fun q => absurd rfl q⟩
          · simp [evalS, hop, isLazy, nthS, q1, chooseS, hb]
          · simp only [s_f24, Ex.op, Ex.a, hop]
            exact Ev.f rfl (Ev.f rfl (Ev.bindc rfl (Ev.bind q2 (Ev.f rfl (Ev.f rfl (Ev.t rfl (Ev.t hb (Ev.mk _))))))))
      · have q4 := q4 hf
        subst q4
        refine ⟨zeroV, f, ?_, Ev.succ ?_, fun q => absurd q hf, fun _ => rfl⟩
        · simp [evalS, hop, isLazy, nthS, q1, hf]
        · simp only [s_f24, Ex.op, Ex.a, hop]
          exact Ev.f rfl (Ev.f rfl (Ev.bindc rfl (Ev.bind q2 (Ev.t (by simpa using hf) (Ev.mk _)))))
    · omega
  · have h2 := hal 3 (by omega) (by rw [hop]; rfl)
    rw [hop] at ht
    rcases a with _ | ⟨e0, _ | ⟨e1, _ | ⟨e2, _ | ⟨e3, a⟩⟩⟩⟩ <;> simp at h2
    · rcases ts with _ | ⟨t0, _ | ⟨t1, _ | ⟨t2, _ | ⟨t3, ts⟩⟩⟩⟩ <;> simp at hl2
      obtain ⟨⟨w, f, q1, q2, q3, q4⟩, ⟨w', f', r1, r2, r3, r4⟩, ⟨w2, f2, p1, p2, p3, p4⟩, _⟩ := hr
      have ht : (bif t0.kind != 2 then (zT, (5 : Int)) else bif !(sameT t1 t2) then (zT, (5 : Int)) else (t1, (0 : Int))) = (t, 0) := ht
      obtain ⟨c1, ht⟩ := bif_zt ht (by omega)
      obtain ⟨c2, ht⟩ := bif_zt ht (by omega)
      simp only [Prod.mk.injEq, and_true] at ht
      subst ht
      have c2 := (sameT_eq t1 t2).1 (by simpa using c2)
      by_cases hf : f = 0
      · subst hf
        cases hb : w.b with
        | true =>
          refine ⟨w', f', ?_, Ev.succ ?_, r3, r4⟩
          · simp [evalS, hop, isLazy, nthS, q1, chooseS, hb, r1]
          · simp only [s_f24, Ex.op, Ex.a, hop]
            exact Ev.f rfl (Ev.f rfl (Ev.bindc rfl (Ev.bind q2 (Ev.f rfl (Ev.f rfl (Ev.f rfl (Ev.t rfl (Ev.t hb (Ev.bindc rfl (Ev.bind r2 (Ev.mk _)))))))))))
        | false =>
          refine ⟨w2, f2, ?_, Ev.succ ?_, fun q => c2 ▸ p3 q, p4⟩
          · simp [evalS, hop, isLazy, nthS, q1, chooseS, hb, p1]
          · simp only [s_f24, Ex.op, Ex.a, hop]
            exact Ev.f rfl (Ev.f rfl (Ev.bindc rfl (Ev.bind q2 (Ev.f rfl (Ev.f rfl (Ev.f rfl (Ev.t rfl (Ev.f hb (Ev.bindc rfl (Ev.bind p2 (Ev.mk _)))))))))))
      · have q4 := q4 hf
        subst q4
        refine ⟨zeroV, f, ?_, Ev.succ ?_, fun q => absurd q hf, fun _ => rfl⟩
        · simp [evalS, hop, isLazy, nthS, q1, hf]
        · simp only [s_f24, Ex.op, Ex.a, hop]
          exact Ev.f rfl (Ev.f rfl (Ev.bindc rfl (Ev.bind q2 (Ev.t (by simpa using hf) (Ev.mk _)))))
    · omega

theorem eager {op : ByteArray} {v : Val} {m : Int} {a : List Ex} {x : Val} {ts : List Ty} {t : Ty} (h1 : op.data.toList ≠ [108, 105, 116]) (h2 : op.data.toList ≠ [120]) (h3 : op.data.toList ≠ [97, 110, 100]) (h4 : op.data.toList ≠ [111, 114]) (h5 : op.data.toList ≠ [105, 102]) (har : arS op.data.toList ≠ -2)
    (hr : Ress a x ts) (ha : a.length ≤ 12)
    (hlen : (((decide (arS op.data.toList ≥ 0)) && ((a.length : Int) != arS op.data.toList)) || ((decide (arS op.data.toList < 0)) && ((decide ((a.length : Int) < 1)) || (decide ((a.length : Int) > 8))))) = false) (ht : opTy op.data.toList m ts = (t, 0)) : Res (.mk op v m a) x t := by
  have hz : isLazy op = false := by
    simp only [isLazy, beq_false_of_ne h3, beq_false_of_ne h4, beq_false_of_ne h5, Bool.or_self]
  have hl2 := hr.len
  have hne : a ≠ [] := by
    rintro rfl
    rcases arS_cases har with q | q | q | q | q | q | q | q | q | q | q | q | q | q | q | q | q | q
    all_goals first
      | (exact absurd q h1) | (exact absurd q h2)
      | (rw [q] at hlen; exact absurd hlen (by decide))
  cases a with
  | nil => exact absurd rfl hne
  | cons e0 r =>
    cases ts with
    | nil => simp at hl2
    | cons t0 rt =>
      obtain ⟨⟨w, f, q1, q2, q3, q4⟩, hr'⟩ := hr
      obtain ⟨ws, g, k1, k2, k3⟩ := loopR op v m (e0 :: r) x (by omega) r rt [w] 1 rfl rfl hr'
      have c1 := beq_false_of_ne h1
      have c2 := beq_false_of_ne h2
      have c3 := beq_false_of_ne h3
      have c4 := beq_false_of_ne h4
      have c5 := beq_false_of_ne h5
      by_cases hf : f = 0
      · subst hf
        by_cases hg : g = 0
        · subst hg
          obtain ⟨w2, f2, m1, m2, m3, m4⟩ := made (op := op) (m := m) (ws := w :: ws) (ts := t0 :: rt) ⟨q3 rfl, k2 rfl⟩ har (by rw [← hl2]; exact hlen) h1 h2 h3 h4 h5 ht
          refine ⟨w2, f2, ?_, Ev.succ ?_, m3, m4⟩
          · simp only [evalS, if_neg h1, if_neg h2, hz, Bool.false_eq_true, if_false]
            rw [if_pos (by omega)]
            simp only [allS, q1, if_true, k1]
            exact m1
          · simp only [s_f24, Ex.op, Ex.a]
            exact Ev.f c1 (Ev.f c2 (Ev.bindc rfl (Ev.bind q2 (Ev.f rfl (Ev.f c3 (Ev.f c4 (Ev.f c5 (by simpa using k3 (w2, f2) (fun _ => m2)))))))))
        · refine ⟨zeroV, g, ?_, Ev.succ ?_, fun q => absurd q hg, fun _ => rfl⟩
          · simp only [evalS, if_neg h1, if_neg h2, hz, Bool.false_eq_true, if_false]
            rw [if_pos (by omega)]
            simp only [allS, q1, if_true, k1, if_neg hg]
          · simp only [s_f24, Ex.op, Ex.a]
            exact Ev.f c1 (Ev.f c2 (Ev.bindc rfl (Ev.bind q2 (Ev.f rfl (Ev.f c3 (Ev.f c4 (Ev.f c5 (by simpa [hg] using k3 (zeroV, 0) (fun q => absurd q hg)))))))))
      · refine ⟨zeroV, f, ?_, Ev.succ ?_, fun q => absurd q hf, fun _ => rfl⟩
        · simp only [evalS, if_neg h1, if_neg h2, hz, Bool.false_eq_true, if_false]
          rw [if_pos (by omega)]
          simp only [allS, q1, if_neg hf]
        · simp only [s_f24, Ex.op, Ex.a]
          exact Ev.f c1 (Ev.f c2 (Ev.bindc rfl (Ev.bind q2 (Ev.t (by simpa using hf) (Ev.mk _)))))

mutual
theorem sound : ∀ (e : Ex) (ty : Ty) (d : Int) (t : Ty) (x : Val), BdE e → OKv x ty → ckE e ty d = (t, 0) → Res e x t
  | .mk o v m a, ty, d, t, x, hb, hx, h => by
    simp only [ckE] at h
    obtain ⟨c1, h⟩ := bif_zt h (by omega)
    obtain ⟨c2, h⟩ := bif_zt h (by omega)
    obtain ⟨c3, h⟩ := bif_zt h (by omega)
    obtain ⟨c4, h⟩ := bif_zt h (by omega)
    have har : arS o.data.toList ≠ -2 := by simpa using c1
    by_cases h1 : o.data.toList = [108, 105, 116]
    · rw [show (o.data.toList == [108, 105, 116]) = true by simpa using h1] at h
      simp only [cond_true] at h
      by_cases hv : ckV v 0 = 0
      · rw [hv] at h
        simp at h
        subst h
        obtain ⟨q1, q2⟩ := (ckV_lf v 0).1 hv
        refine ⟨v, 0, by simp [evalS, h1], Ev.succ ?_, fun _ => ⟨q1, rfl, q2⟩, fun q => absurd rfl q⟩
        simp only [s_f24, Ex.op, Ex.v]
        exact Ev.t (by simpa using h1) (Ev.mk _)
      · rw [show (ckV v 0 != 0) = true by simpa using hv] at h
        simp only [cond_true, Prod.mk.injEq] at h
        exact absurd h.2 hv
    · rw [show (o.data.toList == [108, 105, 116]) = false from beq_false_of_ne h1] at h
      simp only [cond_false] at h
      by_cases h2 : o.data.toList = [120]
      · rw [show (o.data.toList == [120]) = true by simpa using h2] at h
        simp only [cond_true, Prod.mk.injEq, and_true] at h
        subst h
        refine ⟨x, 0, by simp [evalS, h2], Ev.succ ?_, fun _ => hx, fun q => absurd rfl q⟩
        simp only [s_f24, Ex.op]
        exact Ev.f (beq_false_of_ne h1) (Ev.t (by simpa using h2) (Ev.mk _))
      · rw [show (o.data.toList == [120]) = false from beq_false_of_ne h2] at h
        simp only [cond_false] at h
        by_cases hp : (ckEs a ty (d + 1)).2 = 0
        · rw [hp] at h
          simp only [bne_self_eq_false, cond_false] at h
          have hr := sounds a ty (d + 1) x hb.2.2 hx hp
          by_cases hop : o.data.toList = [97, 110, 100] ∨ o.data.toList = [111, 114] ∨ o.data.toList = [105, 102]
          · exact lazy hop hr c3 h
          · simp only [not_or] at hop
            exact eager h1 h2 hop.1 hop.2.1 hop.2.2 har hr hb.1 c3 h
        · rw [show ((ckEs a ty (d + 1)).2 != 0) = true by simpa using hp] at h
          simp only [cond_true, Prod.mk.injEq] at h
          exact absurd h.2 hp
theorem sounds : ∀ (l : List Ex) (ty : Ty) (d : Int) (x : Val), BdEs l → OKv x ty → (ckEs l ty d).2 = 0 → Ress l x (ckEs l ty d).1
  | [], ty, d, x, hb, hx, h => trivial
  | e :: r, ty, d, x, hb, hx, h => by
    simp only [ckEs] at h ⊢
    by_cases h1 : (ckE e ty d).2 = 0
    · rw [h1] at h ⊢
      simp only [bne_self_eq_false, cond_false] at h ⊢
      by_cases h2 : (ckEs r ty d).2 = 0
      · rw [h2]
        simp only [bne_self_eq_false, cond_false]
        exact ⟨sound e ty d _ x hb.1 hx (by rw [← h1]), sounds r ty d x hb.2 hx h2⟩
      · rw [show ((ckEs r ty d).2 != 0) = true by simpa using h2] at h
        exact absurd h h2
    · rw [show ((ckE e ty d).2 != 0) = true by simpa using h1] at h
      exact absurd h h1
end

end Go.Proofs.Ytbcjcekoonebiaa.Tl

set_option linter.unusedVariables false
set_option linter.unusedSimpArgs false
namespace Go.Proofs.Ytbcjcekoonebiaa.Tl
open Go Go.RowKit
theorem GInst.eta (x : GInst) : GInst.mk x.f0 x.f1 x.f2 = x := by cases x; rfl
/-! ### programs put together -/
def isJ (i : GInst) : Bool := (i.f0.data.toList == [106, 109, 112]) || (i.f0.data.toList == [106, 102])
def mvI (k : Int) (i : GInst) : GInst := bif isJ i then GInst.mk i.f0 i.f1 (IntKind.i64.wrap (i.f2 + k)) else i
def mvP (k : Int) (p : List GInst) : List GInst := p.map (mvI k)
def joinP (p q : List GInst) : List GInst := p ++ mvP (p.length : Int) q
theorem joinP_length (p q : List GInst) : (joinP p q).length = p.length + q.length := by simp [joinP, mvP]
abbrev jfI (k : Int) : GInst := ⟨⟨#[106, 102]⟩, zeroV, k⟩
abbrev jmpI (k : Int) : GInst := ⟨⟨#[106, 109, 112]⟩, zeroV, k⟩
def chooseP (a b c : List GInst) : List GInst := joinP (joinP (a ++ [jfI ((a.length + 1 + b.length + 1 : Nat) : Int)]) b ++ [jmpI ((a.length + 1 + b.length + 1 + c.length : Nat) : Int)]) c
theorem chooseP_length (a b c : List GInst) : (chooseP a b c).length = a.length + 1 + b.length + 1 + c.length := by simp [chooseP, joinP_length]
/-! ### the program of an expression -/
abbrev pushI (v : Val) : GInst := ⟨⟨#[112, 117, 115, 104]⟩, v, 0⟩
def opI (o : ByteArray) (m : Int) (k : Nat) : GInst :=
  bif o.data.toList == [97, 116] then ⟨⟨#[97, 116]⟩, zeroV, m⟩ else bif o.data.toList == [116, 117, 112] then ⟨⟨#[116, 117, 112]⟩, zeroV, (k : Int)⟩ else ⟨o, zeroV, 0⟩
def genO (o : ByteArray) (v : Val) (m : Int) (k : Nat) (ps : List (List GInst)) : List GInst :=
  bif o.data.toList == [108, 105, 116] then [pushI v]
  else bif o.data.toList == [120] then [⟨⟨#[120]⟩, zeroV, 0⟩]
  else bif o.data.toList == [97, 110, 100] then chooseP (ps.getD 0 []) (ps.getD 1 []) [pushI (.mk 2 0 false ⟨#[]⟩ [])]
  else bif o.data.toList == [111, 114] then chooseP (ps.getD 0 []) [pushI (.mk 2 0 true ⟨#[]⟩ [])] (ps.getD 1 [])
  else bif o.data.toList == [105, 102] then chooseP (ps.getD 0 []) (ps.getD 1 []) (ps.getD 2 [])
  else ps.foldl joinP [] ++ [opI o m k]
mutual
def genE : Ex → List GInst
  | .mk o v m a => genO o v m a.length (genEs a)
def genEs : List Ex → List (List GInst)
  | [] => []
  | e :: r => genE e :: genEs r
end
def lenL : List (List GInst) → Nat
  | [] => 0
  | g :: r => g.length + lenL r
def ArN (o : List UInt8) (k : Nat) : Prop := arS o ≠ -2 ∧ (0 ≤ arS o → (k : Int) = arS o) ∧ (arS o < 0 → 1 ≤ k)
def Gens : List Ex → Prop
  | [] => True
  | e :: r => ((genE e).length ≤ 1000000 → Ev (fun n => s_f52 n e) (genE e)) ∧ Gens r
theorem Gens.get : ∀ {l : List Ex} {j : Nat} {e : Ex}, Gens l → l[j]? = some e → (genE e).length ≤ 1000000 → Ev (fun n => s_f52 n e) (genE e)
  | [], j, e, _, h => by simp at h
  | x :: r, 0, e, hg, h => by simp at h; subst h; exact hg.1
  | x :: r, j + 1, e, hg, h => by
    simp only [List.getElem?_cons_succ] at h
    exact Gens.get hg.2 h
theorem ArN.eq {o : List UInt8} {k : Nat} (h : ArN o k) {c : Nat} (hc : arS o = (c : Int)) : k = c := by have := h.2.1 (by omega); omega
theorem chooseP_pos (a b c : List GInst) : 1 ≤ (chooseP a b c).length := by rw [chooseP_length]; omega
theorem genE_pos : ∀ e : Ex, 1 ≤ (genE e).length
  | .mk o v m a => by
    simp only [genE, genO]
    cases o.data.toList == [108, 105, 116] <;> cases o.data.toList == [120] <;> cases o.data.toList == [97, 110, 100] <;> cases o.data.toList == [111, 114] <;> cases o.data.toList == [105, 102] <;> simp only [cond_true, cond_false, List.length_cons, List.length_nil, List.length_append] <;> first | omega | exact chooseP_pos _ _ _
theorem ArN.le {o : List UInt8} {k : Nat} (h : ArN o k) (hn : arS o ≠ -1) : k ≤ 3 := by
  have h1 : arS o ≤ 3 ∧ (0 ≤ arS o ∨ arS o = -1 ∨ arS o = -2) := by
    rcases arS_cases h.1 with e | e | e | e | e | e | e | e | e | e | e | e | e | e | e | e | e | e <;> (subst e; decide)
  rcases h1.2 with h2 | h2 | h2
  · have := h.2.1 h2; omega
  · exact absurd h2 hn
  · exact absurd h2 h.1
end Go.Proofs.Ytbcjcekoonebiaa.Tl

set_option linter.unusedVariables false
set_option linter.unusedSimpArgs false
namespace Go.Proofs.Ytbcjcekoonebiaa.Tl
open Go Go.RowKit
end Go.Proofs.Ytbcjcekoonebiaa.Tl

set_option linter.unusedVariables false
set_option linter.unusedSimpArgs false
namespace Go.Proofs.Ytbcjcekoonebiaa.Tl
open Go Go.RowKit
/-! ### where a program stands -/
def At (p : List GInst) (j : Nat) (q : List GInst) : Prop := j + q.length ≤ p.length ∧ ∀ (k : Nat) (i : GInst), q[k]? = some i → p[j + k]? = some (mvI (j : Int) i)
theorem At.left {p : List GInst} {j : Nat} {a b : List GInst} (h : At p j (a ++ b)) : At p j a := by
  refine ⟨by have := h.1; simp at this; omega, fun k i hk => h.2 k i ?_⟩
  have hlt : k < a.length := (List.getElem?_eq_some_iff.1 hk).1
  rw [List.getElem?_append_left hlt]
  exact hk
def Ats (p : List GInst) : Nat → List (List GInst) → Prop
  | _, [] => True
  | j, g :: r => At p j g ∧ Ats p (j + g.length) r
/-! ### runs -/
abbrev RunsTo (p : List GInst) (x : Val) (j : Nat) (st out : List Val) (R : List Val × Int) : Prop := ∀ v, Ev (RunF p x j st out v) R
def Goes (g : List GInst) (x w : Val) (h : Int) : Prop :=
  ∀ (p : List GInst) (j : Nat) (st out : List Val) (R : List Val × Int), At p j g → p.length ≤ 1000000 → out.length + st.length + g.length + 1 ≤ 1000000 →
    (h = 0 → RunsTo p x (j + g.length) (st ++ [w]) out R) → (h ≠ 0 → R = ([], h)) → RunsTo p x j st out R
def GoesL (gs : List (List GInst)) (x : Val) (ws : List Val) (h : Int) : Prop :=
  ∀ (p : List GInst) (j : Nat) (st out : List Val) (R : List Val × Int), Ats p j gs → p.length ≤ 1000000 → out.length + st.length + lenL gs + 1 ≤ 1000000 →
    (h = 0 → RunsTo p x (j + lenL gs) (st ++ ws) out R) → (h ≠ 0 → R = ([], h)) → RunsTo p x j st out R
theorem goes_nil (x : Val) : GoesL [] x [] 0 := fun p j st out R hA hp hs k1 k2 => by
  have := k1 rfl
  simpa [lenL] using this
theorem goes_cons {g : List GInst} {gs : List (List GInst)} {x w : Val} {ws : List Val} {h h' : Int} (hg : 1 ≤ g.length) (h1 : Goes g x w h) (h2 : h = 0 → GoesL gs x ws h') : GoesL (g :: gs) x (bif h == 0 then w :: ws else []) (bif h == 0 then h' else h) := by
  intro p j st out R hA hp hs k1 k2
  simp only [lenL] at hs k1
  refine h1 p j st out R hA.1 hp (by omega) (fun hz => ?_) (fun hne => ?_)
  · subst hz
    refine h2 rfl p (j + g.length) (st ++ [w]) out R hA.2 hp (by simp; omega) (fun hz2 => ?_) (fun hne => k2 hne)
    have := k1 hz2
    simp only [beq_self_eq_true, cond_true] at this
    rw [List.append_assoc]
    rw [Nat.add_assoc]
    exact this
  · rw [show (h == 0) = false from beq_false_of_ne hne] at k2
    exact k2 hne

/-! ### what is at the end -/
theorem ba_eq {o : ByteArray} {l : List UInt8} (h : o.data.toList = l) : o = ⟨⟨l⟩⟩ := by
  cases o with
  | mk d => cases d with
    | mk l' => simp at h; subst h; rfl
theorem drop_st (st ws : List Val) : (st ++ ws).drop ((st ++ ws).length - ws.length) = ws := by
  rw [List.length_append, Nat.add_sub_cancel]; simp
theorem take_st (st ws : List Val) : (st ++ ws).take ((st ++ ws).length - ws.length) = st := by
  rw [List.length_append, Nat.add_sub_cancel]; simp
theorem step_op {o : ByteArray} {m : Int} {ws : List Val} {w : Val} {h : Int} (har : ArN o.data.toList ws.length) (h1 : o.data.toList ≠ [108, 105, 116]) (h2 : o.data.toList ≠ [120]) (h3 : o.data.toList ≠ [97, 110, 100]) (h4 : o.data.toList ≠ [111, 114]) (h5 : o.data.toList ≠ [105, 102])
    (ha : applyS o m ws = some (w, h)) (x : Val) (st out : List Val) (hw : ws.length ≤ 1000000) : stepM (opI o m ws.length) x (st ++ ws) out = some (bif h == 0 then st ++ [w] else st, out, h) := by
  have hone : ∀ v : Val, ws = [v] → (o.data.toList = [110, 101, 103] ∨ o.data.toList = [110, 111, 116] ∨ o.data.toList = [108, 101, 110]) → oneS o v = some w → h = 0 → stepM ⟨o, zeroV, 0⟩ x (st ++ ws) out = some (bif h == 0 then st ++ [w] else st, out, h) := by
    rintro v rfl ho h6 rfl
    have d := drop_st st [v]
    have t := take_st st [v]
    simp only [List.length_cons, List.length_nil] at d t
    have h7 : one3 o v = some (w, true) := by simp [one3, h6]
    have hl : 1 ≤ (st ++ [v]).length := by simp
    unfold stepM
    rcases ho with ho | ho | ho <;> (simp only [ho]; simp [hl, h7])
  have htwo : ∀ u v : Val, ws = [u, v] → arS o.data.toList = 2 → bothS o u v = some (w, h) → stepM ⟨o, zeroV, 0⟩ x (st ++ ws) out = some (bif h == 0 then st ++ [w] else st, out, h) := by
    rintro u v rfl ho h6
    have d := drop_st st [u, v]
    have t := take_st st [u, v]
    simp only [List.length_cons, List.length_nil] at d t
    have h7 : both3 o u v = some (w, h, true) := by simp [both3, h6]
    have hl : 2 ≤ (st ++ [u, v]).length := by simp
    have hc : ∀ l : List UInt8, arS l ≠ 2 → (o.data.toList == l) = false := fun l hl => beq_false_of_ne fun e => hl (e ▸ ho)
    unfold stepM
    simp only [hc [112, 117, 115, 104] (by decide), hc [120] (by decide), hc [97, 116] (by decide), hc [116, 117, 112] (by decide), hc [101, 109, 105, 116] (by decide), hc [110, 101, 103] (by decide), hc [110, 111, 116] (by decide), hc [108, 101, 110] (by decide), cond_false]
    rw [if_pos hl, d, t]
    simp only [List.getElem?_cons_zero, List.getElem?_cons_succ, Option.bind_some, h7]
    by_cases hz : h = 0
    · subst hz; rfl
    · rw [show (h != 0) = true by simpa using hz, show (h == 0) = false from beq_false_of_ne hz]; rfl
  by_cases c1 : o.data.toList = [97, 116]
  · obtain rfl := ba_eq c1
    obtain ⟨v, t, w', rfl, hm, hw', hr⟩ := applyS_at ha rfl
    have hk := har.eq (c := 1) rfl
    obtain rfl : t = [] := by cases t <;> simp at hk ⊢
    simp only [Prod.mk.injEq] at hr
    obtain ⟨rfl, rfl⟩ := hr
    have d := drop_st st [v]
    have t := take_st st [v]
    simp only [List.length_cons, List.length_nil] at d t
    show (if 1 ≤ (st ++ [v]).length then (((st ++ [v]).drop ((st ++ [v]).length - 1))[0]?).bind fun y => (if 0 ≤ m then (y.t[m.toNat]?).bind fun z => some ((st ++ [v]).take ((st ++ [v]).length - 1) ++ [z], out, (0 : Int)) else none) else none) = _
    rw [if_pos (by simp), d, t]
    simp only [List.getElem?_cons_zero, Option.bind_some, if_pos hm, hw']
    rfl
  · by_cases c2 : o.data.toList = [116, 117, 112]
    · obtain rfl := ba_eq c2
      obtain ⟨v, t, rfl, hl, hr⟩ := applyS_tup ha (by decide) rfl
      simp only [Prod.mk.injEq] at hr
      obtain ⟨rfl, rfl⟩ := hr
      have d := drop_st st (v :: t)
      have t' := take_st st (v :: t)
      show (if 0 ≤ (((v :: t).length : Nat) : Int) ∧ (((v :: t).length : Nat) : Int).toNat ≤ (st ++ v :: t).length then (tupS ((st ++ v :: t).drop ((st ++ v :: t).length - (((v :: t).length : Nat) : Int).toNat))).bind fun q => some ((st ++ v :: t).take ((st ++ v :: t).length - (((v :: t).length : Nat) : Int).toNat) ++ [q], out, (0 : Int)) else none) = _
      rw [Int.toNat_natCast, if_pos ⟨by omega, by simp⟩, d, t']
      simp only [tupS, if_pos hl, Option.bind_some]
      rfl
    · have e : opI o m ws.length = ⟨o, zeroV, 0⟩ := by
        unfold opI
        rw [beq_false_of_ne c1, beq_false_of_ne c2]
        rfl
      rw [e]
      have one : arS o.data.toList = 1 → (o.data.toList = [110, 101, 103] ∨ o.data.toList = [110, 111, 116] ∨ o.data.toList = [108, 101, 110]) → stepM ⟨o, zeroV, 0⟩ x (st ++ ws) out = some (bif h == 0 then st ++ [w] else st, out, h) := fun hr ho => by
        have hl := har.eq (c := 1) hr
        obtain ⟨v, w', q1, q2, q3⟩ := applyS_one ha c1 c2 hl
        simp only [Prod.mk.injEq] at q3
        obtain ⟨rfl, rfl⟩ := q3
        exact hone v q1 ho q2 rfl
      have two : arS o.data.toList = 2 → stepM ⟨o, zeroV, 0⟩ x (st ++ ws) out = some (bif h == 0 then st ++ [w] else st, out, h) := fun hr => by
        have hl := har.eq (c := 2) hr
        obtain ⟨v, w', t, q1, q2⟩ := applyS_two ha c1 c2 (by omega)
        have : t = [] := by rw [q1] at hl; simp at hl; exact hl
        subst this
        exact htwo v w' q1 hr q2
      rcases arS_cases har.1 with q | q | q | q | q | q | q | q | q | q | q | q | q | q | q | q | q | q
      · exact absurd q h1
      · exact absurd q h2
      · exact absurd q c1
      · exact one (by rw [q]; rfl) (.inl q)
      · exact one (by rw [q]; rfl) (.inr (.inl q))
      · exact one (by rw [q]; rfl) (.inr (.inr q))
      · exact two (by rw [q]; rfl)
      · exact two (by rw [q]; rfl)
      · exact two (by rw [q]; rfl)
      · exact two (by rw [q]; rfl)
      · exact two (by rw [q]; rfl)
      · exact two (by rw [q]; rfl)
      · exact two (by rw [q]; rfl)
      · exact absurd q h3
      · exact absurd q h4
      · exact two (by rw [q]; rfl)
      · exact absurd q h5
      · exact absurd q c2
/-! ### expressions that may be -/
def GRes (e : Ex) (x : Val) (t : Ty) : Prop := ∃ w h, evalS e x = some (w, h) ∧ (h = 0 → OKv w t) ∧ Goes (genE e) x w h
def GRess : List Ex → Val → List Ty → Prop
  | [], _, [] => True
  | e :: r, x, t :: ts => GRes e x t ∧ GRess r x ts
  | _, _, _ => False
theorem GRess.len : ∀ {l : List Ex} {x : Val} {ts : List Ty}, GRess l x ts → l.length = ts.length
  | [], _, [], _ => rfl
  | [], _, _ :: _, h => by simp [GRess] at h
  | _ :: _, _, [], h => by simp [GRess] at h
  | _ :: _, _, _ :: _, h => by simp only [List.length_cons, GRess.len h.2]
theorem GRess.go : ∀ {l : List Ex} {x : Val} {ts : List Ty}, GRess l x ts → ∃ ws g, allS l x = some (ws, g) ∧ (g = 0 → OKvs ws ts) ∧ GoesL (genEs l) x ws g
  | [], x, [], _ => ⟨[], 0, rfl, fun _ => trivial, goes_nil x⟩
  | [], _, _ :: _, h => by simp [GRess] at h
  | _ :: _, _, [], h => by simp [GRess] at h
  | e :: r, x, t :: ts, h => by
    obtain ⟨⟨w, f, q1, q2, q3⟩, hr⟩ := h
    obtain ⟨ws, g, r1, r2, r3⟩ := hr.go
    have hG := goes_cons (genE_pos e) q3 (fun _ => r3)
    by_cases hf : f = 0
    · subst hf
      by_cases hg : g = 0
      · subst hg
        exact ⟨w :: ws, 0, by simp [allS, q1, r1], fun _ => ⟨q2 rfl, r2 rfl⟩, hG⟩
      · refine ⟨[], g, by simp [allS, q1, r1, hg], fun q => absurd q hg, ?_⟩
        intro p j st out R hA hp hs k1 k2
        exact hG p j st out R hA hp hs (fun q => absurd q hg) k2
    · refine ⟨[], f, by simp [allS, q1, hf], fun q => absurd q hf, ?_⟩
      rw [show (f == 0) = false from beq_false_of_ne hf] at hG
      exact hG
theorem arn_of {o : List UInt8} {k : Nat} (h : arS o ≠ -2) (hlen : (((decide (arS o ≥ 0)) && ((k : Int) != arS o)) || ((decide (arS o < 0)) && ((decide ((k : Int) < 1)) || (decide ((k : Int) > 8))))) = false) : ArN o k := by
  refine ⟨h, fun hc => ?_, fun hc => ?_⟩
  · simp only [decide_eq_true (show arS o ≥ 0 from hc), decide_eq_false (show ¬ arS o < 0 by omega), Bool.true_and, Bool.false_and, Bool.or_false] at hlen
    exact bne_f hlen
  · simp only [decide_eq_false (show ¬ arS o ≥ 0 by omega), decide_eq_true hc, Bool.true_and, Bool.false_and, Bool.false_or] at hlen
    have := of_decide_eq_false (or_f hlen).1
    omega
end Go.Proofs.Ytbcjcekoonebiaa.Tl

set_option linter.unusedVariables false
set_option linter.unusedSimpArgs false
namespace Go.Proofs.Ytbcjcekoonebiaa.Tl
open Go Go.RowKit
/-! ### what an instruction takes; its number -/
def takesP (i : GInst) : Int :=
  bif i.f0.data.toList == [112, 117, 115, 104] then 0 else bif i.f0.data.toList == [120] then 0 else bif i.f0.data.toList == [106, 109, 112] then 0 else bif i.f0.data.toList == [114, 101, 116] then 0
  else bif i.f0.data.toList == [116, 117, 112] then i.f2 else bif i.f0.data.toList == [101, 109, 105, 116] then i.f2 else bif i.f0.data.toList == [97, 116] then 1 else bif i.f0.data.toList == [110, 101, 103] then 1
  else bif i.f0.data.toList == [110, 111, 116] then 1 else bif i.f0.data.toList == [108, 101, 110] then 1 else bif i.f0.data.toList == [106, 102] then 1 else 2
theorem e74 (i : GInst) : Ev (fun n => s_f74 n i) (takesP i) := by
  unfold s_f74 takesP
  repeat' first | exact Ev.mk _ | refine Ev.if (fun _ => ?_) (fun _ => ?_)
abbrev opsB : List ByteArray := [⟨#[112, 117, 115, 104]⟩, ⟨#[120]⟩, ⟨#[97, 116]⟩, ⟨#[116, 117, 112]⟩, ⟨#[110, 101, 103]⟩, ⟨#[110, 111, 116]⟩, ⟨#[108, 101, 110]⟩, ⟨#[97, 100, 100]⟩, ⟨#[115, 117, 98]⟩, ⟨#[109, 117, 108]⟩, ⟨#[100, 105, 118]⟩, ⟨#[114, 101, 109]⟩, ⟨#[101, 113]⟩, ⟨#[108, 116]⟩, ⟨#[99, 97, 116]⟩, ⟨#[106, 109, 112]⟩, ⟨#[106, 102]⟩, ⟨#[101, 109, 105, 116]⟩, ⟨#[114, 101, 116]⟩]
def idxB : List ByteArray → ByteArray → Nat → Int
  | [], _, _ => 0
  | x :: r, a, j => bif x.data.toList == a.data.toList then ((j + 1 : Nat) : Int) else idxB r a (j + 1)
theorem e139l (a : ByteArray) (l : List ByteArray) (hl : l.length ≤ 1000) : ∀ (r : List ByteArray) (j : Nat), l.drop j = r → Ev (fun n => s_f139_l1 n a l j) (idxB r a j)
  | [], j, h => by
    refine Ev.succ ?_
    simp only [s_f139_l1, idxB]
    exact Ev.f (cj_f (drop_n h)) (Ev.mk _)
  | x :: r, j, h => by
    obtain ⟨h1, h2, h3⟩ := drop_c h
    refine Ev.succ ?_
    simp only [s_f139_l1, idxB]
    refine Ev.t (cj_t h1) (Ev.bindc h2 (Ev.if (fun _ => ?_) (fun _ => e139l a l hl r (j + 1) h3)))
    rw [wrap64 (by omega) (by omega)]
    exact Ev.mk _
theorem e139 (a : ByteArray) : Ev (fun n => s_f139 n a) (idxB opsB a 0) := by
  unfold s_f139 s_f150
  exact Ev.bindc rfl (e139l a opsB (by decide) opsB 0 rfl)
theorem idxB_mem {a : ByteArray} : ∀ {l : List ByteArray} {j : Nat}, idxB l a j ≠ 0 → a ∈ l
  | [], j, h => absurd rfl h
  | x :: r, j, h => by
    unfold idxB at h
    cases hc : x.data.toList == a.data.toList with
    | true =>
      have e := eq_of_beq hc
      have : x = a := by rw [ba_eq e]
      rw [this]; exact List.mem_cons_self
    | false =>
      rw [hc] at h
      exact List.mem_cons_of_mem _ (idxB_mem h)

/-! ### what is wrong with a program -/
def cntB (o : List UInt8) : Bool := ((((o == [97, 116]) || (o == [116, 117, 112])) || (o == [106, 109, 112])) || (o == [106, 102])) || (o == [101, 109, 105, 116])
def zeroB (v : Val) : Bool := ((((v.kind == 0) && (v.i == 0)) && (!v.b)) && (v.s.data.toList == [])) && ((v.t.length : Int) == 0)
def instP (x : GInst) (j len : Nat) : Int :=
  bif idxB opsB x.f0 0 == 0 then 6
  else bif ((!(cntB x.f0.data.toList)) && (x.f2 != 0)) || ((x.f0.data.toList != [112, 117, 115, 104]) && (!(zeroB x.f1))) then 1
  else bif x.f0.data.toList == [112, 117, 115, 104] then ckV x.f1 0
  else bif x.f0.data.toList == [97, 116] then (bif decide (x.f2 < 0) then 1 else 0)
  else bif x.f0.data.toList == [116, 117, 112] then (bif (decide (x.f2 < 1)) || (decide (x.f2 > 8)) then 1 else 0)
  else bif x.f0.data.toList == [101, 109, 105, 116] then (bif (decide (x.f2 < 0)) || (decide (x.f2 > 4)) then 1 else 0)
  else bif x.f0.data.toList == [106, 109, 112] then (bif (decide (x.f2 ≤ (j : Int))) || (decide (x.f2 ≥ (len : Int))) then 1 else 0)
  else bif x.f0.data.toList == [106, 102] then (bif (decide (x.f2 ≤ (j : Int))) || (decide (x.f2 ≥ (len : Int))) then 1 else 0) else 0
theorem e107 {p : List GInst} {j : Nat} {x : GInst} (h : p[j]? = some x) : Ev (fun n => s_f107 n p (j : Int)) (instP x j p.length) := by
  unfold s_f107 instP
  refine Ev.g (Int.natCast_nonneg j) (Ev.bindc (by rw [Int.toNat_natCast]; exact h) (Ev.bind (e139 x.f0) ?_))
  refine Ev.if (fun _ => Ev.mk _) (fun _ => Ev.if (fun _ => Ev.mk _) (fun _ => Ev.if (fun _ => Ev.bind (e34 x.f1) (Ev.mk _)) (fun _ => ?_)))
  repeat' first | exact Ev.mk _ | refine Ev.if (fun _ => ?_) (fun _ => ?_)
def ckI : List GInst → Nat → Nat → Int × Int
  | [], _, _ => (0, 0)
  | x :: r, j, len => bif instP x j len != 0 then ((j : Int), instP x j len) else ckI r (j + 1) len
def ckP (p : List GInst) : Int × Int := bif (p.length : Int) == 0 then (0, 3) else bif decide ((p.length : Int) > 4096) then (0, 10) else ckI p 0 p.length
theorem e70l (p : List GInst) : ∀ (r : List GInst) (j : Nat), p.drop j = r → Ev (fun n => s_f70_l1 n p j) (ckI r j p.length)
  | [], j, h => by
    refine Ev.succ ?_
    simp only [s_f70_l1, ckI]
    exact Ev.f (cj_f (drop_n h)) (Ev.mk _)
  | x :: r, j, h => by
    obtain ⟨h1, h2, h3⟩ := drop_c h
    refine Ev.succ ?_
    simp only [s_f70_l1, ckI]
    exact Ev.t (cj_t h1) (Ev.bind (e107 h2) (Ev.if (fun _ => Ev.mk _) (fun _ => e70l p r (j + 1) h3)))
theorem e70 (p : List GInst) : Ev (fun n => s_f70 n p) (ckP p) := by
  unfold s_f70 ckP
  exact Ev.if (fun _ => Ev.mk _) (fun _ => Ev.if (fun _ => Ev.mk _) (fun _ => e70l p p 0 rfl))
theorem ckI_all : ∀ {r : List GInst} {j len k : Nat} {x : GInst}, (ckI r j len).2 = 0 → r[k]? = some x → instP x (j + k) len = 0
  | [], j, len, k, x, h, hk => by simp at hk
  | y :: r, j, len, k, x, h, hk => by
    unfold ckI at h
    cases hc : instP y j len != 0 with
    | true => rw [hc] at h; simp at h; rw [h] at hc; simp at hc
    | false =>
      rw [hc] at h
      simp only [cond_false] at h
      cases k with
      | zero => simp at hk; subst hk; simpa using hc
      | succ k =>
        simp only [List.getElem?_cons_succ] at hk
        have := ckI_all h hk
        rw [show j + (k + 1) = j + 1 + k by omega]
        exact this
theorem ckP_all {p : List GInst} (h : (ckP p).2 = 0) : p ≠ [] ∧ ∀ (k : Nat) (x : GInst), p[k]? = some x → instP x k p.length = 0 := by
  unfold ckP at h
  cases h1 : (p.length : Int) == 0 with
  | true => rw [h1] at h; simp at h
  | false =>
    rw [h1] at h
    simp only [cond_false] at h
    cases h2 : decide ((p.length : Int) > 4096) with
    | true => rw [h2] at h; simp at h
    | false =>
      rw [h2] at h
      simp only [cond_false] at h
      refine ⟨fun e => by subst e; simp at h1, fun k x hk => ?_⟩
      have := ckI_all h hk
      rw [Nat.zero_add] at this
      exact this

/-! ### stacks that are alike; ways -/
def sameS (a b : List Ty) : Bool := bif (a.length : Int) != (b.length : Int) then false else sameTs a b
theorem e142l (a b : List Ty) (hl : a.length = b.length) : ∀ (r : List Ty) (j : Nat), a.drop j = r → Ev (fun n => s_f142_l1 n a b j) (sameTs r (b.drop j))
  | [], j, h => by
    refine Ev.succ ?_
    simp only [s_f142_l1]
    exact Ev.f (cj_f (drop_n h)) ((Ev.mk _).congr (by simp [sameTs]))
  | x :: r, j, h => by
    obtain ⟨h1, h2, h3⟩ := drop_c h
    have hb : j < b.length := by omega
    have e1 : b[j]? = some b[j] := List.getElem?_eq_getElem hb
    refine Ev.succ ?_
    simp only [s_f142_l1]
    rw [List.drop_eq_getElem_cons hb]
    simp only [sameTs]
    exact Ev.t (cj_t h1) (Ev.bindc h2 (Ev.bindc e1 (Ev.bind (e65 x b[j]) (Ev.if (fun _ => Ev.mk _) (fun _ => e142l a b hl r (j + 1) h3)))))
theorem e142 (a b : List Ty) : Ev (fun n => s_f142 n a b) (sameS a b) := by
  unfold s_f142 sameS
  refine Ev.if (fun _ => Ev.mk _) (fun h => ?_)
  have hl : a.length = b.length := by have := bne_f h; omega
  have := e142l a b hl a 0 rfl
  simpa using this
theorem sameS_eq {a b : List Ty} : sameS a b = true ↔ a = b := by
  unfold sameS
  constructor
  · intro h
    cases hc : (a.length : Int) != (b.length : Int) with
    | true => rw [hc] at h; cases h
    | false =>
      rw [hc] at h
      have hl : a.length = b.length := by have := bne_f hc; omega
      exact (sameTs_iff a b hl).1 h
  · rintro rfl
    simp only [bne_self_eq_false, cond_false]
    exact (sameTs_iff a a rfl).2 rfl

structure LS where
  at_ : List (List Ty)
  kn : List Bool
  out : Ty
def leadP (S : LS) (tg : Nat) (s : List Ty) : LS × Int :=
  bif !(S.kn[tg]?.getD false) then (⟨S.at_.set tg s, S.kn.set tg true, S.out⟩, 0)
  else bif !(sameS (S.at_[tg]?.getD []) s) then (S, 14) else (S, 0)
abbrev lkS (v w : Nat) (S : LS) : Look := ⟨⟨v, S.at_⟩, ⟨w, S.kn⟩, S.out⟩
theorem e109 (v w : Nat) (S : LS) (tg : Nat) (s : List Ty) (h1 : tg < S.kn.length) (h2 : tg < S.at_.length) (hs : s.length ≤ 1000000) : Ev (fun n => s_f109 n (lkS v w S) (tg : Int) s) (lkS v w (leadP S tg s).1, (leadP S tg s).2) := by
  have a1 : S.kn[tg]? = some S.kn[tg] := List.getElem?_eq_getElem h1
  have a2 : S.at_[tg]? = some S.at_[tg] := List.getElem?_eq_getElem h2
  unfold s_f109 leadP
  simp only [Int.toNat_natCast, a1, a2, Option.getD_some]
  refine Ev.g (Int.natCast_nonneg tg) (Ev.bindc rfl ?_)
  cases hk : S.kn[tg] with
  | false => exact Ev.t rfl (Ev.g (Int.natCast_nonneg tg) (Ev.bindc rfl (Ev.g hs (Ev.g (Int.natCast_nonneg tg) (Ev.bindc rfl (Ev.mk _))))))
  | true =>
    refine Ev.f rfl (Ev.g (Int.natCast_nonneg tg) (Ev.bindc rfl (Ev.bind (e142 _ _) ?_)))
    cases hc : sameS S.at_[tg] s with
    | true => exact Ev.f rfl (Ev.mk _)
    | false => exact Ev.t rfl (Ev.mk _)
def emitP : Ty → List Ty → Ty × Int
  | out, [] => (out, 0)
  | out, x :: r => bif (out.kind != 0) && !(sameT out x) then (out, 5) else emitP x r
theorem Ty.eta (t : Ty) : Ty.mk t.kind t.of = t := by cases t; rfl
theorem e108l (v w : Nat) (S : LS) (t : List Ty) : ∀ (r : List Ty) (out : Ty) (j : Nat), t.drop j = r → Ev (fun n => s_f108_l1 n (lkS v w S) t j out.kind out.of) (lkS v w ⟨S.at_, S.kn, (emitP out r).1⟩, zT, false, (emitP out r).2)
  | [], out, j, h => by
    refine Ev.succ ?_
    simp only [s_f108_l1, emitP]
    exact Ev.f (cj_f (drop_n h)) ((Ev.mk _).congr (by rw [Ty.eta]))
  | x :: r, out, j, h => by
    obtain ⟨h1, h2, h3⟩ := drop_c h
    have ih := e108l v w S t r x (j + 1) h3
    refine Ev.succ ?_
    simp only [s_f108_l1, emitP, Ty.eta]
    refine Ev.t (cj_t h1) ?_
    cases hk : out.kind != 0 with
    | false => exact Ev.f rfl (Ev.bindc h2 ih)
    | true =>
      refine Ev.t rfl (Ev.bindc h2 (Ev.bind (e65 out x) ?_))
      cases hc : sameT out x with
      | true => exact Ev.f rfl (Ev.bindc h2 ih)
      | false => exact Ev.t rfl (Ev.mk _)
def madeP (out : Ty) (i : GInst) (inn : Ty) (t : List Ty) : Ty × Ty × Bool × Int :=
  bif i.f0.data.toList == [112, 117, 115, 104] then (out, tyV i.f1, true, 0) else bif i.f0.data.toList == [120] then (out, inn, true, 0)
  else bif i.f0.data.toList == [106, 102] then (bif (th t 0).kind != 2 then (out, zT, false, 5) else (out, zT, false, 0))
  else bif i.f0.data.toList == [101, 109, 105, 116] then ((emitP out t).1, zT, false, (emitP out t).2)
  else bif i.f0.data.toList == [106, 109, 112] then (out, zT, false, 0) else bif i.f0.data.toList == [114, 101, 116] then (out, zT, false, 0)
  else (out, (opTy i.f0.data.toList i.f2 t).1, true, (opTy i.f0.data.toList i.f2 t).2)
theorem e108 (v w : Nat) (S : LS) (i : GInst) (inn : Ty) (t : List Ty) (hb : BdV i.f1) (h0 : i.f0.data.toList = [106, 102] → 0 < t.length) (h1 : i.f0.data.toList = [97, 116] → 0 < t.length) (h2 : i.f0.data.toList = [101, 113] ∨ i.f0.data.toList = [108, 116] → 1 < t.length) (h3 : i.f0.data.toList ≠ [105, 102]) :
    Ev (fun n => s_f108 n (lkS v w S) i inn t) (lkS v w ⟨S.at_, S.kn, (madeP S.out i inn t).1⟩, (madeP S.out i inn t).2.1, (madeP S.out i inn t).2.2.1, (madeP S.out i inn t).2.2.2) := by
  unfold s_f108 madeP
  cases c1 : i.f0.data.toList == [112, 117, 115, 104] with
  | true => exact Ev.t rfl (Ev.bind (e21 _ hb) (Ev.mk _))
  | false =>
    refine Ev.f rfl ?_
    cases c2 : i.f0.data.toList == [120] with
    | true => exact Ev.t rfl (Ev.mk _)
    | false =>
      refine Ev.f rfl ?_
      cases c3 : i.f0.data.toList == [106, 102] with
      | true =>
        refine Ev.t rfl (Ev.bindc (th_get (h0 (eq_of_beq c3))) ?_)
        cases c4 : (th t 0).kind != 2 with
        | true => exact Ev.t rfl (Ev.mk _)
        | false => exact Ev.f rfl (Ev.mk _)
      | false =>
        refine Ev.f rfl ?_
        cases c4 : i.f0.data.toList == [101, 109, 105, 116] with
        | true => exact Ev.t rfl (e108l v w S t t S.out 0 rfl)
        | false =>
          refine Ev.f rfl ?_
          cases c5 : i.f0.data.toList == [106, 109, 112] with
          | true => exact Ev.t rfl (Ev.mk _)
          | false =>
            refine Ev.f rfl ?_
            cases c6 : i.f0.data.toList == [114, 101, 116] with
            | true => exact Ev.t rfl (Ev.mk _)
            | false => exact Ev.f rfl (Ev.bind (e94 _ _ _ h1 h2 (fun q => absurd q h3)) (Ev.mk _))

/-! ### a place -/
def stepA (S : LS) (x : GInst) (j len : Nat) (s : List Ty) : LS × Int :=
  bif (decide ((s.length : Int) > 128)) || ((x.f0.data.toList == [114, 101, 116]) && (decide ((s.length : Int) > 0))) then (S, 12)
  else bif x.f0.data.toList == [114, 101, 116] then (S, 0)
  else bif (x.f0.data.toList != [106, 109, 112]) && (j + 1 == len) then (S, 12)
  else bif (x.f0.data.toList == [106, 109, 112]) || (x.f0.data.toList == [106, 102]) then
    (bif (leadP S x.f2.toNat s).2 != 0 then leadP S x.f2.toNat s else bif x.f0.data.toList != [106, 109, 112] then leadP (leadP S x.f2.toNat s).1 (j + 1) s else ((leadP S x.f2.toNat s).1, 0))
  else bif x.f0.data.toList != [106, 109, 112] then leadP S (j + 1) s else (S, 0)
def stepP (S : LS) (x : GInst) (j len : Nat) (inn : Ty) (s : List Ty) : LS × Int :=
  bif decide ((s.length : Int) < takesP x) then (S, 12)
  else
    let t := s.drop (s.length - (takesP x).toNat)
    let s' := s.take (s.length - (takesP x).toNat)
    let m := madeP S.out x inn t
    bif m.2.2.2 != 0 then (⟨S.at_, S.kn, m.1⟩, m.2.2.2) else stepA ⟨S.at_, S.kn, m.1⟩ x j len (bif m.2.2.1 then s' ++ [m.2.1] else s')
theorem leadP_len (S : LS) (tg : Nat) (s : List Ty) : (leadP S tg s).1.kn.length = S.kn.length ∧ (leadP S tg s).1.at_.length = S.at_.length := by
  unfold leadP
  cases !(S.kn[tg]?.getD false) with
  | true => simp
  | false => cases !(sameS (S.at_[tg]?.getD []) s) <;> simp
theorem Ev.pair {α β : Type} {f : Nat → Option (α × β)} {p : α × β} (h : Ev f p) : Ev (fun n => (f n).bind fun q => some (q.1, q.2)) p := Ev.bind h (Ev.mk _)
structure InstOk (x : GInst) (j len : Nat) : Prop where
  bd : BdV x.f1
  ok : instP x j len = 0
theorem InstOk.mem {x : GInst} {j len : Nat} (h : InstOk x j len) : x.f0 ∈ opsB := by
  have := h.ok
  unfold instP at this
  cases hc : idxB opsB x.f0 0 == 0 with
  | true => rw [hc] at this; simp at this
  | false => exact idxB_mem (by simpa using hc)
theorem InstOk.peel {x : GInst} {j len : Nat} (h : InstOk x j len) : ((!(cntB x.f0.data.toList)) && (x.f2 != 0)) = false ∧ ((x.f0.data.toList != [112, 117, 115, 104]) && (!(zeroB x.f1))) = false ∧
    (bif x.f0.data.toList == [112, 117, 115, 104] then ckV x.f1 0
    else bif x.f0.data.toList == [97, 116] then (bif decide (x.f2 < 0) then 1 else 0)
    else bif x.f0.data.toList == [116, 117, 112] then (bif (decide (x.f2 < 1)) || (decide (x.f2 > 8)) then 1 else 0)
    else bif x.f0.data.toList == [101, 109, 105, 116] then (bif (decide (x.f2 < 0)) || (decide (x.f2 > 4)) then 1 else 0)
    else bif x.f0.data.toList == [106, 109, 112] then (bif (decide (x.f2 ≤ (j : Int))) || (decide (x.f2 ≥ (len : Int))) then 1 else 0)
    else bif x.f0.data.toList == [106, 102] then (bif (decide (x.f2 ≤ (j : Int))) || (decide (x.f2 ≥ (len : Int))) then 1 else 0) else (0 : Int)) = 0 := by
  have h1 := h.ok
  unfold instP at h1
  cases h0 : idxB opsB x.f0 0 == 0 with
  | true => rw [h0] at h1; simp at h1
  | false =>
    rw [h0] at h1
    simp only [cond_false] at h1
    cases hc : ((!(cntB x.f0.data.toList)) && (x.f2 != 0)) || ((x.f0.data.toList != [112, 117, 115, 104]) && (!(zeroB x.f1))) with
    | true => rw [hc] at h1; simp at h1
    | false =>
      rw [hc] at h1
      exact ⟨(or_f hc).1, (or_f hc).2, h1⟩
theorem bif_10 {c : Bool} (h : (bif c then (1 : Int) else 0) = 0) : c = false := by cases c <;> simp_all
theorem InstOk.jump {x : GInst} {j len : Nat} (h : InstOk x j len) (ho : x.f0.data.toList = [106, 109, 112] ∨ x.f0.data.toList = [106, 102]) : (j : Int) < x.f2 ∧ x.f2 < (len : Int) := by
  have h1 := h.peel.2.2
  have h2 : (decide (x.f2 ≤ (j : Int)) || decide (x.f2 ≥ (len : Int))) = false := by
    rcases ho with ho | ho <;> (rw [ho] at h1; exact bif_10 h1)
  have a := of_decide_eq_false (or_f h2).1
  have b := of_decide_eq_false (or_f h2).2
  omega
theorem InstOk.tup {x : GInst} {j len : Nat} (h : InstOk x j len) (ho : x.f0.data.toList = [116, 117, 112]) : 1 ≤ x.f2 ∧ x.f2 ≤ 8 := by
  have h1 := h.peel.2.2
  rw [ho] at h1
  have h2 := bif_10 h1
  have a := of_decide_eq_false (or_f h2).1
  have b := of_decide_eq_false (or_f h2).2
  omega
theorem InstOk.emit {x : GInst} {j len : Nat} (h : InstOk x j len) (ho : x.f0.data.toList = [101, 109, 105, 116]) : 0 ≤ x.f2 ∧ x.f2 ≤ 4 := by
  have h1 := h.peel.2.2
  rw [ho] at h1
  have h2 := bif_10 h1
  have a := of_decide_eq_false (or_f h2).1
  have b := of_decide_eq_false (or_f h2).2
  omega
theorem InstOk.take {x : GInst} {j len : Nat} (h : InstOk x j len) : 0 ≤ takesP x ∧ takesP x ≤ 8 := by
  have hm := h.mem
  by_cases c1 : x.f0.data.toList = [116, 117, 112]
  · have e : takesP x = x.f2 := by unfold takesP; rw [c1]; rfl
    have := h.tup c1
    omega
  · by_cases c2 : x.f0.data.toList = [101, 109, 105, 116]
    · have e : takesP x = x.f2 := by unfold takesP; rw [c2]; rfl
      have := h.emit c2
      omega
    · have h3 : takesP x = 0 ∨ takesP x = 1 ∨ takesP x = 2 := by
        simp only [opsB, List.mem_cons, List.not_mem_nil, or_false] at hm
        unfold takesP
        rcases hm with e | e | e | e | e | e | e | e | e | e | e | e | e | e | e | e | e | e | e <;> rw [e] at c1 c2 ⊢ <;> first | exact absurd rfl c1 | exact absurd rfl c2 | exact .inl rfl | exact .inr (.inl rfl) | exact .inr (.inr rfl)
      omega
theorem e71a (v w : Nat) (S : LS) {p : List GInst} {j : Nat} {x : GInst} (hx : p[j]? = some x) (hok : InstOk x j p.length) (hp : p.length ≤ 1000000) (hk : S.kn.length = p.length) (ha : S.at_.length = p.length) (s : List Ty) (hs : s.length ≤ 1000000) :
    Ev (fun n => bif ((decide ((s.length : Int) > 128)) || ((x.f0.data.toList == [114, 101, 116]) && (decide ((s.length : Int) > 0)))) then some (lkS v w S, (12 : Int)) else (bif (x.f0.data.toList == [114, 101, 116]) then some (lkS v w S, 0) else (bif ((x.f0.data.toList != [106, 109, 112]) && ((j : Int) == (IntKind.i64.wrap ((p.length : Int) - 1)))) then some (lkS v w S, 12) else (bif ((x.f0.data.toList == [106, 109, 112]) || (x.f0.data.toList == [106, 102])) then ((s_f109 n (lkS v w S) x.f2 s).bind fun q31 => (bif (q31.2 != 0) then some (q31.1, q31.2) else (bif (x.f0.data.toList != [106, 109, 112]) then ((s_f109 n q31.1 (IntKind.i64.wrap ((j : Int) + 1)) s).bind fun q35 => some (q35.1, q35.2)) else some (q31.1, 0)))) else (bif (x.f0.data.toList != [106, 109, 112]) then ((s_f109 n (lkS v w S) (IntKind.i64.wrap ((j : Int) + 1)) s).bind fun q38 => some (q38.1, q38.2)) else some (lkS v w S, 0))))))
      (lkS v w (stepA S x j p.length s).1, (stepA S x j p.length s).2) := by
  have hlt : j < p.length := (List.getElem?_eq_some_iff.1 hx).1
  have w1 : IntKind.i64.wrap ((j : Int) + 1) = ((j + 1 : Nat) : Int) := by rw [wrap64 (by omega) (by omega)]; omega
  have w2 : IntKind.i64.wrap ((p.length : Int) - 1) = ((p.length - 1 : Nat) : Int) := by rw [wrap64 (by omega) (by omega)]; omega
  have w3 : ((j : Int) == ((p.length - 1 : Nat) : Int)) = (j + 1 == p.length) := by
    rw [Bool.eq_iff_iff, beq_iff_eq, beq_iff_eq]
    omega
  rw [w1, w2, w3]
  unfold stepA
  cases c1 : (decide ((s.length : Int) > 128)) || ((x.f0.data.toList == [114, 101, 116]) && (decide ((s.length : Int) > 0))) with
  | true => exact Ev.t rfl (Ev.mk _)
  | false =>
    refine Ev.f rfl ?_
    cases c2 : x.f0.data.toList == [114, 101, 116] with
    | true => exact Ev.t rfl (Ev.mk _)
    | false =>
      refine Ev.f rfl ?_
      cases c3 : (x.f0.data.toList != [106, 109, 112]) && (j + 1 == p.length) with
      | true => exact Ev.t rfl (Ev.mk _)
      | false =>
        refine Ev.f rfl ?_
        have next : (x.f0.data.toList != [106, 109, 112]) = true → j + 1 < p.length := fun h => by
          rw [h, Bool.true_and] at c3
          have : j + 1 ≠ p.length := by simpa using c3
          omega
        cases c4 : (x.f0.data.toList == [106, 109, 112]) || (x.f0.data.toList == [106, 102]) with
        | true =>
          obtain ⟨g1, g2⟩ := hok.jump (by
            rcases Bool.or_eq_true _ _ ▸ c4 with h | h
            · exact .inl (eq_of_beq h)
            · exact .inr (eq_of_beq h))
          have e : x.f2 = ((x.f2.toNat : Nat) : Int) := by omega
          have q := e109 v w S x.f2.toNat s (by omega) (by omega) hs
          rw [← e] at q
          obtain ⟨l1, l2⟩ := leadP_len S x.f2.toNat s
          refine Ev.t rfl (Ev.bind q ?_)
          cases c5 : (leadP S x.f2.toNat s).2 != 0 with
          | true => exact Ev.t rfl (Ev.mk _)
          | false =>
            refine Ev.f rfl ?_
            cases c6 : x.f0.data.toList != [106, 109, 112] with
            | true =>
              have := next c6
              exact Ev.t rfl (Ev.pair (e109 v w (leadP S x.f2.toNat s).1 (j + 1) s (by omega) (by omega) hs))
            | false => exact Ev.f rfl (Ev.mk _)
        | false =>
          refine Ev.f rfl ?_
          cases c6 : x.f0.data.toList != [106, 109, 112] with
          | true =>
            have := next c6
            exact Ev.t rfl (Ev.pair (e109 v w S (j + 1) s (by omega) (by omega) hs))
          | false => exact Ev.f rfl (Ev.mk _)
theorem InstOk.ar {x : GInst} {j len : Nat} (h : InstOk x j len) : (x.f0.data.toList = [106, 102] → takesP x = 1) ∧ (x.f0.data.toList = [97, 116] → takesP x = 1) ∧ (x.f0.data.toList = [101, 113] ∨ x.f0.data.toList = [108, 116] → takesP x = 2) ∧ x.f0.data.toList ≠ [105, 102] := by
  refine ⟨fun e => ?_, fun e => ?_, fun e => ?_, fun e => ?_⟩
  · unfold takesP; rw [e]; rfl
  · unfold takesP; rw [e]; rfl
  · unfold takesP; rcases e with e | e <;> (rw [e]; rfl)
  · have hm := h.mem
    rw [ba_eq e] at hm
    simp [opsB] at hm
theorem e71 (v w : Nat) (S : LS) {p : List GInst} {j : Nat} {x : GInst} (hx : p[j]? = some x) (hok : InstOk x j p.length) (hp : p.length ≤ 1000000) (hk : S.kn.length = p.length) (ha : S.at_.length = p.length) (inn : Ty) {s : List Ty} (hs : S.at_[j]? = some s) (hsl : s.length ≤ 1000) :
    Ev (fun n => s_f71 n (lkS v w S) p (j : Int) inn) (lkS v w (stepP S x j p.length inn s).1, (stepP S x j p.length inn s).2) := by
  obtain ⟨t0, t8⟩ := hok.take
  unfold s_f71 stepP
  refine Ev.g (Int.natCast_nonneg j) (Ev.bindc (by rw [Int.toNat_natCast]; exact hx) (Ev.g (Int.natCast_nonneg j) (Ev.bindc (by rw [Int.toNat_natCast]; exact hs) (Ev.bind (e74 x) ?_))))
  cases c1 : decide ((s.length : Int) < takesP x) with
  | true => exact Ev.t rfl (Ev.mk _)
  | false =>
    have c1 := of_decide_eq_false c1
    have w1 : IntKind.i64.wrap ((s.length : Int) - takesP x) = ((s.length - (takesP x).toNat : Nat) : Int) := by rw [wrap64 (by omega) (by omega)]; omega
    have l1 : (s.drop (s.length - (takesP x).toNat)).length = (takesP x).toNat := by rw [List.length_drop]; omega
    have l2 : (s.take (s.length - (takesP x).toNat)).length = s.length - (takesP x).toNat := by rw [List.length_take]; omega
    obtain ⟨a0, a1, a2, a3⟩ := hok.ar
    refine Ev.f rfl ?_
    rw [w1]
    simp only [Int.toNat_natCast]
    refine Ev.g ⟨by omega, by omega⟩ (Ev.g (by omega) (Ev.g ⟨by omega, by omega⟩ (Ev.g (by omega) (Ev.bind (e108 v w S x inn (s.drop (s.length - (takesP x).toNat)) hok.bd (fun q => by rw [l1, a0 q]; decide) (fun q => by rw [l1, a1 q]; decide) (fun q => by rw [l1, a2 q]; decide) a3) ?_))))
    cases c2 : (madeP S.out x inn (s.drop (s.length - (takesP x).toNat))).2.2.2 != 0 with
    | true => exact Ev.t rfl (Ev.mk _)
    | false =>
      refine Ev.f rfl ?_
      cases c3 : (madeP S.out x inn (s.drop (s.length - (takesP x).toNat))).2.2.1 with
      | true =>
        refine Ev.t rfl (Ev.g (by omega) ?_)
        exact e71a v w ⟨S.at_, S.kn, (madeP S.out x inn (s.drop (s.length - (takesP x).toNat))).1⟩ hx hok hp hk ha (s.take (s.length - (takesP x).toNat) ++ [(madeP S.out x inn (s.drop (s.length - (takesP x).toNat))).2.1]) (by simp; omega)
      | false =>
        refine Ev.f rfl ?_
        exact e71a v w ⟨S.at_, S.kn, (madeP S.out x inn (s.drop (s.length - (takesP x).toNat))).1⟩ hx hok hp hk ha (s.take (s.length - (takesP x).toNat)) (by omega)
end Go.Proofs.Ytbcjcekoonebiaa.Tl

set_option linter.unusedVariables false
set_option linter.unusedSimpArgs false
namespace Go.Proofs.Ytbcjcekoonebiaa.Tl
open Go Go.RowKit
theorem mvI_f1 (k : Int) (i : GInst) : (mvI k i).f1 = i.f1 := by
  unfold mvI
  cases isJ i <;> rfl
def BdP (p : List GInst) : Prop := ∀ i ∈ p, BdV i.f1
theorem BdP.app {a b : List GInst} (ha : BdP a) (hb : BdP b) : BdP (a ++ b) := fun i hi => by
  rcases List.mem_append.1 hi with h | h
  · exact ha i h
  · exact hb i h
theorem BdP.one {i : GInst} (h : BdV i.f1) : BdP [i] := fun x hx => by simp at hx; subst hx; exact h
theorem BdP.mv {b : List GInst} (hb : BdP b) (k : Int) : BdP (mvP k b) := fun i hi => by
  obtain ⟨x, hx, rfl⟩ := List.mem_map.1 hi
  rw [mvI_f1]
  exact hb x hx
/-! ### where no place is added -/
def Fix (p : List GInst) : Prop := ∀ i ∈ p, mvI 0 i = i
theorem Fix.app {a b : List GInst} (ha : Fix a) (hb : Fix b) : Fix (a ++ b) := fun i hi => by
  rcases List.mem_append.1 hi with h | h
  · exact ha i h
  · exact hb i h
theorem Fix.one {i : GInst} (h : mvI 0 i = i) : Fix [i] := fun x hx => by simp at hx; subst hx; exact h
def FixL (l : List Ex) : Prop := ∀ g ∈ genEs l, g.length ≤ 1000000 → Fix g
theorem FixL.get {l : List Ex} (h : FixL l) (j : Nat) (hl : ((genEs l).getD j []).length ≤ 1000000) : Fix ((genEs l).getD j []) := by
  rw [List.getD_eq_getElem?_getD] at hl ⊢
  cases hj : (genEs l)[j]? with
  | none => intro i hi; cases hi
  | some g => rw [hj] at hl; exact h g (List.mem_of_getElem? hj) hl
end Go.Proofs.Ytbcjcekoonebiaa.Tl

set_option linter.unusedVariables false
set_option linter.unusedSimpArgs false
namespace Go.Proofs.Ytbcjcekoonebiaa.Tl
open Go Go.RowKit
/-! ### looking at all places -/
abbrev LS.k (S : LS) (j : Nat) : Bool := S.kn[j]?.getD false
abbrev LS.s (S : LS) (j : Nat) : List Ty := S.at_[j]?.getD []
structure LInv (len : Nat) (S : LS) : Prop where
  kn : S.kn.length = len
  at_ : S.at_.length = len
  low : ∀ s ∈ S.at_, s.length ≤ 128
theorem LInv.s {len : Nat} {S : LS} (h : LInv len S) (j : Nat) : (S.s j).length ≤ 128 := by
  unfold LS.s
  cases hj : S.at_[j]? with
  | none => simp
  | some s => exact h.low s (List.mem_of_getElem? hj)
theorem LInv.out {len : Nat} {S : LS} (h : LInv len S) (t : Ty) : LInv len ⟨S.at_, S.kn, t⟩ := ⟨h.kn, h.at_, h.low⟩
theorem LInv.lead {len : Nat} {S : LS} (h : LInv len S) (tg : Nat) {s : List Ty} (hs : s.length ≤ 128) : LInv len (leadP S tg s).1 := by
  obtain ⟨l1, l2⟩ := leadP_len S tg s
  refine ⟨l1.trans h.kn, l2.trans h.at_, fun y hy => ?_⟩
  unfold leadP at hy
  cases hc : !(S.kn[tg]?.getD false) with
  | true =>
    rw [hc] at hy
    rcases List.mem_or_eq_of_mem_set hy with q | q
    · exact h.low y q
    · rw [q]; exact hs
  | false =>
    rw [hc] at hy
    cases hd : !(sameS (S.at_[tg]?.getD []) s) with
    | true => rw [hd] at hy; exact h.low y hy
    | false => rw [hd] at hy; exact h.low y hy
theorem LInv.stepA {len : Nat} {S : LS} (h : LInv len S) (x : GInst) (j n : Nat) (s : List Ty) : LInv len (stepA S x j n s).1 := by
  unfold Tl.stepA
  cases c1 : (decide ((s.length : Int) > 128)) || ((x.f0.data.toList == [114, 101, 116]) && (decide ((s.length : Int) > 0))) with
  | true => exact h
  | false =>
    have hs : s.length ≤ 128 := by have := of_decide_eq_false (or_f c1).1; omega
    simp only [cond_false]
    cases x.f0.data.toList == [114, 101, 116] with
    | true => exact h
    | false =>
      simp only [cond_false]
      cases (x.f0.data.toList != [106, 109, 112]) && (j + 1 == n) with
      | true => exact h
      | false =>
        simp only [cond_false]
        cases (x.f0.data.toList == [106, 109, 112]) || (x.f0.data.toList == [106, 102]) with
        | true =>
          simp only [cond_true]
          cases (leadP S x.f2.toNat s).2 != 0 with
          | true => exact h.lead _ hs
          | false =>
            simp only [cond_false]
            cases x.f0.data.toList != [106, 109, 112] with
            | true => exact (h.lead _ hs).lead _ hs
            | false => exact h.lead _ hs
        | false =>
          simp only [cond_false]
          cases x.f0.data.toList != [106, 109, 112] with
          | true => exact h.lead _ hs
          | false => exact h
theorem LInv.stepP {len : Nat} {S : LS} (h : LInv len S) (x : GInst) (j n : Nat) (inn : Ty) (s : List Ty) : LInv len (stepP S x j n inn s).1 := by
  unfold Tl.stepP
  cases decide ((s.length : Int) < takesP x) with
  | true => exact h
  | false =>
    simp only [cond_false]
    cases (madeP S.out x inn (s.drop (s.length - (takesP x).toNat))).2.2.2 != 0 with
    | true => exact h.out _
    | false => exact (h.out _).stepA x j n _
def verL (p : List GInst) (inn : Ty) : Nat → Nat → LS → Ty × Int × Int
  | 0, j, S => (S.out, 0, 0)
  | m + 1, j, S =>
    bif !(S.k j) then verL p inn m (j + 1) S
    else match p[j]? with
      | none => (zT, 0, 0)
      | some x => bif (stepP S x j p.length inn (S.s j)).2 != 0 then (zT, (j : Int), (stepP S x j p.length inn (S.s j)).2) else verL p inn m (j + 1) (stepP S x j p.length inn (S.s j)).1
abbrev ls0 (p : List GInst) : LS := ⟨List.replicate p.length [], (List.replicate p.length false).set 0 true, zT⟩
def verP (p : List GInst) (inn : Ty) : Ty × Int × Int :=
  bif (ckP p).2 != 0 then (zT, (ckP p).1, (ckP p).2) else bif ckT inn 0 != 0 then (zT, 0, 5) else verL p inn p.length 0 (ls0 p)
theorem e39l (p : List GInst) (inn : Ty) (hp : p.length ≤ 1000000) (hok : ∀ (k : Nat) (x : GInst), p[k]? = some x → InstOk x k p.length) : ∀ (m j : Nat) (S : LS) (v w : Nat), j + m = p.length → LInv p.length S →
    Ev (fun n => s_f39_l1 n p inn j v S.at_ w S.kn S.out.kind S.out.of) (verL p inn m j S)
  | 0, j, S, v, w, h, hS => by
    refine Ev.succ ?_
    simp only [s_f39_l1, verL, Ty.eta]
    exact Ev.f (cj_f (by omega)) (Ev.mk _)
  | m + 1, j, S, v, w, h, hS => by
    have hj : j < p.length := by omega
    have hjk : j < S.kn.length := by rw [hS.kn]; exact hj
    have hja : j < S.at_.length := by rw [hS.at_]; exact hj
    have e1 : p[j]? = some p[j] := List.getElem?_eq_getElem hj
    have e2 : S.kn[j]? = some S.kn[j] := List.getElem?_eq_getElem hjk
    have e3 : S.at_[j]? = some S.at_[j] := List.getElem?_eq_getElem hja
    refine Ev.succ ?_
    simp only [s_f39_l1, verL, Ty.eta, LS.k, LS.s, e1, e2, e3, Option.getD_some]
    refine Ev.t (cj_t hj) (Ev.bindc rfl ?_)
    cases hk : S.kn[j] with
    | false => exact Ev.t rfl (e39l p inn hp hok m (j + 1) S v w (by omega) hS)
    | true =>
      refine Ev.f rfl (Ev.bind (e71 v w S e1 (hok j _ e1) hp hS.kn hS.at_ inn e3 (by have := hS.low _ (List.getElem_mem hja); omega)) ?_)
      cases hc : (stepP S p[j] j p.length inn S.at_[j]).2 != 0 with
      | true => exact Ev.t rfl (Ev.mk _)
      | false => exact Ev.f rfl (e39l p inn hp hok m (j + 1) _ v w (by omega) (hS.stepP _ _ _ _ _))
theorem linv0 (p : List GInst) : LInv p.length (ls0 p) := ⟨by simp, by simp, fun s hs => by rw [List.eq_of_mem_replicate hs]; simp⟩
theorem e39 (p : List GInst) (inn : Ty) (hp : p.length ≤ 1000000) (hb : ∀ i ∈ p, BdV i.f1) : Ev (fun n => s_f39 n p inn) (verP p inn) := by
  unfold s_f39 verP
  refine Ev.bind (e70 p) (Ev.if (fun _ => Ev.mk _) (fun hc => Ev.bind (e56 inn) (Ev.if (fun _ => Ev.mk _) (fun _ => Ev.g hp (Ev.g hp ?_)))))
  obtain ⟨h1, h2⟩ := ckP_all (p := p) (by simpa using hc)
  have hpos : 0 < p.length := List.length_pos_iff.2 h1
  refine Ev.bindc (a := false) (by rw [List.getElem?_replicate, if_pos hpos]) ?_
  exact e39l p inn hp (fun k x hk => ⟨hb x (List.mem_of_getElem? hk), h2 k x hk⟩) p.length 0 (ls0 p) 0 0 (by omega) (linv0 p)

/-! ### what is sound -/
def VOk (p : List GInst) (inn : Ty) : Nat → Nat → LS → Prop
  | 0, _, _ => True
  | m + 1, j, S => (S.k j = false ∧ VOk p inn m (j + 1) S) ∨ (S.k j = true ∧ ∃ x, p[j]? = some x ∧ (stepP S x j p.length inn (S.s j)).2 = 0 ∧ VOk p inn m (j + 1) (stepP S x j p.length inn (S.s j)).1)
theorem verL_ok {p : List GInst} {inn : Ty} : ∀ {m j : Nat} {S : LS}, j + m = p.length → (verL p inn m j S).2.2 = 0 → VOk p inn m j S
  | 0, j, S, h, hv => trivial
  | m + 1, j, S, h, hv => by
    unfold verL at hv
    unfold VOk
    cases hk : S.k j with
    | false =>
      rw [hk] at hv
      exact .inl ⟨rfl, verL_ok (by omega) hv⟩
    | true =>
      rw [hk] at hv
      have e1 : p[j]? = some p[j] := List.getElem?_eq_getElem (by omega)
      rw [e1] at hv
      simp only [Bool.not_true, cond_false] at hv
      refine .inr ⟨rfl, p[j], e1, ?_⟩
      cases hc : (stepP S p[j] j p.length inn (S.s j)).2 != 0 with
      | true => rw [hc] at hv; simp only [cond_true] at hv; simp [hv] at hc
      | false =>
        rw [hc] at hv
        exact ⟨by simpa using hc, verL_ok (by omega) hv⟩
def Ext (S S' : LS) : Prop := ∀ i, S.k i = true → S'.k i = true ∧ S'.s i = S.s i
theorem Ext.refl (S : LS) : Ext S S := fun _ h => ⟨h, rfl⟩
theorem Ext.trans {A B C : LS} (h : Ext A B) (k : Ext B C) : Ext A C := fun i q => ⟨(k i (h i q).1).1, (k i (h i q).1).2.trans (h i q).2⟩
theorem lead_ext (S : LS) (tg : Nat) (s : List Ty) : Ext S (leadP S tg s).1 := by
  intro i hi
  unfold leadP
  cases hc : S.kn[tg]?.getD false with
  | false =>
    have hne : tg ≠ i := fun e => by subst e; simp only [LS.k] at hi; rw [hc] at hi; cases hi
    simp only [Bool.not_false, cond_true, LS.k, LS.s]
    rw [List.getElem?_set_ne hne, List.getElem?_set_ne hne]
    exact ⟨hi, rfl⟩
  | true =>
    simp only [Bool.not_true, cond_false]
    cases !(sameS (S.at_[tg]?.getD []) s) <;> exact ⟨hi, rfl⟩
theorem lead_got {S : LS} {tg : Nat} {s : List Ty} (h1 : tg < S.kn.length) (h2 : tg < S.at_.length) (h : (leadP S tg s).2 = 0) : (leadP S tg s).1.k tg = true ∧ (leadP S tg s).1.s tg = s := by
  unfold leadP at h ⊢
  cases hc : S.kn[tg]?.getD false with
  | false =>
    simp only [Bool.not_false, cond_true, LS.k, LS.s]
    rw [List.getElem?_set_self h1, List.getElem?_set_self h2]
    exact ⟨rfl, rfl⟩
  | true =>
    rw [hc] at h
    simp only [Bool.not_true, cond_false] at h ⊢
    cases hd : sameS (S.at_[tg]?.getD []) s with
    | false => rw [hd] at h; simp at h
    | true => exact ⟨hc, sameS_eq.1 hd⟩
structure Goon (S' : LS) (x : GInst) (j len : Nat) (s : List Ty) : Prop where
  low : s.length ≤ 128
  ret : x.f0.data.toList = [114, 101, 116] → s = []
  next : x.f0.data.toList ≠ [114, 101, 116] → x.f0.data.toList ≠ [106, 109, 112] → j + 1 < len ∧ S'.k (j + 1) = true ∧ S'.s (j + 1) = s
  jump : x.f0.data.toList = [106, 109, 112] ∨ x.f0.data.toList = [106, 102] → S'.k x.f2.toNat = true ∧ S'.s x.f2.toNat = s
theorem stepA_ok {S : LS} {x : GInst} {j len : Nat} {s : List Ty} (hS : LInv len S) (hok : InstOk x j len) (hj : j < len) (h : (stepA S x j len s).2 = 0) : Ext S (stepA S x j len s).1 ∧ Goon (stepA S x j len s).1 x j len s := by
  unfold stepA at h ⊢
  cases c1 : (decide ((s.length : Int) > 128)) || ((x.f0.data.toList == [114, 101, 116]) && (decide ((s.length : Int) > 0))) with
  | true => rw [c1] at h; simp at h
  | false =>
    have hs : s.length ≤ 128 := by have := of_decide_eq_false (or_f c1).1; omega
    have hr := (or_f c1).2
    rw [c1] at h
    simp only [cond_false] at h ⊢
    cases c2 : x.f0.data.toList == [114, 101, 116] with
    | true =>
      have e2 := eq_of_beq c2
      rw [c2, Bool.true_and] at hr
      refine ⟨Ext.refl _, hs, fun _ => List.eq_nil_of_length_eq_zero (by have := of_decide_eq_false hr; omega), fun q => absurd e2 q, fun q => ?_⟩
      rcases q with q | q <;> (rw [e2] at q; cases q)
    | false =>
      have n2 : x.f0.data.toList ≠ [114, 101, 116] := by simpa using c2
      rw [c2] at h
      simp only [cond_false] at h ⊢
      cases c3 : (x.f0.data.toList != [106, 109, 112]) && (j + 1 == len) with
      | true => rw [c3] at h; simp at h
      | false =>
        have nx : x.f0.data.toList ≠ [106, 109, 112] → j + 1 < len := fun q => by
          rw [show (x.f0.data.toList != [106, 109, 112]) = true by simpa using q, Bool.true_and] at c3
          have : j + 1 ≠ len := by simpa using c3
          omega
        rw [c3] at h
        simp only [cond_false] at h ⊢
        cases c4 : (x.f0.data.toList == [106, 109, 112]) || (x.f0.data.toList == [106, 102]) with
        | true =>
          have hj2 : x.f0.data.toList = [106, 109, 112] ∨ x.f0.data.toList = [106, 102] := by
            rcases Bool.or_eq_true _ _ ▸ c4 with q | q
            · exact .inl (eq_of_beq q)
            · exact .inr (eq_of_beq q)
          obtain ⟨g1, g2⟩ := hok.jump hj2
          obtain ⟨l1, l2⟩ := leadP_len S x.f2.toNat s
          have b1 : x.f2.toNat < S.kn.length := by rw [hS.kn]; omega
          have b2 : x.f2.toNat < S.at_.length := by rw [hS.at_]; omega
          rw [c4] at h
          simp only [cond_true] at h ⊢
          cases c5 : (leadP S x.f2.toNat s).2 != 0 with
          | true => rw [c5] at h; simp only [cond_true] at h; rw [h] at c5; simp at c5
          | false =>
            rw [c5] at h
            simp only [cond_false] at h ⊢
            have z5 : (leadP S x.f2.toNat s).2 = 0 := by simpa using c5
            obtain ⟨k1, k2⟩ := lead_got b1 b2 z5
            cases c6 : x.f0.data.toList != [106, 109, 112] with
            | true =>
              have n6 : x.f0.data.toList ≠ [106, 109, 112] := by simpa using c6
              have hn := nx n6
              rw [c6] at h
              simp only [cond_true] at h ⊢
              have b3 : j + 1 < (leadP S x.f2.toNat s).1.kn.length := by rw [l1, hS.kn]; exact hn
              have b4 : j + 1 < (leadP S x.f2.toNat s).1.at_.length := by rw [l2, hS.at_]; exact hn
              have k3 := lead_got b3 b4 h
              have x2 := lead_ext (leadP S x.f2.toNat s).1 (j + 1) s
              refine ⟨(lead_ext _ _ _).trans x2, hs, fun q => absurd q n2, fun _ _ => ⟨hn, k3⟩, fun _ => ?_⟩
              obtain ⟨y1, y2⟩ := x2 _ k1
              exact ⟨y1, y2.trans k2⟩
            | false =>
              have n6 : x.f0.data.toList = [106, 109, 112] := by simpa using c6
              simp only [cond_false]
              exact ⟨lead_ext _ _ _, hs, fun q => absurd q n2, fun _ q => absurd n6 q, fun _ => ⟨k1, k2⟩⟩
        | false =>
          have := or_f c4
          have n6 : x.f0.data.toList ≠ [106, 109, 112] := by simpa using this.1
          have n7 : x.f0.data.toList ≠ [106, 102] := by simpa using this.2
          rw [c4, show (x.f0.data.toList != [106, 109, 112]) = true by simpa using n6] at h
          rw [show (x.f0.data.toList != [106, 109, 112]) = true by simpa using n6]
          simp only [cond_false, cond_true] at h ⊢
          have hn := nx n6
          have k3 := lead_got (by rw [hS.kn]; exact hn) (by rw [hS.at_]; exact hn) h
          refine ⟨lead_ext _ _ _, hs, fun q => absurd q n2, fun _ _ => ⟨hn, k3⟩, fun q => ?_⟩
          rcases q with q | q
          · exact absurd q n6
          · exact absurd q n7
theorem stepP_ok {S : LS} {x : GInst} {j len : Nat} {inn : Ty} {s : List Ty} (hS : LInv len S) (hok : InstOk x j len) (hj : j < len) (h : (stepP S x j len inn s).2 = 0) :
    (takesP x).toNat ≤ s.length ∧ ∃ m, m = madeP S.out x inn (s.drop (s.length - (takesP x).toNat)) ∧ m.2.2.2 = 0 ∧ Ext S (stepP S x j len inn s).1 ∧
      Goon (stepP S x j len inn s).1 x j len (bif m.2.2.1 then s.take (s.length - (takesP x).toNat) ++ [m.2.1] else s.take (s.length - (takesP x).toNat)) := by
  obtain ⟨t0, t8⟩ := hok.take
  unfold stepP at h ⊢
  cases c1 : decide ((s.length : Int) < takesP x) with
  | true => rw [c1] at h; simp at h
  | false =>
    have c1' := of_decide_eq_false c1
    rw [c1] at h
    simp only [cond_false] at h ⊢
    refine ⟨by omega, _, rfl, ?_⟩
    generalize madeP S.out x inn (s.drop (s.length - (takesP x).toNat)) = m at h ⊢
    cases c2 : m.2.2.2 != 0 with
    | true => rw [c2] at h; simp only [cond_true] at h; rw [h] at c2; simp at c2
    | false =>
      rw [c2] at h
      simp only [cond_false] at h ⊢
      obtain ⟨e1, e2⟩ := stepA_ok (hS.out m.1) hok hj h
      exact ⟨by simpa using c2, e1, e2⟩
theorem adv {p : List GInst} {inn : Ty} (hok : ∀ (k : Nat) (x : GInst), p[k]? = some x → InstOk x k p.length) : ∀ (d : Nat) {m j : Nat} {S : LS}, j + (m + d) = p.length → VOk p inn (m + d) j S → LInv p.length S → S.k (j + d) = true → ∃ S', VOk p inn m (j + d) S' ∧ LInv p.length S' ∧ S'.k (j + d) = true ∧ S'.s (j + d) = S.s (j + d)
  | 0, m, j, S, h, hv, hS, hk => ⟨S, hv, hS, hk, rfl⟩
  | d + 1, m, j, S, h, hv, hS, hk => by
    rw [← Nat.add_assoc] at hv
    rw [show j + (d + 1) = j + 1 + d by omega] at hk ⊢
    rcases hv with ⟨_, hv⟩ | ⟨_, x, hx, hz, hv⟩
    · exact adv hok d (by omega) hv hS hk
    · obtain ⟨_, m', _, _, he, _⟩ := stepP_ok hS (hok j x hx) (by omega) hz
      obtain ⟨k1, k2⟩ := he _ hk
      obtain ⟨S', q1, q2, q3, q4⟩ := adv hok d (by omega) hv (hS.stepP _ _ _ _ _) k1
      exact ⟨S', q1, q2, q3, q4.trans k2⟩

/-! ### the document's run -/
def body41 (p : List GInst) (x : Val) (j : Int) (i : GInst) (t s' out : List Val) (n : Nat) : Option (List Val × Int) :=
  (bif (i.f0.data.toList == [112, 117, 115, 104]) then (if 0 ≤ j then ((p[j.toNat]?).bind fun x59 => (if s'.length + 1 ≤ 1000000 then (s_f41_l1 n p x (s' ++ [x59.f1]) (IntKind.i64.wrap (j + 1)) out) else none)) else none) else (bif (i.f0.data.toList == [120]) then (if s'.length + 1 ≤ 1000000 then (s_f41_l1 n p x (s' ++ [x]) (IntKind.i64.wrap (j + 1)) out) else none) else (bif (i.f0.data.toList == [106, 109, 112]) then (if 0 ≤ j then ((p[j.toNat]?).bind fun x66 => (s_f41_l1 n p x s' x66.f2 out)) else none) else (bif (i.f0.data.toList == [106, 102]) then ((t[0]?).bind fun x70 => (bif (!x70.b) then (if 0 ≤ j then ((p[j.toNat]?).bind fun x73 => (s_f41_l1 n p x s' x73.f2 out)) else none) else (s_f41_l1 n p x s' (IntKind.i64.wrap (j + 1)) out))) else (bif (i.f0.data.toList == [101, 109, 105, 116]) then (if out.length + t.length ≤ 1000000 then (s_f41_l1 n p x s' (IntKind.i64.wrap (j + 1)) (out ++ t)) else none) else (bif (i.f0.data.toList == [114, 101, 116]) then some (out, 0) else (if 0 ≤ j then ((p[j.toNat]?).bind fun x79 => (if 0 ≤ j then ((p[j.toNat]?).bind fun x82 => ((s_f63 n x79.f0 x82.f2 t).bind fun q85 => (bif (q85.2 != 0) then some ([], q85.2) else (if s'.length + 1 ≤ 1000000 then (s_f41_l1 n p x (s' ++ [q85.1]) (IntKind.i64.wrap (j + 1)) out) else none)))) else none)) else none)))))))
theorem e41h {p : List GInst} {x : Val} {j : Nat} {i : GInst} (hi : p[j]? = some i) {st out : List Val} (h0 : 0 ≤ takesP i) (hk : (takesP i).toNat ≤ st.length) (hst : st.length ≤ 1000) {R : List Val × Int}
    (h : Ev (body41 p x (j : Int) i (st.drop (st.length - (takesP i).toNat)) (st.take (st.length - (takesP i).toNat)) out) R) : Ev (fun n => s_f41_l1 n p x st (j : Int) out) R := by
  have hlt : j < p.length := (List.getElem?_eq_some_iff.1 hi).1
  have w1 : IntKind.i64.wrap ((st.length : Int) - takesP i) = ((st.length - (takesP i).toNat : Nat) : Int) := by rw [wrap64 (by omega) (by omega)]; omega
  have hi' : p[(j : Int).toNat]? = some i := by rw [Int.toNat_natCast]; exact hi
  refine Ev.succ ?_
  simp only [s_f41_l1]
  refine Ev.t (cj_t hlt) (Ev.g (Int.natCast_nonneg j) (Ev.bindc hi' (Ev.bind (e74 i) ?_)))
  rw [w1]
  simp only [Int.toNat_natCast (st.length - (takesP i).toNat)]
  exact Ev.g ⟨by omega, by omega⟩ (Ev.g (by simp; omega) (Ev.g ⟨by omega, by omega⟩ (Ev.g (by simp; omega) (Ev.g (Int.natCast_nonneg j) (Ev.bindc hi' h)))))
end Go.Proofs.Ytbcjcekoonebiaa.Tl

set_option linter.unusedVariables false
set_option linter.unusedSimpArgs false
namespace Go.Proofs.Ytbcjcekoonebiaa.Tl
open Go Go.RowKit
theorem OKvs.drop : ∀ {vs : List Val} {ts : List Ty} (n : Nat), OKvs vs ts → OKvs (vs.drop n) (ts.drop n)
  | vs, ts, 0, h => by simpa using h
  | [], [], n + 1, h => by simp [OKvs]
  | [], _ :: _, n + 1, h => by simp [OKvs] at h
  | _ :: _, [], n + 1, h => by simp [OKvs] at h
  | v :: vs, t :: ts, n + 1, h => OKvs.drop n h.2
theorem OKvs.take : ∀ {vs : List Val} {ts : List Ty} (n : Nat), OKvs vs ts → OKvs (vs.take n) (ts.take n)
  | vs, ts, 0, h => by simp [OKvs]
  | [], [], n + 1, h => by simp [OKvs]
  | [], _ :: _, n + 1, h => by simp [OKvs] at h
  | _ :: _, [], n + 1, h => by simp [OKvs] at h
  | v :: vs, t :: ts, n + 1, h => ⟨h.1, OKvs.take n h.2⟩
theorem OKvs.app : ∀ {vs ws : List Val} {ts us : List Ty}, OKvs vs ts → OKvs ws us → OKvs (vs ++ ws) (ts ++ us)
  | [], ws, [], us, h, k => k
  | [], _, _ :: _, _, h, _ => by simp [OKvs] at h
  | _ :: _, _, [], _, h, _ => by simp [OKvs] at h
  | v :: vs, ws, t :: ts, us, h, k => ⟨h.1, OKvs.app h.2 k⟩
theorem OKvs.bd : ∀ {vs : List Val} {ts : List Ty}, OKvs vs ts → ∀ y ∈ vs, BdV y
  | [], [], _, y, hy => by simp at hy
  | [], _ :: _, h, _, _ => by simp [OKvs] at h
  | _ :: _, [], h, _, _ => by simp [OKvs] at h
  | v :: vs, t :: ts, h, y, hy => by
    rcases List.mem_cons.1 hy with rfl | hy
    · exact h.1.bd
    · exact OKvs.bd h.2 y hy
theorem OKvs.one {v : Val} {t : Ty} (h : OKv v t) : OKvs [v] [t] := ⟨h, trivial⟩
theorem zeroB_eq {v : Val} (h : zeroB v = true) : v = zeroV := by
  cases v with
  | mk k i b s t =>
    simp only [zeroB, Val.kind, Val.i, Val.b, Val.s, Val.t, Bool.and_eq_true, beq_iff_eq, Bool.not_eq_true'] at h
    obtain ⟨⟨⟨⟨h1, h2⟩, h3⟩, h4⟩, h5⟩ := h
    have h6 : t = [] := List.eq_nil_of_length_eq_zero (by omega)
    have h7 := ba_eq h4
    subst h1 h2 h3 h6 h7
    rfl
structure DefOp (i : GInst) : Prop where
  ar : arS i.f0.data.toList ≠ -2
  n1 : i.f0.data.toList ≠ [108, 105, 116]
  n2 : i.f0.data.toList ≠ [120]
  n3 : i.f0.data.toList ≠ [97, 110, 100]
  n4 : i.f0.data.toList ≠ [111, 114]
  n5 : i.f0.data.toList ≠ [105, 102]
  ret : (i.f0.data.toList == [114, 101, 116]) = false
  jmp : (i.f0.data.toList == [106, 109, 112]) = false
  jf : (i.f0.data.toList == [106, 102]) = false
  push : (i.f0.data.toList == [112, 117, 115, 104]) = false
  emit : (i.f0.data.toList == [101, 109, 105, 116]) = false
  len : (((decide (arS i.f0.data.toList ≥ 0)) && (((takesP i).toNat : Int) != arS i.f0.data.toList)) || ((decide (arS i.f0.data.toList < 0)) && ((decide (((takesP i).toNat : Int) < 1)) || (decide (((takesP i).toNat : Int) > 8))))) = false
  eq : i = opI i.f0 i.f2 (takesP i).toNat
theorem defop {i : GInst} {j len : Nat} (h : InstOk i j len) (c1 : i.f0.data.toList ≠ [112, 117, 115, 104]) (c2 : i.f0.data.toList ≠ [120]) (c3 : i.f0.data.toList ≠ [106, 109, 112]) (c4 : i.f0.data.toList ≠ [106, 102]) (c5 : i.f0.data.toList ≠ [101, 109, 105, 116]) (c6 : i.f0.data.toList ≠ [114, 101, 116]) : DefOp i := by
  have hm := h.mem
  obtain ⟨p1, p2, _⟩ := h.peel
  have hz : i.f1 = zeroV := by
    rw [show (i.f0.data.toList != [112, 117, 115, 104]) = true by simpa using c1, Bool.true_and] at p2
    exact zeroB_eq (by simpa using p2)
  have hta : 0 ≤ arS i.f0.data.toList → takesP i = arS i.f0.data.toList := by
    simp only [opsB, List.mem_cons, List.not_mem_nil, or_false] at hm
    intro ha
    unfold takesP
    rcases hm with e | e | e | e | e | e | e | e | e | e | e | e | e | e | e | e | e | e | e <;> rw [e] at c1 c2 c3 c4 c5 c6 ha ⊢ <;> first | exact absurd rfl c1 | exact absurd rfl c2 | exact absurd rfl c3 | exact absurd rfl c4 | exact absurd rfl c5 | exact absurd rfl c6 | exact absurd ha (by decide) | rfl
  have hall : arS i.f0.data.toList ≠ -2 ∧ i.f0.data.toList ≠ [108, 105, 116] ∧ i.f0.data.toList ≠ [97, 110, 100] ∧ i.f0.data.toList ≠ [111, 114] ∧ i.f0.data.toList ≠ [105, 102] ∧ (arS i.f0.data.toList < 0 → i.f0.data.toList = [116, 117, 112]) := by
    simp only [opsB, List.mem_cons, List.not_mem_nil, or_false] at hm
    rcases hm with e | e | e | e | e | e | e | e | e | e | e | e | e | e | e | e | e | e | e <;> rw [e] at c1 c2 c3 c4 c5 c6 ⊢ <;> first | exact absurd rfl c1 | exact absurd rfl c2 | exact absurd rfl c3 | exact absurd rfl c4 | exact absurd rfl c5 | exact absurd rfl c6 | decide
  obtain ⟨a1, a2, a3, a4, a5, a6⟩ := hall
  obtain ⟨t0, t8⟩ := h.take
  refine ⟨a1, a2, c2, a3, a4, a5, beq_false_of_ne c6, beq_false_of_ne c3, beq_false_of_ne c4, beq_false_of_ne c1, beq_false_of_ne c5, ?_, ?_⟩
  · by_cases hn : 0 ≤ arS i.f0.data.toList
    · have e := hta hn
      rw [decide_eq_true (show arS i.f0.data.toList ≥ 0 from hn), decide_eq_false (show ¬ arS i.f0.data.toList < 0 by omega)]
      have : ((takesP i).toNat : Int) = arS i.f0.data.toList := by omega
      rw [this]
      simp
    · have ht := a6 (by omega)
      have e : takesP i = i.f2 := by unfold takesP; rw [ht]; rfl
      have := h.tup ht
      rw [decide_eq_false (show ¬ arS i.f0.data.toList ≥ 0 by omega), decide_eq_true (show arS i.f0.data.toList < 0 by omega), decide_eq_false (by omega), decide_eq_false (by omega)]
      rfl
  · have hi : i = ⟨i.f0, zeroV, i.f2⟩ := by rw [← hz, GInst.eta]
    unfold opI
    cases d1 : i.f0.data.toList == [97, 116] with
    | true =>
      have e := ba_eq (eq_of_beq d1)
      rw [hi, e]
      rfl
    | false =>
      cases d2 : i.f0.data.toList == [116, 117, 112] with
      | true =>
        have e := ba_eq (eq_of_beq d2)
        have e2 : takesP i = i.f2 := by unfold takesP; rw [eq_of_beq d2]; rfl
        have := h.tup (eq_of_beq d2)
        have e3 : (((takesP i).toNat : Nat) : Int) = i.f2 := by omega
        simp only [cond_false, cond_true, e3]
        rw [hi, e]
      | false =>
        have hc : cntB i.f0.data.toList = false := by
          unfold cntB
          rw [d1, d2, beq_false_of_ne c3, beq_false_of_ne c4, beq_false_of_ne c5]
          rfl
        rw [hc] at p1
        have : i.f2 = 0 := by simpa using p1
        simp only [cond_false]
        rw [← this]
        exact hi
theorem takes0 {i : GInst} (h : i.f0.data.toList = [112, 117, 115, 104] ∨ i.f0.data.toList = [120] ∨ i.f0.data.toList = [106, 109, 112] ∨ i.f0.data.toList = [114, 101, 116]) : takesP i = 0 := by
  unfold takesP
  rcases h with e | e | e | e <;> (rw [e]; rfl)
def Both (p : List GInst) (x : Val) (j : Nat) (st out : List Val) : Prop := ∃ R : List Val × Int, (∀ v, Ev (RunF p x j st out v) R) ∧ Ev (fun n => s_f41_l1 n p x st (j : Int) out) R ∧ (∀ y ∈ R.1, BdV y) ∧ R.1.length ≤ 1000000
theorem run_both {p : List GInst} {inn : Ty} {x : Val} (hp : p.length ≤ 1000) (hok : ∀ (k : Nat) (i : GInst), p[k]? = some i → InstOk i k p.length) (hx : OKv x inn) : ∀ (m j : Nat) (S : LS) (st out : List Val), j + m = p.length → j < p.length → VOk p inn m j S → LInv p.length S → S.k j = true → OKvs st (S.s j) → (∀ y ∈ out, BdV y) → out.length ≤ 8 * j → Both p x j st out := by
  intro m
  induction m using Nat.strongRecOn with
  | _ m ih =>
    intro j S st out h hj hv hS hk hst hout hol
    cases m with
    | zero => omega
    | succ m =>
      rcases hv with ⟨hk0, _⟩ | ⟨_, i, hi, hz, hv⟩
      · rw [hk] at hk0; cases hk0
      have iok := hok j i hi
      obtain ⟨t0, t8⟩ := iok.take
      obtain ⟨hks, q, hq, hqe, hext, hgo⟩ := stepP_ok hS iok hj hz
      have hS' := hS.stepP i j p.length inn (S.s j)
      have hsl := hst.len
      have hlow := hS.s j
      have hks' : (takesP i).toNat ≤ st.length := by omega
      have w1 : IntKind.i64.wrap ((j : Int) + 1) = ((j + 1 : Nat) : Int) := by rw [wrap64 (by omega) (by omega)]; omega
      have hi' : p[(j : Int).toNat]? = some i := by rw [Int.toNat_natCast]; exact hi
      have hT := hst.take (st.length - (takesP i).toNat)
      have hD := hst.drop (st.length - (takesP i).toNat)
      have hsplit : st.take (st.length - (takesP i).toNat) ++ st.drop (st.length - (takesP i).toNat) = st := List.take_append_drop _ _
      have hDl : (st.drop (st.length - (takesP i).toNat)).length = (takesP i).toNat := by rw [List.length_drop]; omega
      have hTl : (st.take (st.length - (takesP i).toNat)).length = st.length - (takesP i).toNat := by rw [List.length_take]; omega
      have h41 := fun {R : List Val × Int} => e41h (p := p) (x := x) (j := j) (i := i) hi (st := st) (out := out) t0 hks' (by omega) (R := R)
      rw [hsl] at hT hD hsplit hDl hTl h41
      have hgl := hgo.low
      -- what goes on at another place
      have goto : ∀ (k : Nat) (st' out' : List Val), j < k → k < p.length → (stepP S i j p.length inn (S.s j)).1.k k = true → OKvs st' ((stepP S i j p.length inn (S.s j)).1.s k) → (∀ y ∈ out', BdV y) → out'.length ≤ 8 * k → Both p x k st' out' := by
        intro k st' out' hjk hkp hkk hst' ho' hl'
        obtain ⟨d, rfl⟩ : ∃ d, k = j + 1 + d := ⟨k - (j + 1), by omega⟩
        obtain ⟨m', rfl⟩ : ∃ m', m = m' + d := ⟨m - d, by omega⟩
        obtain ⟨S2, v1, v2, v3, v4⟩ := adv hok d (by omega) hv hS' hkk
        exact ih m' (by omega) (j + 1 + d) S2 st' out' (by omega) hkp v1 v2 v3 (by rw [v4]; exact hst') ho' hl'
      by_cases c1 : i.f0.data.toList = [112, 117, 115, 104]
      · -- push
        have e0 : (takesP i).toNat = 0 := by rw [takes0 (.inl c1)]; rfl
        have em : q = (S.out, tyV i.f1, true, 0) := by rw [hq]; unfold madeP; rw [c1]; rfl
        rw [em] at hgo
        simp only [cond_true] at hgo
        obtain ⟨n1, n2, n3⟩ := hgo.next (by rw [c1]; decide) (by rw [c1]; decide)
        have hck : ckV i.f1 0 = 0 := by have := iok.peel.2.2; rw [c1] at this; exact this
        have hv1 : OKv i.f1 (tyV i.f1) := ⟨((ckV_lf i.f1 0).1 hck).1, rfl, ((ckV_lf i.f1 0).1 hck).2⟩
        rw [e0, Nat.sub_zero] at hT n3
        rw [List.take_of_length_le (by omega)] at hT
        obtain ⟨R, r1, r2, r3⟩ := goto (j + 1) (st ++ [i.f1]) out (by omega) n1 n2 (by rw [n3]; exact hT.app (.one hv1)) hout (by omega)
        refine ⟨R, run_step hi (by rw [c1]; rfl) (by rw [c1]; rfl) (by rw [c1]; rfl) (st' := st ++ [i.f1]) (out' := out) ?_ (by omega) (by omega) (by omega) r1, h41 ?_, r3⟩
        · unfold stepM; rw [c1]; rfl
        · unfold body41
          rw [c1]
          rw [e0, Nat.sub_zero, List.take_of_length_le (by omega)]
          refine Ev.t rfl (Ev.g (Int.natCast_nonneg j) (Ev.bindc hi' (Ev.g (by omega) ?_)))
          rw [w1]
          exact r2
      by_cases c2 : i.f0.data.toList = [120]
      · -- x
        have e0 : (takesP i).toNat = 0 := by rw [takes0 (.inr (.inl c2))]; rfl
        have em : q = (S.out, inn, true, 0) := by rw [hq]; unfold madeP; rw [c2]; rfl
        rw [em] at hgo
        simp only [cond_true] at hgo
        obtain ⟨n1, n2, n3⟩ := hgo.next (by rw [c2]; decide) (by rw [c2]; decide)
        rw [e0, Nat.sub_zero] at hT n3
        rw [List.take_of_length_le (by omega)] at hT
        obtain ⟨R, r1, r2, r3⟩ := goto (j + 1) (st ++ [x]) out (by omega) n1 n2 (by rw [n3]; exact hT.app (.one hx)) hout (by omega)
        refine ⟨R, run_step hi (by rw [c2]; rfl) (by rw [c2]; rfl) (by rw [c2]; rfl) (st' := st ++ [x]) (out' := out) ?_ (by omega) (by omega) (by omega) r1, h41 ?_, r3⟩
        · unfold stepM; rw [c2]; rfl
        · unfold body41
          rw [c2]
          rw [e0, Nat.sub_zero, List.take_of_length_le (by omega)]
          refine Ev.f rfl (Ev.t rfl (Ev.g (by omega) ?_))
          rw [w1]
          exact r2
      by_cases c3 : i.f0.data.toList = [106, 109, 112]
      · -- jmp
        have e0 : (takesP i).toNat = 0 := by rw [takes0 (.inr (.inr (.inl c3)))]; rfl
        have em : q = (S.out, zT, false, 0) := by rw [hq]; unfold madeP; rw [c3]; rfl
        rw [em] at hgo
        simp only [cond_false] at hgo
        obtain ⟨g1, g2⟩ := iok.jump (.inl c3)
        obtain ⟨n2, n3⟩ := hgo.jump (.inl c3)
        rw [e0, Nat.sub_zero] at hT n3
        rw [List.take_of_length_le (by omega)] at hT
        have ek : i.f2 = ((i.f2.toNat : Nat) : Int) := by omega
        obtain ⟨R, r1, r2, r3⟩ := goto i.f2.toNat st out (by omega) (by omega) n2 (by rw [n3]; exact hT) hout (by omega)
        refine ⟨R, run_jmp hi (by rw [c3]; rfl) ek (by omega) r1, h41 ?_, r3⟩
        unfold body41
        rw [c3]
        rw [e0, Nat.sub_zero, List.take_of_length_le (by omega)]
        refine Ev.f rfl (Ev.f rfl (Ev.t rfl (Ev.g (Int.natCast_nonneg j) (Ev.bindc hi' ?_))))
        rw [ek]
        exact r2
      by_cases c4 : i.f0.data.toList = [106, 102]
      · -- jf
        have e1 : takesP i = 1 := by unfold takesP; rw [c4]; rfl
        have e1' : (takesP i).toNat = 1 := by rw [e1]; rfl
        have ef : q.2.2.1 = false := by
          rw [hq]; unfold madeP; rw [c4]
          show (bif (th ((S.s j).drop ((S.s j).length - (takesP i).toNat)) 0).kind != 2 then (S.out, zT, false, (5 : Int)) else (S.out, zT, false, 0)).2.2.1 = false
          cases (th ((S.s j).drop ((S.s j).length - (takesP i).toNat)) 0).kind != 2 <;> rfl
        rw [ef] at hgo
        simp only [cond_false] at hgo
        obtain ⟨g1, g2⟩ := iok.jump (.inr c4)
        obtain ⟨n2, n3⟩ := hgo.jump (.inr c4)
        obtain ⟨m1, m2, m3⟩ := hgo.next (by rw [c4]; decide) (by rw [c4]; decide)
        rw [e1'] at hT hD hsplit hDl hTl n3 m3 hks'
        have ek : i.f2 = ((i.f2.toNat : Nat) : Int) := by omega
        obtain ⟨y, hy⟩ : ∃ y, st.drop ((S.s j).length - 1) = [y] := by
          match st.drop ((S.s j).length - 1), hDl with
          | [y], _ => exact ⟨y, rfl⟩
        rw [hy] at hsplit
        have hb : Both p x (bif y.b then j + 1 else i.f2.toNat) (st.take ((S.s j).length - 1)) out := by
          cases y.b with
          | true => exact goto (j + 1) _ out (by omega) m1 m2 (by rw [m3]; exact hT) hout (by omega)
          | false => exact goto i.f2.toNat _ out (by omega) (by omega) n2 (by rw [n3]; exact hT) hout (by omega)
        obtain ⟨R, r1, r2, r3⟩ := hb
        have hrun := run_jf (i := i) (k := i.f2.toNat) hi (by rw [c4]; rfl) ek (by omega) (by omega) (y := y) (st := st.take ((S.s j).length - 1)) (by omega) r1
        rw [hsplit] at hrun
        refine ⟨R, hrun, h41 ?_, r3⟩
        unfold body41
        rw [c4, e1', hy]
        refine Ev.f rfl (Ev.f rfl (Ev.f rfl (Ev.t rfl (Ev.bindc rfl ?_))))
        cases hyb : y.b with
        | true =>
          rw [hyb] at r2
          refine Ev.f rfl ?_
          rw [w1]
          exact r2
        | false =>
          rw [hyb] at r2
          refine Ev.t rfl (Ev.g (Int.natCast_nonneg j) (Ev.bindc hi' ?_))
          rw [ek]
          exact r2
      by_cases c5 : i.f0.data.toList = [101, 109, 105, 116]
      · -- emit
        have e1 : takesP i = i.f2 := by unfold takesP; rw [c5]; rfl
        have ef : q.2.2.1 = false := by rw [hq]; unfold madeP; rw [c5]; rfl
        rw [ef] at hgo
        simp only [cond_false] at hgo
        obtain ⟨m1, m2, m3⟩ := hgo.next (by rw [c5]; decide) (by rw [c5]; decide)
        have hbd := hD.bd
        obtain ⟨R, r1, r2, r3⟩ := goto (j + 1) (st.take ((S.s j).length - (takesP i).toNat)) (out ++ st.drop ((S.s j).length - (takesP i).toNat)) (by omega) m1 m2 (by rw [m3]; exact hT) (fun y hy => by
          rcases List.mem_append.1 hy with hy | hy
          · exact hout y hy
          · exact hbd y hy) (by rw [List.length_append, hDl]; omega)
        refine ⟨R, run_step hi (by rw [c5]; rfl) (by rw [c5]; rfl) (by rw [c5]; rfl) (st' := st.take ((S.s j).length - (takesP i).toNat)) (out' := out ++ st.drop ((S.s j).length - (takesP i).toNat)) ?_ (by omega) (by omega) (by omega) r1, h41 ?_, r3⟩
        · unfold stepM
          rw [c5]
          show (if 0 ≤ i.f2 ∧ i.f2.toNat ≤ st.length then some (st.take (st.length - i.f2.toNat), out ++ st.drop (st.length - i.f2.toNat), (0 : Int)) else none) = _
          rw [← e1, if_pos ⟨t0, hks'⟩, hsl]
        · unfold body41
          rw [c5]
          refine Ev.f rfl (Ev.f rfl (Ev.f rfl (Ev.f rfl (Ev.t rfl (Ev.g (by rw [hDl]; omega) ?_)))))
          rw [w1]
          exact r2
      by_cases c6 : i.f0.data.toList = [114, 101, 116]
      · -- ret
        refine ⟨(out, 0), run_ret hi (by rw [c6]; rfl) st out, h41 ?_, hout, by show out.length ≤ _; omega⟩
        unfold body41
        rw [c6]
        exact Ev.f rfl (Ev.f rfl (Ev.f rfl (Ev.f rfl (Ev.f rfl (Ev.t rfl (Ev.mk _))))))
      · -- what makes something
        have D := defop iok c1 c2 c3 c4 c5 c6
        have em : q = (S.out, (opTy i.f0.data.toList i.f2 ((S.s j).drop ((S.s j).length - (takesP i).toNat))).1, true, (opTy i.f0.data.toList i.f2 ((S.s j).drop ((S.s j).length - (takesP i).toNat))).2) := by
          rw [hq]; unfold madeP
          rw [D.push, beq_false_of_ne c2, D.jf, D.emit, D.jmp, D.ret]
          rfl
        rw [em] at hgo hqe
        simp only [cond_true] at hgo hqe
        obtain ⟨m1, m2, m3⟩ := hgo.next c6 c3
        have hDs : ((S.s j).drop ((S.s j).length - (takesP i).toNat)).length = (takesP i).toNat := by rw [List.length_drop]; omega
        obtain ⟨w, e, a1, a2, a3, a4⟩ := made (t := (opTy i.f0.data.toList i.f2 ((S.s j).drop ((S.s j).length - (takesP i).toNat))).1) hD D.ar (by rw [hDs]; exact D.len) D.n1 D.n2 D.n3 D.n4 D.n5 (by rw [← hqe])
        have hst' := step_op (o := i.f0) (m := i.f2) (ws := st.drop ((S.s j).length - (takesP i).toNat)) (arn_of D.ar (by rw [hDl]; exact D.len)) D.n1 D.n2 D.n3 D.n4 D.n5 a1 x (st.take ((S.s j).length - (takesP i).toNat)) out (by omega)
        rw [hDl, ← D.eq, hsplit] at hst'
        have hb41 : ∀ {R : List Val × Int}, Ev (fun n => (s_f63 n i.f0 i.f2 (st.drop ((S.s j).length - (takesP i).toNat))).bind fun q85 => (bif (q85.2 != 0) then some ([], q85.2) else (if (st.take ((S.s j).length - (takesP i).toNat)).length + 1 ≤ 1000000 then (s_f41_l1 n p x (st.take ((S.s j).length - (takesP i).toNat) ++ [q85.1]) (IntKind.i64.wrap ((j : Int) + 1)) out) else none))) R → Ev (body41 p x (j : Int) i (st.drop ((S.s j).length - (takesP i).toNat)) (st.take ((S.s j).length - (takesP i).toNat)) out) R := fun {R} hR => by
          unfold body41
          refine Ev.f D.push (Ev.f (beq_false_of_ne c2) (Ev.f D.jmp (Ev.f D.jf (Ev.f D.emit (Ev.f D.ret (Ev.g (Int.natCast_nonneg j) (Ev.bindc hi' (Ev.g (Int.natCast_nonneg j) (Ev.bindc hi' hR)))))))))
        by_cases he : e = 0
        · subst he
          obtain ⟨R, r1, r2, r3⟩ := goto (j + 1) (st.take ((S.s j).length - (takesP i).toNat) ++ [w]) out (by omega) m1 m2 (by rw [m3]; exact hT.app (.one (a3 rfl))) hout (by omega)
          refine ⟨R, run_step hi D.ret D.jmp D.jf hst' (by omega) (by omega) (by omega) r1, h41 (hb41 (Ev.bind a2 (Ev.f rfl (Ev.g (by omega) ?_)))), r3⟩
          rw [w1]
          exact r2
        · refine ⟨([], e), run_err hi D.ret D.jmp D.jf hst' he (by omega) (by omega), h41 (hb41 (Ev.bind a2 (Ev.t (by simpa using he) (Ev.mk _)))), by simp, by simp⟩

/-! ### the law -/
theorem e38l (p : List GInst) (hp : p.length ≤ 1000) (hb : ∀ i ∈ p, BdV i.f1) : ∀ (r acc : List GInst) (j : Nat), acc ++ r = p → acc.length = j → Ev (fun n => s_f38_l1 n p acc j) p
  | [], acc, j, h, hj => by
    refine Ev.succ ?_
    subst hj
    simp only [List.append_nil] at h
    subst h
    simp only [s_f38_l1]
    exact Ev.f (cj_f (Nat.le_refl _)) (Ev.mk _)
  | x :: r, acc, j, h, hj => by
    refine Ev.succ ?_
    have hx : p[j]? = some x := by subst h hj; simp
    have hlt : j < p.length := (List.getElem?_eq_some_iff.1 hx).1
    have hm : x ∈ p := by rw [← h]; simp
    simp only [s_f38_l1]
    refine Ev.t (cj_t hlt) (Ev.bindc hx (Ev.bindc hx (Ev.bind (e22 _ (hb x hm)) (Ev.bindc hx (Ev.g (by omega) ?_)))))
    rw [GInst.eta]
    exact e38l p hp hb r (acc ++ [x]) (j + 1) (by simp [h]) (by simp [hj])
theorem e38 (p : List GInst) (hp : p.length ≤ 1000) (hb : ∀ i ∈ p, BdV i.f1) : Ev (fun n => s_f38 n p) p := by
  unfold s_f38
  exact e38l p hp hb p [] 0 rfl rfl
theorem e37l (p : List GInst) : ∀ (r : List GInst) (j : Nat), p.drop j = r → (Ev (fun n => s_f37_l1 n p j) true ∧ ∀ i ∈ r, BdV i.f1) ∨ Ev (fun n => s_f37_l1 n p j) false
  | [], j, h => by
    left
    refine ⟨Ev.succ ?_, by simp⟩
    simp only [s_f37_l1]
    exact Ev.f (cj_f (drop_n h)) (Ev.mk _)
  | x :: r, j, h => by
    obtain ⟨h1, h2, h3⟩ := drop_c h
    cases hs : decide ((x.f0.size : Int) > 20) with
    | true =>
      right
      refine Ev.succ ?_
      simp only [s_f37_l1]
      exact Ev.t (cj_t h1) (Ev.bindc h2 (Ev.t hs (Ev.mk _)))
    | false =>
      cases hb : decide (bgV x.f1 12 300 > 0) with
      | false =>
        right
        refine Ev.succ ?_
        simp only [s_f37_l1]
        exact Ev.t (cj_t h1) (Ev.bindc h2 (Ev.f hs (Ev.bindc h2 (Ev.bind (hb ▸ e55 x.f1) (Ev.t rfl (Ev.mk _))))))
      | true =>
        have hbd := bg_bd x.f1 12 300 (of_decide_eq_true hb)
        rcases e37l p r (j + 1) h3 with ⟨q1, q2⟩ | q
        · left
          refine ⟨Ev.succ ?_, fun i hi => ?_⟩
          · simp only [s_f37_l1]
            exact Ev.t (cj_t h1) (Ev.bindc h2 (Ev.f hs (Ev.bindc h2 (Ev.bind (hb ▸ e55 x.f1) (Ev.f rfl q1)))))
          · rcases List.mem_cons.1 hi with rfl | hi
            · exact hbd
            · exact q2 i hi
        · right
          refine Ev.succ ?_
          simp only [s_f37_l1]
          exact Ev.t (cj_t h1) (Ev.bindc h2 (Ev.f hs (Ev.bindc h2 (Ev.bind (hb ▸ e55 x.f1) (Ev.f rfl q)))))
theorem e37 (p : List GInst) : (Ev (fun n => s_f37 n p) true ∧ p.length ≤ 300 ∧ ∀ i ∈ p, BdV i.f1) ∨ Ev (fun n => s_f37 n p) false := by
  unfold s_f37
  cases hc : decide ((p.length : Int) > 300) with
  | true => right; exact Ev.t rfl (Ev.mk _)
  | false =>
    have := of_decide_eq_false hc
    rcases e37l p p 0 rfl with ⟨q1, q2⟩ | q
    · left; exact ⟨Ev.f rfl q1, by omega, q2⟩
    · right; exact Ev.f rfl q
theorem e42l (a : List Val) (hb : ∀ y ∈ a, BdV y) : ∀ (r : List Val) (j : Nat), a.drop j = r → Ev (fun n => s_f42_l1 n a a j) true
  | [], j, h => by
    refine Ev.succ ?_
    simp only [s_f42_l1]
    exact Ev.f (cj_f (drop_n h)) (Ev.mk _)
  | x :: r, j, h => by
    obtain ⟨h1, h2, h3⟩ := drop_c h
    have hx := hb x (List.mem_of_getElem? h2)
    refine Ev.succ ?_
    simp only [s_f42_l1]
    exact Ev.t (cj_t h1) (Ev.bindc h2 (Ev.bind (e22 x hx) (Ev.bindc h2 (Ev.bind (e25 x x hx) (Ev.f (by simp [cmpV_self]) (e42l a hb r (j + 1) h3))))))
theorem e42 (a : List Val) (hb : ∀ y ∈ a, BdV y) : Ev (fun n => s_f42 n a a) true := by
  unfold s_f42
  exact Ev.f (by simp) (e42l a hb a 0 rfl)
theorem s8 (p : List GInst) (x : Val) : Ev (fun n => s_f8 n p x) true := by
  unfold s_f8
  refine Ev.bind e36 (Ev.f rfl ?_)
  rcases e37 p with ⟨hf, hl, hb⟩ | hf
  · refine Ev.bind hf (Ev.f rfl ?_)
    rcases e18 x with ⟨hbx, hcx, hg⟩ | hg
    · refine Ev.bind hg (Ev.f rfl (Ev.bind (e38 p (by omega) hb) (Ev.bind (e22 x hbx) (Ev.bind (e21 x hbx) (Ev.bind (e39 p (tyV x) (by omega) hb) ?_)))))
      cases hq : (verP p (tyV x)).2.2 != 0 with
      | true => exact Ev.t rfl (Ev.mk _)
      | false =>
        refine Ev.f rfl ?_
        have hq := bne_f hq
        obtain ⟨l1, l2⟩ := (ckV_lf x 0).1 hcx
        have hx : OKv x (tyV x) := ⟨l1, rfl, l2⟩
        unfold verP at hq
        cases hc : (ckP p).2 != 0 with
        | true => rw [hc] at hq; simp only [cond_true] at hq; rw [hq] at hc; simp at hc
        | false =>
          rw [hc] at hq
          have hc := bne_f hc
          rw [l2] at hq
          simp only [cond_false, bne_self_eq_false] at hq
          obtain ⟨h1, h2⟩ := ckP_all hc
          have hpos : 0 < p.length := List.length_pos_iff.2 h1
          obtain ⟨R, r1, r2, r3, r4⟩ := run_both (p := p) (by omega) (fun k i hk => ⟨hb i (List.mem_of_getElem? hk), h2 k i hk⟩) hx p.length 0 (ls0 p) [] [] (by omega) hpos (verL_ok (by omega) hq) (linv0 p) (by simp [LS.k, List.getElem?_set_self, hpos]) (by simp [LS.s, OKvs, List.getElem?_replicate, hpos]) (by simp) (by simp)
          have hr2 : Ev (fun n => s_f41 n p x) R := by unfold s_f41; exact r2
          exact Ev.bind (e40 (r1 0)) (Ev.bind (e22 x hbx) (Ev.bind hr2 (Ev.t (by simp) (Ev.bind (e42 R.1 r3) (Ev.mk _)))))
    · exact Ev.bind hg (Ev.t rfl (Ev.mk _))
  · exact Ev.bind hf (Ev.t rfl (Ev.mk _))
end Go.Proofs.Ytbcjcekoonebiaa.Tl

set_option linter.unusedVariables false
set_option linter.unusedSimpArgs false
namespace Go.Proofs.Ytbcjcekoonebiaa.Tl
open Go Go.RowKit
abbrev Pw (w : World) : Cx := Pu (fun _ _ => True) w
def ones (cs : List Value) : Prop := ∀ u ∈ cs, u.oneCell' = true

theorem RdR.of_get {C : Cx} {sz : Nat} : ∀ {rows : List (List AV)} {b off : Nat}, (∀ i r, rows[i]? = some r → r.length = sz ∧ RdC C r b (off + i * sz)) → RdR C sz rows b off
  | [], b, off, _ => by simp [RdR]
  | r :: rs, b, off, h => by
    simp only [RdR]
    have h0 := h 0 r (by simp)
    simp only [Nat.zero_mul, Nat.add_zero] at h0
    refine ⟨h0.1, h0.2, RdR.of_get fun i q hq => ?_⟩
    have := h (i + 1) q (by simpa using hq)
    rw [show off + sz + i * sz = off + (i + 1) * sz by rw [Nat.add_mul]; omega]
    exact this

section
variable {H : Type} {enc : TypeId × Value → H} {P : Program} {w : World} {base : Nat} {sp : Nat → Bool} {hd : Bool}
theorem open_sl {fuel : Nat} {t e : TypeId} {cs : List Value} {x : DataW H × List MemPlace} (ht : P.underlying t = some (.slice e)) {α : Type} (c : α → List AV) (p : α → Prop) (sz : Nat) (hsz : P.cellsOf e = sz) (h0 : 0 < sz) (hc : ∀ a, (c a).length = sz)
    (ih : ∀ n, n < fuel → ∀ cs x, DataW.trod enc P w base sp hd n e cs = some x → ∃ a : α, RdL (Pw w) (c a) cs ∧ ones cs ∧ p a)
    (h : DataW.trod enc P w base sp hd fuel t cs = some x) : ∃ (l : List α) (v : Value), cs = [v] ∧ Rd (Pw w) (.sl .ro sz (l.map c)) v ∧ v.oneCell' = true ∧ ∀ a ∈ l, p a := by
  rcases DataW.trod_slice ht h with ⟨rfl, rfl⟩ | ⟨a, len, cap, elems, rest, n, rfl, rfl, rfl, hb, hl, hm, hlen, hel, _, _⟩
  · exact ⟨[], .slice none 0 0, rfl, by simp only [Rd]; exact ⟨none, 0, rfl, Nat.le_refl _, by simp, .inl rfl, trivial⟩, rfl, by simp⟩
  · rw [hsz] at hel
    have key : ∀ k, k ≤ len → ∃ l : List α, l.length = k ∧ (∀ i y, l[i]? = some y → ∃ cs', w.cells? base (a.add (i * sz)) sz = some cs' ∧ RdL (Pw w) (c y) cs' ∧ ones cs') ∧ ∀ y ∈ l, p y := by
      intro k
      induction k with
      | zero => intro _; exact ⟨[], rfl, by simp, by simp⟩
      | succ k ihk =>
        intro hk
        obtain ⟨l, q1, q2, q3⟩ := ihk (by omega)
        have h1 := hel k (by omega)
        rw [List.getElem?_eq_getElem (by omega)] at h1
        obtain ⟨cs', h2, h3⟩ := Option.bind_eq_some_iff.1 h1
        obtain ⟨y, k1, k2, k3⟩ := ih n (by omega) cs' _ h3
        refine ⟨l ++ [y], by simp [q1], fun i z hz => ?_, fun z hz => ?_⟩
        · by_cases hi : i < k
          · rw [List.getElem?_append_left (by omega)] at hz; exact q2 i z hz
          · have hik : i = k := by
              have := (List.getElem?_eq_some_iff.1 hz).1
              simp [q1] at this
              omega
            subst hik
            rw [List.getElem?_append_right (by omega), q1] at hz
            simp at hz
            subst hz
            exact ⟨cs', h2, k1, k2⟩
        · rcases List.mem_append.1 hz with hz | hz
          · exact q3 z hz
          · simp at hz; subst hz; exact k3
    obtain ⟨l, q1, q2, q3⟩ := key len (Nat.le_refl _)
    refine ⟨l, .slice (some a) len cap, rfl, ?_, rfl, q3⟩
    simp only [Rd, List.length_map]
    refine ⟨some a, cap, by rw [q1], by omega, by simp only [maxLen] at hm; omega, ?_, trivial⟩
    cases l with
    | nil => exact .inl rfl
    | cons y0 l0 =>
      right
      have hsp : a.spot = none := by
        obtain ⟨cs', k1, _, _⟩ := q2 0 y0 rfl
        obtain ⟨_, k2, k3⟩ := World.cells?_some k1
        have k4 := k3 0 h0
        have hn : cs'[0]? = some (cs'[0]'(by omega)) := List.getElem?_eq_getElem (by omega)
        rw [hn] at k4
        simp only [Nat.zero_mul, Addr.add, if_true] at k4
        unfold World.cell? at k4
        split at k4
        · split at k4
          · cases k4
          · rename_i hs; simpa using hs
        · cases k4
      obtain ⟨b, off, spot⟩ := a
      simp only at hsp
      subst hsp
      refine ⟨b, off, rfl, RdR.of_get fun i r hr => ?_⟩
      rw [List.getElem?_map, Option.map_eq_some_iff] at hr
      obtain ⟨y, hy, rfl⟩ := hr
      obtain ⟨cs', k1, k2, k3⟩ := q2 i y hy
      obtain ⟨_, k4, k5⟩ := World.cells?_some k1
      refine ⟨hc y, RdC.mk k2 k3 (fun j u hj => ?_) (fun j hj => pu_ok fun _ => trivial)⟩
      have hjl : j < cs'.length := (List.getElem?_eq_some_iff.1 hj).1
      have := k5 j (by omega)
      rw [add_plain', add_plain'] at this
      exact this.trans hj

theorem open_i {fuel : Nat} {t : TypeId} {k : IntKind} {cs : List Value} {x : DataW H × List MemPlace} (ht : P.underlying t = some (.int k)) (h : DataW.trod enc P w base sp hd fuel t cs = some x) : ∃ n : Int, cs = [.int k n] ∧ (Lit.int k n).wf = true :=
  let ⟨n, h1, _, h2⟩ := DataW.trod_int ht h; ⟨n, h1, h2⟩
theorem open_b {fuel : Nat} {t : TypeId} {cs : List Value} {x : DataW H × List MemPlace} (ht : P.underlying t = some .bool) (h : DataW.trod enc P w base sp hd fuel t cs = some x) : ∃ b : Bool, cs = [.bool b] :=
  let ⟨n, h1, _⟩ := DataW.trod_bool ht h; ⟨n, h1⟩
theorem open_s {fuel : Nat} {t : TypeId} {cs : List Value} {x : DataW H × List MemPlace} (ht : P.underlying t = some .string) (h : DataW.trod enc P w base sp hd fuel t cs = some x) : ∃ s : ByteArray, cs = [.string s] ∧ s.size ≤ maxLen :=
  let ⟨n, h1, _, h2⟩ := DataW.trod_string ht h; ⟨n, h1, h2⟩
theorem open_st {fuel : Nat} {t : TypeId} {fs : Array Field} {cs : List Value} {x : DataW H × List MemPlace} (ht : P.underlying t = some (.struct fs)) (h : DataW.trod enc P w base sp hd fuel t cs = some x) :
    ∃ n, fuel = n + 1 ∧ cs.length = P.cellsOf t ∧ ∀ (i : Nat) (f : Field), fs[i]? = some f → ∃ y, DataW.trod enc P w base sp hd n f.type ((cs.drop f.offset).take (P.cellsOf f.type)) = some y := by
  obtain ⟨xs, n, h1, _, h3, h4, h5⟩ := DataW.trod_struct ht h
  refine ⟨n, h1, h3, fun i f hf => ?_⟩
  have hi : i < fs.size := (Array.getElem?_eq_some_iff.1 hf).1
  have := h5 i f hf
  rw [List.getElem?_eq_getElem (by omega)] at this
  exact ⟨_, this⟩
end
theorem open_fd {H : Type} {enc : TypeId × Value → H} {P : Program} {w : World} {base : Nat} {sp : Nat → Bool} {hd : Bool} {n : Nat} {fs : Array Field} {cs : List Value}
    (hf : ∀ (i : Nat) (f : Field), fs[i]? = some f → ∃ y, DataW.trod enc P w base sp hd n f.type ((cs.drop f.offset).take (P.cellsOf f.type)) = some y) (i : Nat) {f : Field} (h : fs[i]? = some f) (t off sz : Nat) (ht : f.type = t) (ho : f.offset = off) (hs : P.cellsOf t = sz) {cs' : List Value} (hc : (cs.drop off).take sz = cs') :
    ∃ y, DataW.trod enc P w base sp hd n t cs' = some y := by
  subst ht ho hs hc
  exact hf i f h

theorem ok_struct {P : Program} {w : World} {r : Reach} {base : Nat} {t : TypeId} {fs : Array Field} {v : Value} (ht : P.underlying t = some (.struct fs)) (h : Value.okWide P w r base t v) : ∃ cs, v = .agg cs := by
  unfold Value.okWide at h
  rw [ht] at h
  obtain ⟨cs, h, _⟩ := h
  exact ⟨cs, h⟩
theorem ok_slice {P : Program} {w : World} {r : Reach} {base : Nat} {t e : TypeId} {v : Value} (ht : P.underlying t = some (.slice e)) (h : Value.okWide P w r base t v) : ∃ A n c, v = .slice A n c := by
  unfold Value.okWide at h
  rw [ht] at h
  have h : Cell.okWide P w r base t v := h
  unfold Cell.okWide at h
  rw [ht] at h
  have h : Cell.ok P w r base t v := by
    cases v <;> exact h
  unfold Cell.ok at h
  rw [ht] at h
  cases v with
  | slice A n c => exact ⟨A, n, c, rfl⟩
  | _ => exact h.elim
theorem rd_struct {w : World} {c : List AV} {v : Value} {cs : Array Value} (hv : v = .agg cs) (h : RdL (Pw w) c v.cells.toList) (h1 : ones v.cells.toList) : Rd (Pw w) (.agg c) v := by
  subst hv
  simp only [Rd]
  exact ⟨cs, rfl, h, h1⟩
theorem rd_slice {w : World} {x : AV} {v u : Value} {A : Option Addr} {n c : Nat} (hv : v = .slice A n c) (hc : v.cells.toList = [u]) (h : Rd (Pw w) x u) : Rd (Pw w) x v := by
  subst hv
  have : [Value.slice A n c] = [u] := hc
  injection this with this
  rw [this]
  exact h

abbrev in64 (n : Int) : Prop := -9223372036854775808 ≤ n ∧ n ≤ 9223372036854775807
theorem in64_of {n : Int} (h : (Lit.int .i64 n).wf = true) : in64 n := by
  simp only [Lit.wf, Bool.and_eq_true, decide_eq_true_eq] at h
  exact h
mutual
def RgV : Val → Prop
  | .mk k i b s t => in64 k ∧ in64 i ∧ RgVs t
def RgVs : List Val → Prop
  | [] => True
  | x :: r => RgV x ∧ RgVs r
end
theorem RgVs_of : ∀ {l : List Val}, (∀ a ∈ l, RgV a) → RgVs l
  | [], _ => trivial
  | x :: r, h => ⟨h x (by simp), RgVs_of fun a ha => h a (by simp [ha])⟩
end Go.Proofs.Ytbcjcekoonebiaa.Tl

set_option linter.unusedVariables false
namespace Go.Proofs.Ytbcjcekoonebiaa.Tl
open Go Go.RowKit
section
variable {H : Type} {enc : TypeId × Value → H} {w : World} {base : Nat} {sp : Nat → Bool} {hd : Bool}
theorem open_V : ∀ (fuel : Nat) (cs : List Value) (x : DataW H × List MemPlace), DataW.trod enc Try.prog w base sp hd fuel 24 cs = some x → ∃ v : Val, RdL (Pw w) (valC v) cs ∧ ones cs ∧ RgV v := by
  intro fuel
  induction fuel using Nat.strongRecOn with
  | _ fuel ih =>
    intro cs x h
    obtain ⟨n, rfl, hl, hf⟩ := open_st Try.underlying24 h
    rw [show Try.prog.cellsOf 24 = 5 by kernel_rfl] at hl
    rcases cs with _ | ⟨c0, _ | ⟨c1, _ | ⟨c2, _ | ⟨c3, _ | ⟨c4, _ | ⟨c5, cs⟩⟩⟩⟩⟩⟩ <;> simp at hl
    obtain ⟨y0, g0⟩ := open_fd hf 0 rfl 3 0 1 rfl rfl (by kernel_rfl) (cs' := [c0]) rfl
    obtain ⟨y1, g1⟩ := open_fd hf 1 rfl 2 1 1 rfl rfl (by kernel_rfl) (cs' := [c1]) rfl
    obtain ⟨y2, g2⟩ := open_fd hf 2 rfl 4 2 1 rfl rfl (by kernel_rfl) (cs' := [c2]) rfl
    obtain ⟨y3, g3⟩ := open_fd hf 3 rfl 9 3 1 rfl rfl (by kernel_rfl) (cs' := [c3]) rfl
    obtain ⟨y4, g4⟩ := open_fd hf 4 rfl 22 4 1 rfl rfl (by kernel_rfl) (cs' := [c4]) rfl
    obtain ⟨k, e0, w0⟩ := open_i Try.underlying3 g0
    obtain ⟨i, e1, w1⟩ := open_i Try.underlying2 g1
    obtain ⟨b, e2⟩ := open_b Try.underlying4 g2
    obtain ⟨s, e3, _⟩ := open_s Try.underlying9 g3
    obtain ⟨l, u, e4, r4, o4, p4⟩ := open_sl Try.underlying22 valC RgV 5 (by kernel_rfl) (by decide) (fun _ => rfl) (fun m hm cs x hx => ih m (by omega) cs x hx) g4
    simp only [List.cons.injEq, and_true] at e0 e1 e2 e3 e4
    subst e0 e1 e2 e3 e4
    refine ⟨.mk k i b s l, ?_, ?_, in64_of w0, in64_of w1, RgVs_of p4⟩
    · rw [← encs_map] at r4
      simp only [RdL, Val.kind, Val.i, Val.b, Val.s, Val.t]
      exact ⟨by simp [Rd], by simp [Rd], by simp [Rd], by simp [Rd], r4, trivial⟩
    · intro u hu
      simp only [List.mem_cons, List.not_mem_nil, or_false] at hu
      rcases hu with rfl | rfl | rfl | rfl | rfl <;> first | rfl | exact o4
end
end Go.Proofs.Ytbcjcekoonebiaa.Tl

set_option linter.unusedVariables false
namespace Go.Proofs.Ytbcjcekoonebiaa.Tl
open Go Go.RowKit
section
variable {H : Type} {enc : TypeId × Value → H} {w : World} {base : Nat} {sp : Nat → Bool} {hd : Bool}
theorem open_slI (fuel : Nat) (cs : List Value) (x : DataW H × List MemPlace) (h : DataW.trod enc Try.prog w base sp hd fuel 67 cs = some x) : ∃ (l : List GInst) (u : Value), cs = [u] ∧ Rd (Pw w) (.sl .ro 7 (r_st_GInst l)) u ∧ u.oneCell' = true ∧ ∀ i ∈ l, RgV i.f1 := by
  refine open_sl Try.underlying67 c_st_GInst (fun i => RgV i.f1) 7 (by kernel_rfl) (by decide) (fun _ => rfl) (fun m hm cs x hx => ?_) h
  obtain ⟨n, rfl, hl, hf⟩ := open_st Try.underlying109 hx
  rw [show Try.prog.cellsOf 109 = 7 by kernel_rfl] at hl
  rcases cs with _ | ⟨c0, _ | ⟨c1, _ | ⟨c2, _ | ⟨c3, _ | ⟨c4, _ | ⟨c5, _ | ⟨c6, _ | ⟨c7, cs⟩⟩⟩⟩⟩⟩⟩⟩ <;> simp at hl
  obtain ⟨y0, g0⟩ := open_fd hf 0 rfl 9 0 1 rfl rfl (by kernel_rfl) (cs' := [c0]) rfl
  obtain ⟨y1, g1⟩ := open_fd hf 1 rfl 24 1 5 rfl rfl (by kernel_rfl) (cs' := [c1, c2, c3, c4, c5]) rfl
  obtain ⟨y2, g2⟩ := open_fd hf 2 rfl 3 6 1 rfl rfl (by kernel_rfl) (cs' := [c6]) rfl
  obtain ⟨s, e0, _⟩ := open_s Try.underlying9 g0
  obtain ⟨v, r1, o1, p1⟩ := open_V _ _ _ g1
  obtain ⟨i, e2, w2⟩ := open_i Try.underlying3 g2
  simp only [List.cons.injEq, and_true] at e0 e2
  subst e0 e2
  refine ⟨⟨s, v, i⟩, ?_, ?_, p1⟩
  · simp only [RdL] at r1
    simp only [RdL]
    exact ⟨by simp [Rd], r1.1, r1.2.1, r1.2.2.1, r1.2.2.2.1, r1.2.2.2.2.1, by simp [Rd], trivial⟩
  · intro u hu
    simp only [List.mem_cons, List.not_mem_nil, or_false] at hu
    rcases hu with rfl | rfl | rfl | rfl | rfl | rfl | rfl <;> first | rfl | (exact o1 _ (by simp))
end
end Go.Proofs.Ytbcjcekoonebiaa.Tl

set_option linter.unusedVariables false
set_option linter.unusedSimpArgs false
namespace Go.Proofs.Ytbcjcekoonebiaa.Tl
open Go Go.RowKit
end Go.Proofs.Ytbcjcekoonebiaa.Tl

set_option linter.unusedVariables false
set_option linter.unusedSimpArgs false
namespace Go.Proofs.Ytbcjcekoonebiaa.Tl
open Go Go.RowKit
end Go.Proofs.Ytbcjcekoonebiaa.Tl

set_option linter.unusedVariables false
set_option linter.unusedSimpArgs false
namespace Go.Proofs.Ytbcjcekoonebiaa.Tl
open Go Go.RowKit
end Go.Proofs.Ytbcjcekoonebiaa.Tl

set_option linter.unusedVariables false
set_option linter.unusedSimpArgs false
namespace Go.Proofs.Ytbcjcekoonebiaa.Tl
open Go Go.RowKit
end Go.Proofs.Ytbcjcekoonebiaa.Tl

set_option linter.unusedVariables false
namespace Go.Proofs.Ytbcjcekoonebiaa.Tl
open Go Go.RowKit
end Go.Proofs.Ytbcjcekoonebiaa.Tl

set_option linter.unusedVariables false
namespace Go.Proofs.Ytbcjcekoonebiaa.Tl
open Go Go.RowKit
theorem vmRun_walk (a0 : List GInst) (a1 : Val) (w : World) (v0 v1 : Value) (r0 : Rd (Pw w) (.sl .ro 7 (r_st_GInst a0)) v0) (r1 : Rd (Pw w) (.agg (valC a1)) v1) : Calls Try.prog 8 #[v0, v1] w fun e w' => e = .returned (.bool true) ∧ Below w.heap.size w w' := by
  obtain ⟨n, hn⟩ := (s8 a0 a1).get
  exact (w_f8 n a0 a1 true hn).law w _ ⟨r0, r1, trivial⟩
end Go.Proofs.Ytbcjcekoonebiaa.Tl
