/- A machine, as plain functions: what an instruction does, what a program lets out. Programs one behind the other; what is known of machines. What is known of machines. Values of the document, as plain functions: what may be, what is few, what is of a type. Values of the document compared, as plain functions. Types and expressions of the document, as plain functions. The document comes to the same: comparing, making, coming to values. The document's expressions come to what the program's do, of the type that is told. EvalAny, as a plain law. Programs of expressions, as plain functions; where they stand in others. Programs of operators, as plain functions. Numbers that go round; which of two stands first. What a machine does with an expression's program is what the expression comes to. Whole programs of expressions. What is few of operators; how long programs of expressions are. An operator that may be: its expressions may be. What is made of an operator does what that operator does. A law's arguments, as trees. How the arguments of this seat's laws are opened. How types and operators, as arguments, are opened. VmApply, whatever its arguments. Conditions: none. -/
import Derived.ChangeArms
import Derived.Carry
import Derived.KernelRfl
import Derived.Test.YtbcjcekoonebiaaGreatTlZVmApply5
set_option linter.unusedVariables false
set_option linter.unusedSimpArgs false
namespace Go.Proofs.YtbcjcekoonebiaaGreat.Tl
open Go Go.RowKit
def stepM (i : GInst) (x : Val) (st out : List Val) : Option (List Val × List Val × Int) :=
  bif i.f0.data.toList == [112, 117, 115, 104] then some (st ++ [i.f1], out, 0)
  else bif i.f0.data.toList == [120] then some (st ++ [x], out, 0)
  else bif i.f0.data.toList == [97, 116] then (if 1 ≤ st.length then ((st.drop (st.length - 1))[0]?).bind fun y => (if 0 ≤ i.f2 then (y.t[i.f2.toNat]?).bind fun z => some (st.take (st.length - 1) ++ [z], out, 0) else none) else none)
  else bif i.f0.data.toList == [116, 117, 112] then (if 0 ≤ i.f2 ∧ i.f2.toNat ≤ st.length then (tupS (st.drop (st.length - i.f2.toNat))).bind fun q => some (st.take (st.length - i.f2.toNat) ++ [q], out, 0) else none)
  else bif i.f0.data.toList == [101, 109, 105, 116] then (if 0 ≤ i.f2 ∧ i.f2.toNat ≤ st.length then some (st.take (st.length - i.f2.toNat), out ++ st.drop (st.length - i.f2.toNat), 0) else none)
  else bif i.f0.data.toList == [110, 101, 103] then (if 1 ≤ st.length then ((st.drop (st.length - 1))[0]?).bind fun y => (one3 i.f0 y).bind fun q => some (st.take (st.length - 1) ++ [q.1], out, 0) else none)
  else bif i.f0.data.toList == [110, 111, 116] then (if 1 ≤ st.length then ((st.drop (st.length - 1))[0]?).bind fun y => (one3 i.f0 y).bind fun q => some (st.take (st.length - 1) ++ [q.1], out, 0) else none)
  else bif i.f0.data.toList == [108, 101, 110] then (if 1 ≤ st.length then ((st.drop (st.length - 1))[0]?).bind fun y => (one3 i.f0 y).bind fun q => some (st.take (st.length - 1) ++ [q.1], out, 0) else none)
  else (if 2 ≤ st.length then ((st.drop (st.length - 2))[0]?).bind fun y => ((st.drop (st.length - 2))[1]?).bind fun z => (both3 i.f0 y z).bind fun q => bif q.2.1 != 0 then some (st.take (st.length - 2), out, q.2.1) else some (st.take (st.length - 2) ++ [q.1], out, 0) else none)
theorem e73a {i : GInst} {x : Val} {st out st' out' : List Val} {e : Int} (h : stepM i x st out = some (st', out', e)) (h1 : st.length + 1 ≤ 1000000) (h2 : out.length + st.length ≤ 1000000) (v : Nat) : ∃ v', Ev (fun n => s_f73 n ⟨x, ⟨v, st⟩, out⟩ i) (⟨x, ⟨v', st'⟩, out'⟩, e) := by
  have h1' : st.length ≤ 1000000 := by omega
  unfold stepM at h
  unfold s_f73
  simp only [show (1 : Int).toNat = 1 from rfl, show (2 : Int).toNat = 2 from rfl]
  cases c0 : i.f0.data.toList == [112, 117, 115, 104] with
  | true =>
    rw [c0] at h
    simp only [cond_true] at h ⊢
    simp only [Option.some.injEq, Prod.mk.injEq] at h
    obtain ⟨rfl, rfl, rfl⟩ := h
    exact ⟨v + 1, Ev.g h1 (Ev.mk _)⟩
  | false =>
    rw [c0] at h
    simp only [cond_false] at h ⊢
    cases c1 : i.f0.data.toList == [120] with
    | true =>
      rw [c1] at h
      simp only [cond_true] at h ⊢
      simp only [Option.some.injEq, Prod.mk.injEq] at h
      obtain ⟨rfl, rfl, rfl⟩ := h
      exact ⟨v + 1, Ev.g h1 (Ev.mk _)⟩
    | false =>
      rw [c1] at h
      simp only [cond_false] at h ⊢
      cases c2 : i.f0.data.toList == [97, 116] with
      | true =>
        rw [c2] at h
        simp only [cond_true] at h ⊢
        obtain ⟨g1, h⟩ := grd h
        obtain ⟨y, hy, h⟩ := bnd1 h
        obtain ⟨g2, h⟩ := grd h
        obtain ⟨z, hz, h⟩ := bnd1 h
        simp only [Option.some.injEq, Prod.mk.injEq] at h
        obtain ⟨rfl, rfl, rfl⟩ := h
        exact ⟨v + 1 + 1, Ev.g ⟨by decide, g1, h1'⟩ (Ev.bindc hy (Ev.g g2 (Ev.bindc hz (Ev.g (by rw [List.length_take]; omega) (Ev.mk _)))))⟩
      | false =>
        rw [c2] at h
        simp only [cond_false] at h ⊢
        cases c3 : i.f0.data.toList == [116, 117, 112] with
        | true =>
          rw [c3] at h
          simp only [cond_true] at h ⊢
          obtain ⟨g1, h⟩ := grd h
          obtain ⟨q, hq, h⟩ := bnd1 h
          simp only [Option.some.injEq, Prod.mk.injEq] at h
          obtain ⟨rfl, rfl, rfl⟩ := h
          exact ⟨v + 1 + 1, Ev.g ⟨g1.1, g1.2, h1'⟩ (Ev.bindc hq (Ev.g (by rw [List.length_take]; omega) (Ev.mk _)))⟩
        | false =>
          rw [c3] at h
          simp only [cond_false] at h ⊢
          cases c4 : i.f0.data.toList == [101, 109, 105, 116] with
          | true =>
            rw [c4] at h
            simp only [cond_true] at h ⊢
            obtain ⟨g1, h⟩ := grd h
            simp only [Option.some.injEq, Prod.mk.injEq] at h
            obtain ⟨rfl, rfl, rfl⟩ := h
            exact ⟨v + 1, Ev.g ⟨g1.1, g1.2, h1'⟩ (Ev.g (by rw [List.length_drop]; omega) (Ev.mk _))⟩
          | false =>
            rw [c4] at h
            simp only [cond_false] at h ⊢
            cases c5 : i.f0.data.toList == [110, 101, 103] with
            | true =>
              rw [c5] at h
              simp only [cond_true] at h ⊢
              obtain ⟨g1, h⟩ := grd h
              obtain ⟨y, hy, h⟩ := bnd1 h
              obtain ⟨q, hq, h⟩ := bnd1 h
              simp only [Option.some.injEq, Prod.mk.injEq] at h
              obtain ⟨rfl, rfl, rfl⟩ := h
              exact ⟨v + 1 + 1, Ev.g ⟨by decide, g1, h1'⟩ (Ev.bindc hy (Ev.bindc hq (Ev.g (by rw [List.length_take]; omega) (Ev.mk _))))⟩
            | false =>
              rw [c5] at h
              simp only [cond_false] at h ⊢
              cases c6 : i.f0.data.toList == [110, 111, 116] with
              | true =>
                rw [c6] at h
                simp only [cond_true] at h ⊢
                obtain ⟨g1, h⟩ := grd h
                obtain ⟨y, hy, h⟩ := bnd1 h
                obtain ⟨q, hq, h⟩ := bnd1 h
                simp only [Option.some.injEq, Prod.mk.injEq] at h
                obtain ⟨rfl, rfl, rfl⟩ := h
                exact ⟨v + 1 + 1, Ev.g ⟨by decide, g1, h1'⟩ (Ev.bindc hy (Ev.bindc hq (Ev.g (by rw [List.length_take]; omega) (Ev.mk _))))⟩
              | false =>
                rw [c6] at h
                simp only [cond_false] at h ⊢
                cases c7 : i.f0.data.toList == [108, 101, 110] with
                | true =>
                  rw [c7] at h
                  simp only [cond_true] at h ⊢
                  obtain ⟨g1, h⟩ := grd h
                  obtain ⟨y, hy, h⟩ := bnd1 h
                  obtain ⟨q, hq, h⟩ := bnd1 h
                  simp only [Option.some.injEq, Prod.mk.injEq] at h
                  obtain ⟨rfl, rfl, rfl⟩ := h
                  exact ⟨v + 1 + 1, Ev.g ⟨by decide, g1, h1'⟩ (Ev.bindc hy (Ev.bindc hq (Ev.g (by rw [List.length_take]; omega) (Ev.mk _))))⟩
                | false =>
                  rw [c7] at h
                  simp only [cond_false] at h ⊢
                  obtain ⟨g1, h⟩ := grd h
                  obtain ⟨y, hy, h⟩ := bnd1 h
                  obtain ⟨z, hz, h⟩ := bnd1 h
                  obtain ⟨q, hq, h⟩ := bnd1 h
                  cases hc : q.2.1 != 0 with
                  | true =>
                    rw [hc] at h
                    simp only [cond_true, Option.some.injEq, Prod.mk.injEq] at h
                    obtain ⟨rfl, rfl, rfl⟩ := h
                    exact ⟨v + 1, Ev.g ⟨by decide, g1, h1'⟩ (Ev.bindc hy (Ev.bindc hz (Ev.bindc hq (Ev.t hc (Ev.mk _)))))⟩
                  | false =>
                    rw [hc] at h
                    simp only [cond_false, Option.some.injEq, Prod.mk.injEq] at h
                    obtain ⟨rfl, rfl, rfl⟩ := h
                    exact ⟨v + 1 + 1, Ev.g ⟨by decide, g1, h1'⟩ (Ev.bindc hy (Ev.bindc hz (Ev.bindc hq (Ev.f hc (Ev.g (by rw [List.length_take]; omega) (Ev.mk _))))))⟩

abbrev RunF (p : List GInst) (x : Val) (j : Nat) (st out : List Val) (v : Nat) : Nat → Option (List Val × Int) := fun n => s_f40_l1 n p (j : Int) v st x.kind x.i x.b x.s x.t out
theorem val_eta (x : Val) : Val.mk x.kind x.i x.b x.s x.t = x := by cases x; rfl
theorem run_step {p : List GInst} {x : Val} {j : Nat} {i : GInst} (hi : p[j]? = some i) (c1 : (i.f0.data.toList == [114, 101, 116]) = false) (c2 : (i.f0.data.toList == [106, 109, 112]) = false) (c3 : (i.f0.data.toList == [106, 102]) = false) {st out st' out' : List Val} (h : stepM i x st out = some (st', out', 0))
    (h1 : st.length + 1 ≤ 1000000) (h2 : out.length + st.length ≤ 1000000) (hj : p.length ≤ 1000000) {R : List Val × Int} (k : ∀ v, Ev (RunF p x (j + 1) st' out' v) R) (v : Nat) : Ev (RunF p x j st out v) R := by
  have hlt : j < p.length := (List.getElem?_eq_some_iff.1 hi).1
  obtain ⟨v', e⟩ := e73a (x := x) h h1 h2 v
  refine Ev.succ ?_
  simp only [RunF, s_f40_l1]
  refine Ev.t (decide_eq_true (by omega)) (Ev.g (Int.natCast_nonneg j) (Ev.bindc (by rw [Int.toNat_natCast]; exact hi) (Ev.f c1 (Ev.f c2 (Ev.f c3 (Ev.bind (by rw [val_eta]; exact e) (Ev.f rfl ?_)))))))
  rw [wrap64 (by omega) (by omega)]
  exact k v'
theorem run_ret {p : List GInst} {x : Val} {j : Nat} {i : GInst} (hi : p[j]? = some i) (c1 : (i.f0.data.toList == [114, 101, 116]) = true) (st out : List Val) (v : Nat) : Ev (RunF p x j st out v) (out, 0) := by
  have hlt : j < p.length := (List.getElem?_eq_some_iff.1 hi).1
  refine Ev.succ ?_
  simp only [RunF, s_f40_l1]
  exact Ev.t (decide_eq_true (by omega)) (Ev.g (Int.natCast_nonneg j) (Ev.bindc (by rw [Int.toNat_natCast]; exact hi) (Ev.t c1 (Ev.mk _))))
theorem e40 {p : List GInst} {x : Val} {R : List Val × Int} (h : Ev (RunF p x 0 [] [] 0) R) : Ev (fun n => s_f40 n p x) R := by
  unfold s_f40
  exact h
theorem run_err {p : List GInst} {x : Val} {j : Nat} {i : GInst} (hi : p[j]? = some i) (c1 : (i.f0.data.toList == [114, 101, 116]) = false) (c2 : (i.f0.data.toList == [106, 109, 112]) = false) (c3 : (i.f0.data.toList == [106, 102]) = false) {st out st' out' : List Val} {e : Int} (h : stepM i x st out = some (st', out', e)) (he : e ≠ 0)
    (h1 : st.length + 1 ≤ 1000000) (h2 : out.length + st.length ≤ 1000000) (v : Nat) : Ev (RunF p x j st out v) ([], e) := by
  have hlt : j < p.length := (List.getElem?_eq_some_iff.1 hi).1
  obtain ⟨v', ev⟩ := e73a (x := x) h h1 h2 v
  refine Ev.succ ?_
  simp only [RunF, s_f40_l1]
  exact Ev.t (decide_eq_true (by omega)) (Ev.g (Int.natCast_nonneg j) (Ev.bindc (by rw [Int.toNat_natCast]; exact hi) (Ev.f c1 (Ev.f c2 (Ev.f c3 (Ev.bind (by rw [val_eta]; exact ev) (Ev.t (by simpa using he) (Ev.mk _))))))))
theorem run_jmp {p : List GInst} {x : Val} {j k : Nat} {i : GInst} (hi : p[j]? = some i) (c : (i.f0.data.toList == [106, 109, 112]) = true) (hk : i.f2 = (k : Int)) (hj : k ≤ 1000000) {st out : List Val} {R : List Val × Int} (h : ∀ v, Ev (RunF p x k st out v) R) (v : Nat) : Ev (RunF p x j st out v) R := by
  have hlt : j < p.length := (List.getElem?_eq_some_iff.1 hi).1
  have c' : i.f0.data.toList = [106, 109, 112] := by simpa using c
  refine Ev.succ ?_
  simp only [RunF, s_f40_l1]
  refine Ev.t (decide_eq_true (by omega)) (Ev.g (Int.natCast_nonneg j) (Ev.bindc (by rw [Int.toNat_natCast]; exact hi) (Ev.f (by rw [c']; rfl) (Ev.t c ?_))))
  rw [hk, wrap64 (a := (k : Int) - 1) (by omega) (by omega), wrap64 (by omega) (by omega), show (k : Int) - 1 + 1 = k by omega]
  exact h v
theorem run_jf {p : List GInst} {x : Val} {j k : Nat} {i : GInst} (hi : p[j]? = some i) (c : (i.f0.data.toList == [106, 102]) = true) (hk : i.f2 = (k : Int)) (hj : k ≤ 1000000) (hp : p.length ≤ 1000000) {st out : List Val} {y : Val} (hst : st.length + 1 ≤ 1000000) {R : List Val × Int}
    (h : ∀ v, Ev (RunF p x (bif y.b then j + 1 else k) st out v) R) (v : Nat) : Ev (RunF p x j (st ++ [y]) out v) R := by
  have hlt : j < p.length := (List.getElem?_eq_some_iff.1 hi).1
  have c' : i.f0.data.toList = [106, 102] := by simpa using c
  refine Ev.succ ?_
  simp only [RunF, s_f40_l1]
  have e1 : (st ++ [y]).length - (1 : Int).toNat = st.length := by simp
  have e2 : ((st ++ [y]).drop st.length)[0]? = some y := by simp
  have e3 : (st ++ [y]).take st.length = st := by simp
  rw [e1, e3]
  refine Ev.t (decide_eq_true (by omega)) (Ev.g (Int.natCast_nonneg j) (Ev.bindc (by rw [Int.toNat_natCast]; exact hi) (Ev.f (by rw [c']; rfl) (Ev.f (by rw [c']; rfl) (Ev.t c (Ev.g ⟨by decide, by simp, by simp; omega⟩ (Ev.bindc e2 ?_)))))))
  have h' := h (v + 1)
  cases hb : y.b with
  | true =>
    rw [hb] at h'
    refine Ev.f rfl ?_
    rw [wrap64 (by omega) (by omega)]
    exact h'
  | false =>
    rw [hb] at h'
    refine Ev.t rfl ?_
    rw [hk, wrap64 (a := (k : Int) - 1) (by omega) (by omega), wrap64 (by omega) (by omega), show (k : Int) - 1 + 1 = k by omega]
    exact h'
end Go.Proofs.YtbcjcekoonebiaaGreat.Tl

set_option linter.unusedVariables false
set_option linter.unusedSimpArgs false
namespace Go.Proofs.YtbcjcekoonebiaaGreat.Tl
open Go Go.RowKit
def ChE (ps : List (List GInst)) (k : Nat) (x : Val) (o : List Val) (m : List GMiss) : Prop :=
  ∀ (out : List Val) (bad : List GMiss) (v : Nat), out.length + o.length ≤ 1000000 → bad.length + m.length ≤ 1000000 → ∃ v', Ev (fun n => s_f77 n (k : Int) x ps ⟨v, out⟩ bad) (ps, ⟨v', out ++ o⟩, bad ++ m)
theorem ch_end (ps : List (List GInst)) (x : Val) : ChE ps ps.length x [x] [] := fun out bad v h1 h2 => by
  simp only [List.length_cons, List.length_nil] at h1
  refine ⟨v + 1, Ev.succ ?_⟩
  simp only [s_f77]
  exact Ev.t (by simp) (Ev.g (by omega) (Ev.bindc (a := Val.mk 0 0 false ⟨#[]⟩ []) (by simp) ((Ev.mk _).congr (by simp))))
def ChL (ps : List (List GInst)) (k : Nat) : List Val → List Val → List GMiss → Prop
  | [], o, m => o = [] ∧ m = []
  | y :: l, o, m => ∃ o1 m1 o2 m2, o = o1 ++ o2 ∧ m = m1 ++ m2 ∧ ChE ps k y o1 m1 ∧ ChL ps k l o2 m2
theorem ch_l {ps : List (List GInst)} {k : Nat} (hk : k ≤ 1000000) {l : List Val} {e : Int} : ∀ (r : List Val) (i : Nat) (o : List Val) (m : List GMiss), l.drop i = r → ChL ps (k + 1) r o m → ∀ (out : List Val) (bad : List GMiss) (v : Nat), out.length + o.length ≤ 1000000 → bad.length + m.length ≤ 1000000 →
    ∃ v', Ev (fun n => s_f77_l1 n (k : Int) (l, e) i ps v out bad) (ps, ⟨v', out ++ o⟩, bad ++ m)
  | [], i, o, m, h, hc, out, bad, v, h1, h2 => by
    obtain ⟨rfl, rfl⟩ := hc
    refine ⟨v, Ev.succ ?_⟩
    simp only [s_f77_l1]
    exact Ev.f (cj_fm (List.drop_eq_nil_iff.1 h)) ((Ev.mk _).congr (by simp))
  | y :: r, i, o, m, h, hc, out, bad, v, h1, h2 => by
    obtain ⟨o1, m1, o2, m2, rfl, rfl, hy, hr⟩ := hc
    simp only [List.length_append] at h1 h2
    have hlt : i < l.length := by
      rcases Nat.lt_or_ge i l.length with h' | h'
      · exact h'
      · rw [List.drop_eq_nil_of_le h'] at h; cases h
    rw [List.drop_eq_getElem_cons hlt] at h
    injection h with h3 h4
    obtain ⟨v1, e1⟩ := hy out bad v (by omega) (by omega)
    obtain ⟨v2, e2⟩ := ch_l hk r (i + 1) o2 m2 h4 hr (out ++ o1) (bad ++ m1) v1 (by simp; omega) (by simp; omega)
    refine ⟨v2, Ev.succ ?_⟩
    simp only [s_f77_l1]
    refine Ev.t (decide_eq_true (by omega)) (Ev.bindc (a := y) (by rw [List.getElem?_eq_getElem hlt, h3]) (Ev.bind (a := (ps, ⟨v1, out ++ o1⟩, bad ++ m1)) ?_ (e2.congr (by simp))))
    rw [wrap64 (by omega) (by omega)]
    exact e1
where
  cj_fm {j m : Nat} (h : m ≤ j) : decide ((j : Int) < (m : Int)) = false := decide_eq_false (by omega)
theorem ch_run {ps : List (List GInst)} {k : Nat} {p : List GInst} (hk : ps[k]? = some p) (hps : ps.length ≤ 1000000) {x : Val} {l : List Val} {e : Int} (hr : Ev (fun n => s_f40 n p x) (l, e)) {o : List Val} {m : List GMiss} (hl : ChL ps (k + 1) l o m) :
    ChE ps k x o (bif e != 0 then ⟨(k : Int), x⟩ :: m else m) := fun out bad v h1 h2 => by
  have hlt : k < ps.length := (List.getElem?_eq_some_iff.1 hk).1
  cases he : e != 0 with
  | true =>
    rw [he] at h2
    simp only [cond_true, List.length_cons] at h2
    obtain ⟨v', e1⟩ := ch_l (l := l) (e := e) (by omega : k ≤ 1000000) l 0 o m rfl hl out (bad ++ [⟨(k : Int), x⟩]) v h1 (by simp; omega)
    refine ⟨v', Ev.succ ?_⟩
    simp only [s_f77]
    exact Ev.f (beq_false_of_ne (by omega)) (Ev.g (Int.natCast_nonneg k) (Ev.bindc (by rw [Int.toNat_natCast]; exact hk) (Ev.bind hr (Ev.t he (Ev.g (by omega) (e1.congr (by simp)))))))
  | false =>
    rw [he] at h2
    simp only [cond_false] at h2
    obtain ⟨v', e1⟩ := ch_l (l := l) (e := e) (by omega : k ≤ 1000000) l 0 o m rfl hl out bad v h1 h2
    refine ⟨v', Ev.succ ?_⟩
    simp only [s_f77]
    exact Ev.f (beq_false_of_ne (by omega)) (Ev.g (Int.natCast_nonneg k) (Ev.bindc (by rw [Int.toNat_natCast]; exact hk) (Ev.bind hr (Ev.f he e1))))
theorem e44 {ps : List (List GInst)} {x : Val} {o : List Val} {m : List GMiss} (h : ChE ps 0 x o m) (h1 : o.length ≤ 1000000) (h2 : m.length ≤ 1000000) : Ev (fun n => s_f44 n ps x) (o, m) := by
  obtain ⟨v, e⟩ := h [] [] 0 (by simpa using h1) (by simpa using h2)
  unfold s_f44
  exact Ev.bind e (Ev.mk _)
end Go.Proofs.YtbcjcekoonebiaaGreat.Tl

set_option linter.unusedVariables false
set_option linter.unusedSimpArgs false
namespace Go.Proofs.YtbcjcekoonebiaaGreat.Tl
open Go Go.RowKit
abbrev v0' : Val := .mk 0 0 false ⟨#[]⟩ []
abbrev iV (i : Int) : Val := .mk 1 i false ⟨#[]⟩ []
abbrev iX : GInst := ⟨⟨#[120]⟩, v0', 0⟩
abbrev iPush (v : Val) : GInst := ⟨⟨#[112, 117, 115, 104]⟩, v, 0⟩
abbrev iDiv : GInst := ⟨⟨#[100, 105, 118]⟩, v0', 0⟩
abbrev iEmit (n : Int) : GInst := ⟨⟨#[101, 109, 105, 116]⟩, v0', n⟩
abbrev iRet : GInst := ⟨⟨#[114, 101, 116]⟩, v0', 0⟩
theorem kn1 : Ev (fun n => s_f40 n [iX, iX, iEmit 2, iRet] (iV 3)) ([iV 3, iV 3], 0) :=
  e40 (run_step rfl rfl rfl rfl (st' := [iV 3]) (out' := []) rfl (by decide) (by decide) (by decide) (run_step rfl rfl rfl rfl (st' := [iV 3, iV 3]) (out' := []) rfl (by decide) (by decide) (by decide) (run_step rfl rfl rfl rfl (st' := []) (out' := [iV 3, iV 3]) rfl (by decide) (by decide) (by decide) (run_ret rfl rfl _ _))) 0)
abbrev kq : List GInst := [iPush (iV 6), iX, iDiv, iEmit 1, iRet]
theorem kn2 : Ev (fun n => s_f40 n kq (iV 3)) ([iV 2], 0) :=
  e40 (run_step rfl rfl rfl rfl (st' := [iV 6]) (out' := []) rfl (by decide) (by decide) (by decide) (run_step rfl rfl rfl rfl (st' := [iV 6, iV 3]) (out' := []) rfl (by decide) (by decide) (by decide) (run_step rfl rfl rfl rfl (st' := [iV 2]) (out' := []) rfl (by decide) (by decide) (by decide) (run_step rfl rfl rfl rfl (st' := []) (out' := [iV 2]) rfl (by decide) (by decide) (by decide) (run_ret rfl rfl _ _)))) 0)
theorem kn3 : Ev (fun n => s_f40 n kq (iV 0)) ([], 8) :=
  e40 (run_step rfl rfl rfl rfl (st' := [iV 6]) (out' := []) rfl (by decide) (by decide) (by decide) (run_step rfl rfl rfl rfl (st' := [iV 6, iV 0]) (out' := []) rfl (by decide) (by decide) (by decide) (run_err rfl rfl rfl rfl (st' := []) (out' := []) rfl (by decide) (by decide) (by decide))) 0)
theorem kn4 : Ev (fun n => s_f44 n [[iX, iX, iEmit 2, iRet], kq] (iV 3)) ([iV 2, iV 2], []) := by
  have a : ChE [[iX, iX, iEmit 2, iRet], kq] 1 (iV 3) [iV 2] [] := ch_run rfl (by decide) kn2 ⟨[iV 2], [], [], [], rfl, rfl, ch_end _ _, rfl, rfl⟩
  exact e44 (ch_run rfl (by decide) kn1 ⟨[iV 2], [], [iV 2], [], rfl, rfl, a, [iV 2], [], [], [], rfl, rfl, a, rfl, rfl⟩) (by decide) (by decide)
theorem kn5 : Ev (fun n => s_f44 n [kq] (iV 0)) ([], [⟨0, iV 0⟩]) :=
  e44 (ch_run (k := 0) rfl (by decide) kn3 (o := []) (m := []) ⟨rfl, rfl⟩) (by decide) (by decide)
theorem e36 : Ev (fun n => s_f36 n) true := by
  unfold s_f36
  exact Ev.bind kn1 (Ev.bind kn4 (Ev.bind kn5 (Ev.bind kn3 (Ev.t rfl (Ev.t rfl (Ev.t rfl (Ev.bindc rfl (Ev.t rfl (Ev.t rfl (Ev.t rfl (Ev.bindc rfl (Ev.t rfl (Ev.bindc rfl (Ev.t rfl (Ev.mk _)))))))))))))))
end Go.Proofs.YtbcjcekoonebiaaGreat.Tl

set_option linter.unusedVariables false
set_option linter.unusedSimpArgs false
namespace Go.Proofs.YtbcjcekoonebiaaGreat.Tl
open Go Go.RowKit
theorem drop_c {α : Type} {t r : List α} {j : Nat} {x : α} (h : t.drop j = x :: r) : j < t.length ∧ t[j]? = some x ∧ t.drop (j + 1) = r := by
  have hlt : j < t.length := by
    rcases Nat.lt_or_ge j t.length with h1 | h1
    · exact h1
    · rw [List.drop_eq_nil_of_le h1] at h; cases h
  rw [List.drop_eq_getElem_cons hlt] at h
  injection h with h1 h2
  exact ⟨hlt, by rw [List.getElem?_eq_getElem hlt, h1], h2⟩
theorem drop_n {α : Type} {t : List α} {j : Nat} (h : t.drop j = []) : t.length ≤ j := List.drop_eq_nil_iff.1 h
theorem cj_t {j m : Nat} (h : j < m) : decide ((j : Int) < (m : Int)) = true := decide_eq_true (by omega)
theorem cj_f {j m : Nat} (h : m ≤ j) : decide ((j : Int) < (m : Int)) = false := decide_eq_false (by omega)
theorem w1 {d : Int} (h0 : -1000000 ≤ d) (h1 : d ≤ 1000000) : IntKind.i64.wrap (d + 1) = d + 1 := wrap64 (by omega) (by omega)
theorem w1m {d : Int} (h0 : -1000000 ≤ d) (h1 : d ≤ 1000000) : IntKind.i64.wrap (d - 1) = d - 1 := wrap64 (by omega) (by omega)

/-! ### what is wrong with a value -/
mutual
def ckV : Val → Int → Int
  | .mk k i b s t, d => bif (decide (k < 1)) || (decide (k > 4)) then 5 else bif ((((k != 1) && (i != 0)) || ((k != 2) && b)) || ((k != 3) && (s.data.toList != []))) || ((k != 4) && (decide ((t.length : Int) > 0))) then 2
    else bif decide ((s.size : Int) > 255) then 4 else bif k != 4 then 0 else bif (t.length : Int) == 0 then 1 else bif decide ((t.length : Int) > 8) then 10 else bif decide (d > 4) then 9 else ckVs t (d + 1)
def ckVs : List Val → Int → Int
  | [], _ => 0
  | x :: r, d => bif ckV x d != 0 then ckV x d else ckVs r d
end
mutual
theorem e68 : ∀ (v : Val) (d : Int), 0 ≤ d → d ≤ 5 → Ev (fun n => s_f68 n v d) (ckV v d)
  | .mk k i b s t, d, h0, h1 => by
    refine Ev.succ ?_
    simp only [s_f68, ckV, Val.kind, Val.i, Val.b, Val.s, Val.t]
    refine Ev.if (fun _ => Ev.mk _) (fun _ => Ev.if (fun _ => Ev.mk _) (fun _ => Ev.if (fun _ => Ev.mk _) (fun _ => Ev.if (fun _ => Ev.mk _) (fun _ => Ev.if (fun _ => Ev.mk _) (fun _ => Ev.if (fun _ => Ev.mk _) (fun _ => Ev.if (fun _ => Ev.mk _) (fun hd => ?_)))))))
    exact e68s t k i b s t 0 d rfl h0 (by simpa using hd)
theorem e68s : ∀ (r : List Val) (k i : Int) (b : Bool) (s : ByteArray) (t : List Val) (j : Nat) (d : Int), t.drop j = r → 0 ≤ d → d ≤ 4 → Ev (fun n => s_f68_l1 n (.mk k i b s t) d j) (ckVs r (d + 1))
  | [], k, i, b, s, t, j, d, h, h0, h1 => by
    refine Ev.succ ?_
    simp only [s_f68_l1, ckVs, Val.t]
    exact Ev.f (cj_f (drop_n h)) (Ev.mk _)
  | x :: r, k, i, b, s, t, j, d, h, h0, h1 => by
    obtain ⟨hj, hx, hr⟩ := drop_c h
    refine Ev.succ ?_
    simp only [s_f68_l1, ckVs, Val.t]
    refine Ev.t (cj_t hj) (Ev.bindc hx (Ev.bind (a := ckV x (d + 1)) ?_ (Ev.if (fun _ => Ev.mk _) (fun _ => e68s r k i b s t (j + 1) d hr h0 h1))))
    rw [w1 (by omega) (by omega)]
    exact e68 x (d + 1) (by omega) (by omega)
end
theorem e34 (v : Val) : Ev (fun n => s_f34 n v) (ckV v 0) := by
  unfold s_f34
  exact Ev.ret (g := id) (e68 v 0 (by omega) (by omega))

/-! ### what is few -/
mutual
def bgV : Val → Int → Int → Int
  | .mk k i b s t, d, l => bif (((decide (l ≤ 0)) || (decide (d ≤ 0))) || (decide ((t.length : Int) > 20))) || (decide ((s.size : Int) > 300)) then 0 else bgVs t (d - 1) (l - 1)
def bgVs : List Val → Int → Int → Int
  | [], _, l => l
  | x :: r, d, l => bif decide (l > 0) then bgVs r d (bgV x d l) else l
end
mutual
theorem bgV_le : ∀ (v : Val) (d l : Int), 0 ≤ l → 0 ≤ bgV v d l ∧ bgV v d l ≤ l
  | .mk k i b s t, d, l, h => by
    simp only [bgV]
    cases hc : (((decide (l ≤ 0)) || (decide (d ≤ 0))) || (decide ((t.length : Int) > 20))) || (decide ((s.size : Int) > 300)) with
    | true => exact ⟨by simp, by simpa using h⟩
    | false =>
      simp only [cond_false]
      simp only [Bool.or_eq_false_iff, decide_eq_false_iff_not] at hc
      have := bgVs_le t (d - 1) (l - 1) (by omega)
      omega
theorem bgVs_le : ∀ (r : List Val) (d l : Int), 0 ≤ l → 0 ≤ bgVs r d l ∧ bgVs r d l ≤ l
  | [], d, l, h => by simp only [bgVs]; omega
  | x :: r, d, l, h => by
    simp only [bgVs]
    cases hc : decide (l > 0) with
    | true =>
      simp only [cond_true]
      have h1 := bgV_le x d l h
      have h2 := bgVs_le r d (bgV x d l) h1.1
      omega
    | false => simp only [cond_false]; omega
end
mutual
theorem e90 : ∀ (v : Val) (d l : Int), -5 ≤ d → d ≤ 30 → -5 ≤ l → l ≤ 1000 → Ev (fun n => s_f90 n v d l) (bgV v d l)
  | .mk k i b s t, d, l, h0, h1, h2, h3 => by
    refine Ev.succ ?_
    simp only [s_f90, bgV, Val.kind, Val.i, Val.b, Val.s, Val.t]
    refine Ev.if (fun _ => Ev.mk _) (fun hc => ?_)
    have c1 := of_decide_eq_false (or_f (or_f (or_f hc).1).1).1
    have c2 := of_decide_eq_false (or_f (or_f (or_f hc).1).1).2
    have c3 := of_decide_eq_false (or_f (or_f hc).1).2
    have c3 : ¬ ((t.length : Int) > 20) := c3
    rw [w1m (by omega) (by omega)]
    exact e90s t k i b s t 0 d (l - 1) rfl (by omega) h1 (by omega) (by omega) (by omega)
theorem e90s : ∀ (r : List Val) (k i : Int) (b : Bool) (s : ByteArray) (t : List Val) (j : Nat) (d l : Int), t.drop j = r → 0 < d → d ≤ 30 → 0 ≤ l → l ≤ 1000 → t.length ≤ 20 → Ev (fun n => s_f90_l1 n (.mk k i b s t) d l j) (bgVs r (d - 1) l)
  | [], k, i, b, s, t, j, d, l, h, h0, h1, h2, h3, h4 => by
    refine Ev.succ ?_
    simp only [s_f90_l1, bgVs, Val.t]
    exact Ev.f (and_f (cj_f (drop_n h))) (Ev.mk _)
  | x :: r, k, i, b, s, t, j, d, l, h, h0, h1, h2, h3, h4 => by
    obtain ⟨hj, hx, hr⟩ := drop_c h
    refine Ev.succ ?_
    simp only [s_f90_l1, bgVs, Val.t]
    refine Ev.ifa (cj_t hj) (fun hl => ?_) (fun hl => Ev.mk _)
    have hb := bgV_le x (d - 1) l h2
    refine Ev.g (Int.natCast_nonneg j) (Ev.bindc (by rw [Int.toNat_natCast]; exact hx) (Ev.bind (a := bgV x (d - 1) l) ?_ ?_))
    · rw [w1m (by omega) (by omega)]
      exact e90 x (d - 1) l (by omega) (by omega) (by omega) (by omega)
    · rw [w1 (by omega) (by omega)]
      exact e90s r k i b s t (j + 1) d _ hr h0 h1 hb.1 (by omega) h4
end
theorem e55 (v : Val) : Ev (fun n => s_f55 n v) (decide (bgV v 12 300 > 0)) := by
  unfold s_f55
  exact Ev.ret (e90 v 12 300 (by omega) (by omega) (by omega) (by omega))

mutual
def BdV : Val → Prop
  | .mk k i b s t => t.length ≤ 20 ∧ BdVs t
def BdVs : List Val → Prop
  | [] => True
  | x :: r => BdV x ∧ BdVs r
end
mutual
theorem bg_bd : ∀ (v : Val) (d l : Int), 0 < bgV v d l → BdV v
  | .mk k i b s t, d, l, h => by
    simp only [bgV] at h
    cases hc : (((decide (l ≤ 0)) || (decide (d ≤ 0))) || (decide ((t.length : Int) > 20))) || (decide ((s.size : Int) > 300)) with
    | true => rw [hc] at h; simp at h
    | false =>
      rw [hc] at h
      simp only [cond_false] at h
      simp only [Bool.or_eq_false_iff, decide_eq_false_iff_not] at hc
      exact ⟨by omega, bg_bds t (d - 1) (l - 1) h⟩
theorem bg_bds : ∀ (r : List Val) (d l : Int), 0 < bgVs r d l → BdVs r
  | [], d, l, h => trivial
  | x :: r, d, l, h => by
    simp only [bgVs] at h
    cases hc : decide (l > 0) with
    | true =>
      rw [hc] at h
      simp only [cond_true] at h
      have h2 := bg_bds r d _ h
      refine ⟨bg_bd x d l ?_, h2⟩
      rcases Int.lt_or_le 0 (bgV x d l) with h3 | h3
      · exact h3
      · have h4 := bgV_le x d l (by simp at hc; omega)
        have h5 := bgVs_le r d (bgV x d l) h4.1
        omega
    | false =>
      rw [hc] at h
      simp only [cond_false] at h
      simp at hc
      omega
end

/-! ### as the document's: the same tree -/
mutual
theorem e22 : ∀ v : Val, BdV v → Ev (fun n => s_f22 n v) v
  | .mk k i b s t, h => by
    refine Ev.succ ?_
    simp only [s_f22]
    exact e22s t k i b s t 0 [] rfl rfl h.1 h.2
theorem e22s : ∀ (r : List Val) (k i : Int) (b : Bool) (s : ByteArray) (t : List Val) (j : Nat) (acc : List Val), acc ++ r = t → acc.length = j → t.length ≤ 20 → BdVs r → Ev (fun n => s_f22_l1 n (.mk k i b s t) j acc) (.mk k i b s t)
  | [], k, i, b, s, t, j, acc, h, hj, hl, hb => by
    refine Ev.succ ?_
    subst hj
    simp only [List.append_nil] at h
    subst h
    simp only [s_f22_l1, Val.kind, Val.i, Val.b, Val.s, Val.t]
    exact Ev.f (cj_f (Nat.le_refl _)) (Ev.mk _)
  | x :: r, k, i, b, s, t, j, acc, h, hj, hl, hb => by
    refine Ev.succ ?_
    have hx : t[j]? = some x := by subst h hj; simp
    have hlt : j < t.length := (List.getElem?_eq_some_iff.1 hx).1
    simp only [s_f22_l1, Val.t]
    exact Ev.t (cj_t hlt) (Ev.bindc hx (Ev.bind (e22 x hb.1) (Ev.g (by omega) (e22s r k i b s t (j + 1) (acc ++ [x]) (by simp [h]) (by simp [hj]) hl hb.2))))
end

theorem e18 (v : Val) : (BdV v ∧ ckV v 0 = 0 ∧ Ev (fun n => s_f18 n v) true) ∨ Ev (fun n => s_f18 n v) false := by
  unfold s_f18
  cases hb : decide (bgV v 12 300 > 0) with
  | false => right; exact Ev.bind (hb ▸ e55 v) (Ev.f rfl (Ev.mk _))
  | true =>
    have hbd := bg_bd v 12 300 (of_decide_eq_true hb)
    have h : Ev (fun n => (s_f55 n v).bind fun q1 => bif q1 then (s_f22 n v).bind fun q4 => (s_f34 n q4).bind fun q6 => some (q6 == 0) else some false) (ckV v 0 == 0) :=
      Ev.bind (hb ▸ e55 v) (Ev.t rfl (Ev.bind (e22 v hbd) (Ev.ret (e34 v))))
    by_cases hc : ckV v 0 = 0
    · left; rw [hc] at h; exact ⟨hbd, hc, h⟩
    · right; rw [show (ckV v 0 == 0) = false from beq_false_of_ne hc] at h; exact h
end Go.Proofs.YtbcjcekoonebiaaGreat.Tl

set_option linter.unusedVariables false
set_option linter.unusedSimpArgs false
namespace Go.Proofs.YtbcjcekoonebiaaGreat.Tl
open Go Go.RowKit
/-! ### which value stands first -/
theorem e100 (b : Bool) : Ev (fun n => s_f100 n b) (bif b then -1 else 1) := by
  unfold s_f100
  exact Ev.if (fun _ => Ev.mk _) (fun _ => Ev.mk _)
theorem cmpI_ne {x y : Int} (h : x ≠ y) : cmpI x y = bif decide (x < y) then -1 else 1 := by
  unfold cmpI
  by_cases h1 : x < y
  · simp [h1]
  · have h2 : x > y := by omega
    simp [h1, h2]
theorem cmpI_ne0 {x y : Int} (h : x ≠ y) : cmpI x y ≠ 0 := by
  rw [cmpI_ne h]; cases decide (x < y) <;> simp
theorem cmpI_eq (x : Int) : cmpI x x = 0 := by simp [cmpI]
theorem cmpL_rf : ∀ l : List UInt8, Lib.compareBytes l l = 0
  | [] => rfl
  | x :: l => by
    have hx : ¬ x < x := fun h => by simp at h
    simp [Lib.compareBytes, cmpL_rf l, hx]
theorem cmpL_ne : ∀ a b : List UInt8, a ≠ b → Lib.compareBytes a b = bif Op.bytesLess a b then -1 else 1
  | [], [], h => absurd rfl h
  | [], _ :: _, _ => rfl
  | _ :: _, [], _ => rfl
  | x :: a, y :: b, hne => by
    rcases Nat.lt_trichotomy x.toNat y.toNat with h | h | h
    · have h1 : x < y := h
      simp [Lib.compareBytes, Op.bytesLess, h1]
    · have h1 : x = y := UInt8.toNat_inj.1 h
      subst h1
      have hx : ¬ x < x := fun h => by simp at h
      have ih := cmpL_ne a b (fun q => hne (by rw [q]))
      simp [Lib.compareBytes, Op.bytesLess, hx]
      simpa using ih
    · have h1 : y < x := h
      have h2 : ¬ x < y := fun q => by have q : x.toNat < y.toNat := q; omega
      have h3 : ¬ x = y := fun q => by subst q; omega
      have h4 : (x == y) = false := beq_false_of_ne h3
      simp [Lib.compareBytes, Op.bytesLess, h1, h2, h3, h4]
theorem nil_of {α : Type} {t : List α} (h : decide ((t.length : Int) > 0) = false) : t = [] := List.eq_nil_of_length_eq_zero (by have := of_decide_eq_false h; omega)
theorem bne_t {α : Type} [BEq α] [LawfulBEq α] {a b : α} (h : (a != b) = true) : a ≠ b := by simpa using h
theorem bne_f {α : Type} [BEq α] [LawfulBEq α] {a b : α} (h : (a != b) = false) : a = b := by simpa using h
theorem ev100 {p : Prop} [Decidable p] {c : Int} (h : c = bif decide p then -1 else 1) : Ev (fun n => (s_f100 n (decide p)).bind fun q => some q) c := h ▸ Ev.ret (g := id) (e100 _)
theorem cmpV_mk (k i : Int) (b : Bool) (s : ByteArray) (t : List Val) (k' i' : Int) (b' : Bool) (s' : ByteArray) (t' : List Val) : cmpV (.mk k i b s t) (.mk k' i' b' s' t') =
    bif k != k' then cmpI k k' else bif i != i' then cmpI i i' else bif b != b' then cmpI (bI b) (bI b') else bif s.data.toList != s'.data.toList then cmpB s s' else cmpVs t t' := by
  simp only [cmpV, Val.kind, Val.i, Val.b, Val.s, Val.t]
  by_cases h1 : k = k'
  · subst h1
    by_cases h2 : i = i'
    · subst h2
      by_cases h3 : b = b'
      · subst h3
        by_cases h4 : s.data.toList = s'.data.toList
        · have hc : cmpB s s' = 0 := by show Lib.compareBytes _ _ = 0; rw [h4]; exact cmpL_rf _
          simp only [cmpI_eq, orI, if_true, hc, h4, bne_self_eq_false, cond_false]
        · have hc : cmpB s s' = bif Op.bytesLess s.data.toList s'.data.toList then -1 else 1 := cmpL_ne _ _ h4
          have h0 : cmpB s s' ≠ 0 := by rw [hc]; cases Op.bytesLess s.data.toList s'.data.toList <;> simp
          have h5 : (s.data.toList != s'.data.toList) = true := by simpa using h4
          simp only [cmpI_eq, orI, if_true, h0, h5, bne_self_eq_false, cond_false, if_false, cond_true]
      · have hb : bI b ≠ bI b' := fun q => h3 (by revert q; cases b <;> cases b' <;> simp [bI])
        have h0 := cmpI_ne0 hb
        have h5 : (b != b') = true := by simpa using h3
        simp only [cmpI_eq, orI, if_true, h0, h5, bne_self_eq_false, cond_false, if_false, cond_true]
    · have h0 := cmpI_ne0 h2
      have h5 : (i != i') = true := by simpa using h2
      simp only [cmpI_eq, orI, if_true, h0, h5, bne_self_eq_false, cond_false, if_false, cond_true]
  · have h0 := cmpI_ne0 h1
    have h5 : (k != k') = true := by simpa using h1
    simp only [orI, h0, h5, if_false, cond_true]
mutual
theorem e64 : ∀ a b : Val, BdV a → Ev (fun n => s_f64 n a b) (cmpV a b)
  | .mk k i b s t, .mk k' i' b' s' t', hbd => by
    refine Ev.succ ?_
    rw [cmpV_mk]
    simp only [s_f64, Val.kind, Val.i, Val.b, Val.s, Val.t]
    refine Ev.if (fun h => ev100 (cmpI_ne (bne_t h))) (fun h1 => Ev.if (fun h => ev100 (cmpI_ne (bne_t h))) (fun h2 => Ev.if (fun h => ?_) (fun h3 => Ev.if (fun h => ?_) (fun h4 => ?_))))
    · have hv : cmpI (bI b) (bI b') = bif b' then -1 else 1 := by have h := bne_t h; revert h; cases b <;> cases b' <;> simp [bI, cmpI]
      rw [hv]
      exact Ev.ret (g := id) (e100 _)
    · have hc : cmpB s s' = bif Op.bytesLess s.data.toList s'.data.toList then -1 else 1 := cmpL_ne _ _ (bne_t h)
      rw [hc]
      exact Ev.ret (g := id) (e100 _)
    · exact e64s t k i b s t (.mk k' i' b' s' t') 0 rfl (Nat.zero_le _) (Nat.zero_le _) hbd.1 hbd.2
theorem e64s : ∀ (r : List Val) (k i : Int) (b : Bool) (s : ByteArray) (t : List Val) (w : Val) (j : Nat), t.drop j = r → j ≤ t.length → j ≤ w.t.length → t.length ≤ 20 → BdVs r → Ev (fun n => s_f64_l1 n (.mk k i b s t) w j) (cmpVs r (w.t.drop j))
  | [], k, i, b, s, t, w, j, h, h1, h2, hl, hbd => by
    refine Ev.succ ?_
    have hle := drop_n h
    simp only [s_f64_l1, show ∀ k i b s t, (Val.mk k i b s t).t = t from fun _ _ _ _ _ => rfl]
    refine Ev.f (and_f (cj_f hle)) ?_
    cases hw : w.t.drop j with
    | nil =>
      have := drop_n hw
      simp only [cmpVs]
      exact Ev.f (by rw [show t.length = w.t.length by omega]; simp) (Ev.mk _)
    | cons y q =>
      obtain ⟨hj, _, _⟩ := drop_c hw
      simp only [cmpVs]
      refine Ev.t (by simp; omega) (ev100 ?_)
      rw [decide_eq_true (by omega)]
      rfl
  | x :: r, k, i, b, s, t, w, j, h, h1, h2, hl, hbd => by
    obtain ⟨hj, hx, hr⟩ := drop_c h
    refine Ev.succ ?_
    simp only [s_f64_l1, show ∀ k i b s t, (Val.mk k i b s t).t = t from fun _ _ _ _ _ => rfl]
    cases hw : w.t.drop j with
    | nil =>
      have hle := drop_n hw
      simp only [cmpVs]
      refine Ev.f (by rw [cj_f hle, Bool.and_false]) (Ev.t (by simp; omega) (ev100 ?_))
      rw [decide_eq_false (by omega)]
      rfl
    | cons y q =>
      obtain ⟨hj2, hy, hq⟩ := drop_c hw
      simp only [cmpVs]
      refine Ev.t (by rw [cj_t hj, cj_t hj2]; rfl) ?_
      refine Ev.g (Int.natCast_nonneg j) (Ev.bindc (by rw [Int.toNat_natCast]; exact hx) (Ev.g (Int.natCast_nonneg j) (Ev.bindc (by rw [Int.toNat_natCast]; exact hy) (Ev.bind (e64 x y hbd.1) ?_))))
      by_cases hc : cmpV x y = 0
      · rw [if_pos hc]
        refine Ev.f (by simp [hc]) ?_
        have := e64s r k i b s t w (j + 1) hr (by omega) (by omega) hl hbd.2
        rw [hq] at this
        rw [show IntKind.i64.wrap ((j : Int) + 1) = ((j + 1 : Nat) : Int) by rw [wrap64 (by omega) (by omega)]; rfl]
        exact this
      · rw [if_neg hc]
        exact Ev.t (by simpa using hc) (Ev.mk _)
end
theorem e25 (a b : Val) (h : BdV a) : Ev (fun n => s_f25 n a b) (cmpV a b == 0) := by
  unfold s_f25
  exact Ev.ret (e64 a b h)
mutual
theorem cmpV_self : ∀ a : Val, cmpV a a = 0
  | .mk k i b s t => by
    rw [cmpV_mk]
    simp [cmpVs_self t]
theorem cmpVs_self : ∀ a : List Val, cmpVs a a = 0
  | [] => rfl
  | x :: r => by simp only [cmpVs, cmpV_self x, if_true, cmpVs_self r]
end
end Go.Proofs.YtbcjcekoonebiaaGreat.Tl

set_option linter.unusedVariables false
set_option linter.unusedSimpArgs false
namespace Go.Proofs.YtbcjcekoonebiaaGreat.Tl
open Go Go.RowKit
/-! ### types of values -/
mutual
def tyV : Val → Ty
  | .mk k i b s t => .mk k (tyVs t)
def tyVs : List Val → List Ty
  | [] => []
  | x :: r => tyV x :: tyVs r
end
theorem tyVs_length : ∀ l : List Val, (tyVs l).length = l.length
  | [] => rfl
  | x :: r => by simp only [tyVs, List.length_cons, tyVs_length r]
mutual
theorem e21 : ∀ v : Val, BdV v → Ev (fun n => s_f21 n v) (tyV v)
  | .mk k i b s t, h => by
    refine Ev.succ ?_
    simp only [s_f21, tyV]
    exact e21s t k i b s t 0 [] rfl rfl h.1 h.2
theorem e21s : ∀ (r : List Val) (k i : Int) (b : Bool) (s : ByteArray) (t : List Val) (j : Nat) (acc : List Ty), t.drop j = r → acc.length = j → t.length ≤ 20 → BdVs r → Ev (fun n => s_f21_l1 n (.mk k i b s t) j acc) (.mk k (acc ++ tyVs r))
  | [], k, i, b, s, t, j, acc, h, hj, hl, hb => by
    refine Ev.succ ?_
    simp only [s_f21_l1, Val.kind, Val.t, tyVs, List.append_nil]
    exact Ev.f (cj_f (drop_n h)) (Ev.mk _)
  | x :: r, k, i, b, s, t, j, acc, h, hj, hl, hb => by
    obtain ⟨hlt, hx, hr⟩ := drop_c h
    refine Ev.succ ?_
    simp only [s_f21_l1, Val.t, tyVs]
    refine Ev.t (cj_t hlt) (Ev.bindc hx (Ev.bind (e21 x hb.1) (Ev.g (by omega) ((e21s r k i b s t (j + 1) (acc ++ [tyV x]) hr (by simp [hj]) hl hb.2).congr (by simp)))))
end

abbrev zT : Ty := .mk 0 []
/-! ### what is wrong with a type -/
mutual
def ckT : Ty → Int → Int
  | .mk k l, d => bif ((decide (k < 1)) || (decide (k > 4))) || ((k != 4) && (decide ((l.length : Int) > 0))) then 5 else bif k != 4 then 0 else bif (l.length : Int) == 0 then 1 else bif decide ((l.length : Int) > 8) then 10 else bif decide (d > 4) then 9 else ckTs l (d + 1)
def ckTs : List Ty → Int → Int
  | [], _ => 0
  | x :: r, d => bif ckT x d != 0 then ckT x d else ckTs r d
end
mutual
theorem e91 : ∀ (v : Ty) (d : Int), 0 ≤ d → d ≤ 5 → Ev (fun n => s_f91 n v d) (ckT v d)
  | .mk k t, d, h0, h1 => by
    refine Ev.succ ?_
    simp only [s_f91, ckT, Ty.kind, Ty.of]
    refine Ev.if (fun _ => Ev.mk _) (fun _ => Ev.if (fun _ => Ev.mk _) (fun _ => Ev.if (fun _ => Ev.mk _) (fun _ => Ev.if (fun _ => Ev.mk _) (fun _ => Ev.if (fun _ => Ev.mk _) (fun hd => ?_)))))
    exact e91s t k t 0 d rfl h0 (by simpa using hd)
theorem e91s : ∀ (r : List Ty) (k : Int) (t : List Ty) (j : Nat) (d : Int), t.drop j = r → 0 ≤ d → d ≤ 4 → Ev (fun n => s_f91_l1 n (.mk k t) d j) (ckTs r (d + 1))
  | [], k, t, j, d, h, h0, h1 => by
    refine Ev.succ ?_
    simp only [s_f91_l1, ckTs, Ty.of]
    exact Ev.f (cj_f (drop_n h)) (Ev.mk _)
  | x :: r, k, t, j, d, h, h0, h1 => by
    obtain ⟨hj, hx, hr⟩ := drop_c h
    refine Ev.succ ?_
    simp only [s_f91_l1, ckTs, Ty.of]
    refine Ev.t (cj_t hj) (Ev.bindc hx (Ev.bind (a := ckT x (d + 1)) ?_ (Ev.if (fun _ => Ev.mk _) (fun _ => e91s r k t (j + 1) d hr h0 h1))))
    rw [w1 (by omega) (by omega)]
    exact e91 x (d + 1) (by omega) (by omega)
end
theorem e56 (v : Ty) : Ev (fun n => s_f56 n v) (ckT v 0) := by
  unfold s_f56
  exact Ev.ret (g := id) (e91 v 0 (by omega) (by omega))

/-! ### types alike -/
mutual
def sameT : Ty → Ty → Bool
  | .mk k l, u => bif (k != u.kind) || ((l.length : Int) != (u.of.length : Int)) then false else sameTs l u.of
def sameTs : List Ty → List Ty → Bool
  | x :: r, y :: q => bif !(sameT x y) then false else sameTs r q
  | _, _ => true
end
mutual
theorem e65 : ∀ (a b : Ty), Ev (fun n => s_f65 n a b) (sameT a b)
  | .mk k l, b => by
    refine Ev.succ ?_
    simp only [s_f65, sameT, Ty.kind, Ty.of]
    refine Ev.if (fun _ => Ev.mk _) (fun hc => ?_)
    simp only [Bool.or_eq_false_iff] at hc
    have hl : l.length = b.of.length := by have q : ((l.length : Int) != (b.of.length : Int)) = false := hc.2; simp at q; omega
    exact e65s l k l b 0 rfl hl
theorem e65s : ∀ (r : List Ty) (k : Int) (l : List Ty) (b : Ty) (j : Nat), l.drop j = r → l.length = b.of.length → Ev (fun n => s_f65_l1 n (.mk k l) b j) (sameTs r (b.of.drop j))
  | [], k, l, b, j, h, hl => by
    refine Ev.succ ?_
    simp only [s_f65_l1, sameTs, Ty.of]
    exact Ev.f (cj_f (drop_n h)) (Ev.mk _)
  | x :: r, k, l, b, j, h, hl => by
    obtain ⟨hj, hx, hr⟩ := drop_c h
    refine Ev.succ ?_
    have hy : b.of[j]? = some (b.of[j]'(by omega)) := List.getElem?_eq_getElem (by omega)
    rw [drop_get hy]
    simp only [s_f65_l1, sameTs, Ty.of]
    refine Ev.t (cj_t hj) (Ev.bindc hx (Ev.bindc hy (Ev.bind (e65 x _) (Ev.if (fun _ => Ev.mk _) (fun _ => e65s r k l b (j + 1) hr hl)))))
end
mutual
theorem sameT_iff : ∀ a b : Ty, sameT a b = true ↔ a = b
  | .mk k l, .mk k' l' => by
    simp only [sameT, Ty.kind, Ty.of]
    cases hc : (k != k') || ((l.length : Int) != (l'.length : Int)) with
    | true =>
      simp only [cond_true, Bool.false_eq_true, false_iff, Ty.mk.injEq, not_and]
      rintro rfl rfl
      simp at hc
    | false =>
      simp only [cond_false, Ty.mk.injEq]
      simp only [Bool.or_eq_false_iff] at hc
      have h1 : k = k' := by simpa using hc.1
      have h2 : l.length = l'.length := by have := hc.2; simp at this; omega
      rw [sameTs_iff l l' h2]
      simp [h1]
theorem sameTs_iff : ∀ a b : List Ty, a.length = b.length → (sameTs a b = true ↔ a = b)
  | [], [], _ => by simp [sameTs]
  | [], _ :: _, h => by simp at h
  | _ :: _, [], h => by simp at h
  | x :: r, y :: q, h => by
    simp only [sameTs]
    have h1 := sameT_iff x y
    have h2 := sameTs_iff r q (by simpa using h)
    cases hc : sameT x y with
    | true =>
      have h3 := h1.1 hc
      subst h3
      simp [h2]
    | false =>
      simp only [Bool.not_false, cond_true, Bool.false_eq_true, false_iff, List.cons.injEq, not_and]
      intro h3
      rw [h3, (sameT_iff y y).2 rfl] at hc
      cases hc
end
theorem sameT_eq (a b : Ty) : sameT a b = true ↔ a = b := sameT_iff a b

/-! ### ops -/
def arS (o : List UInt8) : Int :=
  bif o == [108, 105, 116] then 0 else bif o == [120] then 0 else bif o == [97, 116] then 1 else bif o == [110, 101, 103] then 1 else bif o == [110, 111, 116] then 1 else bif o == [108, 101, 110] then 1
  else bif o == [97, 100, 100] then 2 else bif o == [115, 117, 98] then 2 else bif o == [109, 117, 108] then 2 else bif o == [100, 105, 118] then 2 else bif o == [114, 101, 109] then 2 else bif o == [101, 113] then 2 else bif o == [108, 116] then 2
  else bif o == [97, 110, 100] then 2 else bif o == [111, 114] then 2 else bif o == [99, 97, 116] then 2 else bif o == [105, 102] then 3 else bif o == [116, 117, 112] then -1 else -2
theorem e92 (op : ByteArray) : Ev (fun n => s_f92 n op) (arS op.data.toList) := by
  unfold s_f92 arS
  repeat' first | exact Ev.mk _ | refine Ev.if (fun _ => ?_) (fun _ => ?_)

def allK (k : Int) (ts : List Ty) (r : Ty) : Ty × Int :=
  match ts with
  | [] => (r, 0)
  | x :: q => bif x.kind != k then (zT, 5) else allK k q r
theorem e94_l (k o : Int) : ∀ (r ts : List Ty) (j : Nat), ts.drop j = r → Ev (fun n => s_f94_l5 n ts k o j) (allK k r (.mk o []))
  | [], ts, j, h => by
    refine Ev.succ ?_
    simp only [s_f94_l5, allK]
    exact Ev.f (cj_f (drop_n h)) (Ev.mk _)
  | x :: r, ts, j, h => by
    obtain ⟨hj, hx, hr⟩ := drop_c h
    refine Ev.succ ?_
    simp only [s_f94_l5, allK]
    exact Ev.t (cj_t hj) (Ev.bindc hx (Ev.if (fun _ => Ev.mk _) (fun _ => e94_l k o r ts (j + 1) hr)))
theorem e94_j1 (op : ByteArray) (m : Int) (ts : List Ty) (k o : Int) : Ev (fun n => s_f94_j1 n op m ts k o) (allK k ts (.mk o [])) := by
  refine Ev.succ ?_
  simp only [s_f94_j1]
  exact e94_l k o ts ts 0 rfl
theorem e94_j4 (op : ByteArray) (m : Int) (ts : List Ty) (w : Bool) : Ev (fun n => s_f94_j4 n op m ts w) (bif w then allK 2 ts (.mk 2 []) else bif op.data.toList == [99, 97, 116] then allK 3 ts (.mk 3 []) else bif op.data.toList == [108, 101, 110] then allK 3 ts (.mk 1 []) else allK 0 ts (.mk 0 [])) := by
  refine Ev.succ ?_
  simp only [s_f94_j4]
  exact Ev.if (fun _ => e94_j1 op m ts 2 2) (fun _ => Ev.if (fun _ => e94_j1 op m ts 3 3) (fun _ => Ev.if (fun _ => e94_j1 op m ts 3 1) (fun _ => e94_j1 op m ts 0 0)))
theorem e94_j3 (op : ByteArray) (m : Int) (ts : List Ty) (w : Bool) : Ev (fun n => s_f94_j3 n op m ts w) (bif w then allK 1 ts (.mk 1 []) else bif op.data.toList == [110, 111, 116] then allK 2 ts (.mk 2 []) else bif op.data.toList == [97, 110, 100] then allK 2 ts (.mk 2 []) else bif op.data.toList == [111, 114] then allK 2 ts (.mk 2 [])
    else bif op.data.toList == [99, 97, 116] then allK 3 ts (.mk 3 []) else bif op.data.toList == [108, 101, 110] then allK 3 ts (.mk 1 []) else allK 0 ts (.mk 0 [])) := by
  refine Ev.succ ?_
  simp only [s_f94_j3]
  refine Ev.if (fun _ => e94_j1 op m ts 1 1) (fun _ => Ev.if (fun h => ?_) (fun _ => Ev.if (fun h => ?_) (fun _ => e94_j4 op m ts _)))
  · have := e94_j4 op m ts (op.data.toList == [110, 111, 116])
    rw [h] at this ⊢
    exact this
  · have := e94_j4 op m ts (op.data.toList == [97, 110, 100])
    rw [h] at this ⊢
    exact this

abbrev th (ts : List Ty) (j : Nat) : Ty := (ts[j]?).getD zT
def opTy (o : List UInt8) (m : Int) (ts : List Ty) : Ty × Int :=
  bif o == [97, 116] then (bif (th ts 0).kind != 4 then (zT, 5) else bif decide (m < 0) then (zT, 1) else bif decide (m ≥ ((th ts 0).of.length : Int)) then (zT, 1) else (th (th ts 0).of m.toNat, 0))
  else bif o == [116, 117, 112] then (bif ckT (.mk 4 ts) 0 != 0 then (zT, 9) else (.mk 4 ts, 0))
  else bif o == [101, 113] then (bif !(sameT (th ts 0) (th ts 1)) then (zT, 5) else (.mk 2 [], 0))
  else bif o == [108, 116] then (bif !(sameT (th ts 0) (th ts 1)) then (zT, 5) else (.mk 2 [], 0))
  else bif o == [105, 102] then (bif (th ts 0).kind != 2 then (zT, 5) else bif !(sameT (th ts 1) (th ts 2)) then (zT, 5) else (th ts 1, 0))
  else bif o == [110, 101, 103] then allK 1 ts (.mk 1 []) else bif o == [97, 100, 100] then allK 1 ts (.mk 1 []) else bif o == [115, 117, 98] then allK 1 ts (.mk 1 []) else bif o == [109, 117, 108] then allK 1 ts (.mk 1 []) else bif o == [100, 105, 118] then allK 1 ts (.mk 1 []) else bif o == [114, 101, 109] then allK 1 ts (.mk 1 [])
  else bif o == [110, 111, 116] then allK 2 ts (.mk 2 []) else bif o == [97, 110, 100] then allK 2 ts (.mk 2 []) else bif o == [111, 114] then allK 2 ts (.mk 2 [])
  else bif o == [99, 97, 116] then allK 3 ts (.mk 3 []) else bif o == [108, 101, 110] then allK 3 ts (.mk 1 []) else allK 0 ts (.mk 0 [])
theorem th_get {ts : List Ty} {j : Nat} (h : j < ts.length) : ts[j]? = some (th ts j) := by
  simp [th, List.getElem?_eq_getElem h]
theorem e94_j2 (op : ByteArray) (m : Int) (ts : List Ty) (h2 : op.data.toList = [101, 113] ∨ op.data.toList = [108, 116] → 1 < ts.length) (h3 : op.data.toList = [105, 102] → 2 < ts.length) (w : Bool) (hw : w = true → op.data.toList = [101, 113] ∨ op.data.toList = [108, 116]) : Ev (fun n => s_f94_j2 n op m ts w)
    (bif w then (bif !(sameT (th ts 0) (th ts 1)) then (zT, 5) else (.mk 2 [], 0))
    else bif op.data.toList == [105, 102] then (bif (th ts 0).kind != 2 then (zT, 5) else bif !(sameT (th ts 1) (th ts 2)) then (zT, 5) else (th ts 1, 0))
    else bif op.data.toList == [110, 101, 103] then allK 1 ts (.mk 1 []) else bif op.data.toList == [97, 100, 100] then allK 1 ts (.mk 1 []) else bif op.data.toList == [115, 117, 98] then allK 1 ts (.mk 1 []) else bif op.data.toList == [109, 117, 108] then allK 1 ts (.mk 1 []) else bif op.data.toList == [100, 105, 118] then allK 1 ts (.mk 1 []) else bif op.data.toList == [114, 101, 109] then allK 1 ts (.mk 1 [])
    else bif op.data.toList == [110, 111, 116] then allK 2 ts (.mk 2 []) else bif op.data.toList == [97, 110, 100] then allK 2 ts (.mk 2 []) else bif op.data.toList == [111, 114] then allK 2 ts (.mk 2 [])
    else bif op.data.toList == [99, 97, 116] then allK 3 ts (.mk 3 []) else bif op.data.toList == [108, 101, 110] then allK 3 ts (.mk 1 []) else allK 0 ts (.mk 0 [])) := by
  refine Ev.succ ?_
  simp only [s_f94_j2]
  refine Ev.if (fun h => ?_) (fun _ => Ev.if (fun h => ?_) (fun _ => Ev.if (fun h => ?_) (fun _ => Ev.if (fun h => ?_) (fun _ => Ev.if (fun h => ?_) (fun _ => Ev.if (fun h => ?_) (fun _ => Ev.if (fun h => ?_) (fun _ => e94_j3 op m ts _)))))))
  · have hl := h2 (hw h)
    exact Ev.bindc (th_get (by omega)) (Ev.bindc (th_get hl) (Ev.bind (e65 _ _) (Ev.if (fun _ => Ev.mk _) (fun _ => Ev.mk _))))
  · have hl := h3 (eq_of_beq h)
    exact Ev.bindc (th_get (by omega)) (Ev.if (fun _ => Ev.mk _) (fun _ => Ev.bindc (th_get (by omega)) (Ev.bindc (th_get hl) (Ev.bind (e65 _ _) (Ev.if (fun _ => Ev.mk _) (fun _ => Ev.bindc (th_get (by omega)) (Ev.mk _)))))))
  · have := e94_j3 op m ts true
    rw [h]
    exact this
  · have := e94_j3 op m ts true
    rw [h]
    exact this
  · have := e94_j3 op m ts true
    rw [h]
    exact this
  · have := e94_j3 op m ts true
    rw [h]
    exact this
  · have := e94_j3 op m ts true
    rw [h]
    exact this
theorem e94 (op : ByteArray) (m : Int) (ts : List Ty) (h1 : op.data.toList = [97, 116] → 0 < ts.length) (h2 : op.data.toList = [101, 113] ∨ op.data.toList = [108, 116] → 1 < ts.length) (h3 : op.data.toList = [105, 102] → 2 < ts.length) : Ev (fun n => s_f94 n op m ts) (opTy op.data.toList m ts) := by
  unfold s_f94 opTy
  refine Ev.if (fun h => ?_) (fun _ => Ev.if (fun h => ?_) (fun _ => Ev.if (fun h => ?_) (fun _ => ?_)))
  · have h0 := th_get (h1 (eq_of_beq h))
    refine Ev.bindc h0 (Ev.if (fun _ => Ev.mk _) (fun _ => Ev.if (fun _ => Ev.mk _) (fun hm => Ev.bindc h0 (Ev.if (fun _ => Ev.mk _) (fun hl => Ev.bindc h0 (Ev.g ?_ (Ev.bindc (th_get ?_) (Ev.mk _))))))))
    · simpa using hm
    · simp at hm hl; omega
  · exact Ev.bind (e56 _) (Ev.if (fun _ => Ev.mk _) (fun _ => Ev.mk _))
  · have := e94_j2 op m ts h2 h3 (op.data.toList == [101, 113]) (fun q => .inl (eq_of_beq q))
    rw [h] at this ⊢
    exact this
  · exact e94_j2 op m ts h2 h3 (op.data.toList == [108, 116]) (fun q => .inr (eq_of_beq q))

/-! ### what is few of expressions -/
mutual
def BdE : Ex → Prop
  | .mk o v m a => a.length ≤ 12 ∧ BdV v ∧ BdEs a
def BdEs : List Ex → Prop
  | [] => True
  | x :: r => BdE x ∧ BdEs r
end
mutual
def bgE : Ex → Int → Int → Int
  | .mk o v m a, d, l => bif decide (l ≤ 0) then 0 else bif decide (d ≤ 0) then 0 else bif decide ((a.length : Int) > 12) then 0 else bif decide ((o.size : Int) > 20) then 0 else bif !(decide (bgV v 12 300 > 0)) then 0 else bgEs a (d - 1) (l - 1)
def bgEs : List Ex → Int → Int → Int
  | [], _, l => l
  | x :: r, d, l => bif decide (l > 0) then bgEs r d (bgE x d l) else l
end
mutual
theorem bgE_le : ∀ (v : Ex) (d l : Int), 0 ≤ l → 0 ≤ bgE v d l ∧ bgE v d l ≤ l
  | .mk o v m a, d, l, h => by
    simp only [bgE]
    cases h1 : decide (l ≤ 0)
    · cases h2 : decide (d ≤ 0)
      · cases h3 : decide ((a.length : Int) > 12)
        · cases h4 : decide ((o.size : Int) > 20)
          · cases h5 : !(decide (bgV v 12 300 > 0))
            · simp only [cond_false]
              simp at h1
              have := bgEs_le a (d - 1) (l - 1) (by omega)
              omega
            · simpa using h
          · simpa using h
        · simpa using h
      · simpa using h
    · simpa using h
theorem bgEs_le : ∀ (r : List Ex) (d l : Int), 0 ≤ l → 0 ≤ bgEs r d l ∧ bgEs r d l ≤ l
  | [], d, l, h => by simp only [bgEs]; omega
  | x :: r, d, l, h => by
    simp only [bgEs]
    cases hc : decide (l > 0) with
    | true =>
      simp only [cond_true]
      have h1 := bgE_le x d l h
      have h2 := bgEs_le r d (bgE x d l) h1.1
      omega
    | false => simp only [cond_false]; omega
end
mutual
theorem e54 : ∀ (v : Ex) (d l : Int), -5 ≤ d → d ≤ 30 → -5 ≤ l → l ≤ 1000 → Ev (fun n => s_f54 n v d l) (bgE v d l)
  | .mk o v m a, d, l, h0, h1, h2, h3 => by
    refine Ev.succ ?_
    simp only [s_f54, bgE, Ex.a, Ex.op, Ex.v]
    refine Ev.if (fun _ => Ev.mk _) (fun c1 => Ev.if (fun _ => Ev.mk _) (fun c2 => Ev.if (fun _ => Ev.mk _) (fun c3 => Ev.if (fun _ => Ev.mk _) (fun c4 => Ev.bind (e55 v) (Ev.if (fun _ => Ev.mk _) (fun c5 => ?_))))))
    have c1 := of_decide_eq_false c1
    have c2 := of_decide_eq_false c2
    have c3 := of_decide_eq_false c3
    have c3 : ¬ ((a.length : Int) > 12) := c3
    rw [w1m (by omega) (by omega)]
    exact e54s a o v m a 0 d (l - 1) rfl (by omega) h1 (by omega) (by omega) (by omega)
theorem e54s : ∀ (r : List Ex) (o : ByteArray) (v : Val) (m : Int) (a : List Ex) (j : Nat) (d l : Int), a.drop j = r → 0 < d → d ≤ 30 → 0 ≤ l → l ≤ 1000 → a.length ≤ 20 → Ev (fun n => s_f54_l1 n (.mk o v m a) d l j) (bgEs r (d - 1) l)
  | [], o, v, m, t, j, d, l, h, h0, h1, h2, h3, h4 => by
    refine Ev.succ ?_
    simp only [s_f54_l1, bgEs, Ex.a]
    exact Ev.f (and_f (cj_f (drop_n h))) (Ev.mk _)
  | x :: r, o, v, m, t, j, d, l, h, h0, h1, h2, h3, h4 => by
    obtain ⟨hj, hx, hr⟩ := drop_c h
    refine Ev.succ ?_
    simp only [s_f54_l1, bgEs, Ex.a]
    refine Ev.ifa (cj_t hj) (fun hl => ?_) (fun hl => Ev.mk _)
    have hb := bgE_le x (d - 1) l h2
    refine Ev.g (Int.natCast_nonneg j) (Ev.bindc (by rw [Int.toNat_natCast]; exact hx) (Ev.bind (a := bgE x (d - 1) l) ?_ ?_))
    · rw [w1m (by omega) (by omega)]
      exact e54 x (d - 1) l (by omega) (by omega) (by omega) (by omega)
    · rw [w1 (by omega) (by omega)]
      exact e54s r o v m t (j + 1) d _ hr h0 h1 hb.1 (by omega) h4
end
mutual
theorem bgE_bd : ∀ (v : Ex) (d l : Int), 0 < bgE v d l → BdE v
  | .mk o v m a, d, l, h => by
    simp only [bgE] at h
    cases h1 : decide (l ≤ 0)
    · cases h2 : decide (d ≤ 0)
      · cases h3 : decide ((a.length : Int) > 12)
        · cases h4 : decide ((o.size : Int) > 20)
          · cases h5 : !(decide (bgV v 12 300 > 0))
            · simp only [h1, h2, h3, h4, h5, cond_false] at h
              simp at h3 h5
              exact ⟨by omega, bg_bd v 12 300 h5, bgEs_bd a (d - 1) (l - 1) h⟩
            · simp [h1, h2, h3, h4, h5] at h
          · simp [h1, h2, h3, h4] at h
        · simp [h1, h2, h3] at h
      · simp [h1, h2] at h
    · simp [h1] at h
theorem bgEs_bd : ∀ (r : List Ex) (d l : Int), 0 < bgEs r d l → BdEs r
  | [], d, l, h => trivial
  | x :: r, d, l, h => by
    simp only [bgEs] at h
    cases hc : decide (l > 0) with
    | true =>
      rw [hc] at h
      simp only [cond_true] at h
      have h2 := bgEs_bd r d _ h
      refine ⟨bgE_bd x d l ?_, h2⟩
      rcases Int.lt_or_le 0 (bgE x d l) with h3 | h3
      · exact h3
      · have h4 := bgE_le x d l (by simp at hc; omega)
        have h5 := bgEs_le r d (bgE x d l) h4.1
        omega
    | false =>
      rw [hc] at h
      simp only [cond_false] at h
      simp at hc
      omega
end
/-! ### as the document's -/
mutual
theorem e19 : ∀ v : Ex, BdE v → Ev (fun n => s_f19 n v) v
  | .mk o v m a, h => by
    refine Ev.succ ?_
    simp only [s_f19]
    exact Ev.bind (e22 v h.2.1) (e19s a o v m a 0 [] rfl rfl h.1 h.2.2)
theorem e19s : ∀ (r : List Ex) (o : ByteArray) (v : Val) (m : Int) (t : List Ex) (j : Nat) (acc : List Ex), acc ++ r = t → acc.length = j → t.length ≤ 12 → BdEs r → Ev (fun n => s_f19_l1 n (.mk o v m t) v j acc) (.mk o v m t)
  | [], o, v, m, t, j, acc, h, hj, hl, hb => by
    refine Ev.succ ?_
    subst hj
    simp only [List.append_nil] at h
    subst h
    simp only [s_f19_l1, Ex.op, Ex.n, Ex.a]
    exact Ev.f (cj_f (Nat.le_refl _)) (Ev.mk _)
  | x :: r, o, v, m, t, j, acc, h, hj, hl, hb => by
    refine Ev.succ ?_
    have hx : t[j]? = some x := by subst h hj; simp
    have hlt : j < t.length := (List.getElem?_eq_some_iff.1 hx).1
    simp only [s_f19_l1, Ex.a]
    exact Ev.t (cj_t hlt) (Ev.bindc hx (Ev.bind (e19 x hb.1) (Ev.g (by omega) (e19s r o v m t (j + 1) (acc ++ [x]) (by simp [h]) (by simp [hj]) hl hb.2))))
end

/-! ### size -/
mutual
def szE : Ex → Int
  | .mk o v m a => szEs a 1
def szEs : List Ex → Int → Int
  | [], s => s
  | x :: r, s => szEs r (IntKind.i64.wrap (s + szE x))
end
mutual
theorem e57 : ∀ v : Ex, Ev (fun n => s_f57 n v) (szE v)
  | .mk o v m a => by
    refine Ev.succ ?_
    simp only [s_f57, szE]
    exact e57s a o v m a 0 1 rfl
theorem e57s : ∀ (r : List Ex) (o : ByteArray) (v : Val) (m : Int) (t : List Ex) (j : Nat) (s : Int), t.drop j = r → Ev (fun n => s_f57_l1 n (.mk o v m t) s j) (szEs r s)
  | [], o, v, m, t, j, s, h => by
    refine Ev.succ ?_
    simp only [s_f57_l1, szEs, Ex.a]
    exact Ev.f (cj_f (drop_n h)) (Ev.mk _)
  | x :: r, o, v, m, t, j, s, h => by
    obtain ⟨hj, hx, hr⟩ := drop_c h
    refine Ev.succ ?_
    simp only [s_f57_l1, szEs, Ex.a]
    exact Ev.t (cj_t hj) (Ev.bindc hx (Ev.bind (e57 x) (e57s r o v m t (j + 1) _ hr)))
end

/-! ### the type of an expression -/
mutual
def ckE : Ex → Ty → Int → Ty × Int
  | .mk o v m a, ty, d =>
    bif arS o.data.toList == (-2) then (zT, 6) else bif decide (d > 12) then (zT, 9)
    else bif ((decide (arS o.data.toList ≥ 0)) && ((a.length : Int) != arS o.data.toList)) || ((decide (arS o.data.toList < 0)) && ((decide ((a.length : Int) < 1)) || (decide ((a.length : Int) > 8)))) then (zT, 1)
    else bif ((o.data.toList != [97, 116]) && (m != 0)) || ((o.data.toList != [108, 105, 116]) && (!(((((v.kind == 0) && (v.i == 0)) && (!v.b)) && (v.s.data.toList == [])) && ((v.t.length : Int) == 0)))) then (zT, 1)
    else bif o.data.toList == [108, 105, 116] then (bif ckV v 0 != 0 then (zT, ckV v 0) else (tyV v, 0))
    else bif o.data.toList == [120] then (ty, 0)
    else bif (ckEs a ty (d + 1)).2 != 0 then (zT, (ckEs a ty (d + 1)).2) else opTy o.data.toList m (ckEs a ty (d + 1)).1
def ckEs : List Ex → Ty → Int → List Ty × Int
  | [], _, _ => ([], 0)
  | e :: r, ty, d => bif (ckE e ty d).2 != 0 then ([], (ckE e ty d).2) else bif (ckEs r ty d).2 != 0 then ([], (ckEs r ty d).2) else ((ckE e ty d).1 :: (ckEs r ty d).1, 0)
end
theorem ckEs_length : ∀ (l : List Ex) (ty : Ty) (d : Int), (ckEs l ty d).2 = 0 → (ckEs l ty d).1.length = l.length
  | [], _, _, _ => rfl
  | e :: r, ty, d, h => by
    simp only [ckEs] at h ⊢
    cases h1 : (ckE e ty d).2 != 0 with
    | true => rw [h1] at h; simp only [cond_true] at h; simp [h] at h1
    | false =>
      rw [h1] at h
      simp only [cond_false] at h ⊢
      cases h2 : (ckEs r ty d).2 != 0 with
      | true => rw [h2] at h; simp only [cond_true] at h; simp [h] at h2
      | false => simp only [cond_false, List.length_cons, ckEs_length r ty d (by simpa using h2)]
def arOk (o : List UInt8) (m : Nat) : Prop := (o = [97, 116] → 0 < m) ∧ (o = [101, 113] ∨ o = [108, 116] → 1 < m) ∧ (o = [105, 102] → 2 < m)
theorem arOk_of {o : List UInt8} {m : Nat} (h : (((decide (arS o ≥ 0)) && ((m : Int) != arS o)) || ((decide (arS o < 0)) && ((decide ((m : Int) < 1)) || (decide ((m : Int) > 8))))) = false) : arOk o m := by
  refine ⟨?_, ?_, ?_⟩
  · rintro rfl
    have e : arS [97, 116] = 1 := rfl
    rw [e] at h
    simp at h
    omega
  · rintro (rfl | rfl)
    · have e : arS [101, 113] = 2 := rfl
      rw [e] at h
      simp at h
      omega
    · have e : arS [108, 116] = 2 := rfl
      rw [e] at h
      simp at h
      omega
  · rintro rfl
    have e : arS [105, 102] = 3 := rfl
    rw [e] at h
    simp at h
    omega
mutual
theorem e58 : ∀ (e : Ex) (ty : Ty) (d : Int), 0 ≤ d → d ≤ 13 → BdE e → Ev (fun n => s_f58 n e ty d) (ckE e ty d)
  | .mk o v m a, ty, d, h0, h1, hb => by
    refine Ev.succ ?_
    simp only [s_f58, ckE, Ex.op, Ex.v, Ex.n, Ex.a]
    refine Ev.bind (e92 o) (Ev.if (fun _ => Ev.mk _) (fun _ => Ev.if (fun _ => Ev.mk _) (fun hd => Ev.if (fun _ => Ev.mk _) (fun har => Ev.if (fun _ => Ev.mk _) (fun _ => Ev.if (fun _ => Ev.bind (e34 v) (Ev.if (fun _ => Ev.mk _) (fun _ => Ev.bind (e21 v hb.2.1) (Ev.mk _)))) (fun _ => Ev.if (fun _ => Ev.mk _) (fun _ => ?_)))))))
    have hd : d ≤ 12 := by simpa using hd
    have := e58s a o v m a ty d [] 0 rfl rfl h0 hd (arOk_of har) hb.1 hb.2.2
    simpa using this
theorem e58s : ∀ (r : List Ex) (o : ByteArray) (v : Val) (m : Int) (a : List Ex) (ty : Ty) (d : Int) (acc : List Ty) (j : Nat), a.drop j = r → acc.length = j → 0 ≤ d → d ≤ 12 → arOk o.data.toList a.length → a.length ≤ 12 → BdEs r →
    Ev (fun n => s_f58_l1 n (.mk o v m a) ty d acc j) (bif (ckEs r ty (d + 1)).2 != 0 then (zT, (ckEs r ty (d + 1)).2) else opTy o.data.toList m (acc ++ (ckEs r ty (d + 1)).1))
  | [], o, v, m, a, ty, d, acc, j, h, hj, h0, h1, har, hl, hb => by
    refine Ev.succ ?_
    simp only [s_f58_l1, ckEs, Ex.a, Ex.op, Ex.n, List.append_nil]
    have hle := drop_n h
    refine Ev.f (cj_f hle) ?_
    show Ev _ (opTy o.data.toList m acc)
    exact Ev.bind (e94 o m acc (fun q => by have := har.1 q; omega) (fun q => by have := har.2.1 q; omega) (fun q => by have := har.2.2 q; omega)) (Ev.mk _)
  | x :: r, o, v, m, a, ty, d, acc, j, h, hj, h0, h1, har, hl, hb => by
    obtain ⟨hlt, hx, hr⟩ := drop_c h
    refine Ev.succ ?_
    simp only [s_f58_l1, ckEs, Ex.a]
    refine Ev.t (cj_t hlt) (Ev.bindc hx (Ev.bind (a := ckE x ty (d + 1)) ?_ ?_))
    · rw [w1 (by omega) (by omega)]
      exact e58 x ty (d + 1) (by omega) (by omega) hb.1
    · cases hc : (ckE x ty (d + 1)).2 != 0 with
      | true => simp only [cond_true, hc]; exact Ev.mk _
      | false =>
        simp only [cond_false]
        refine Ev.g (by omega) ((e58s r o v m a ty d (acc ++ [(ckE x ty (d + 1)).1]) (j + 1) hr (by simp [hj]) h0 h1 har hl hb.2).congr ?_)
        cases hq : (ckEs r ty (d + 1)).2 != 0 with
        | true => simp [hq]
        | false => simp
end
def ckX (e : Ex) (ty : Ty) : Ty × Int := bif ckT ty 0 != 0 then (zT, 5) else bif decide (szE e > 256) then (zT, 10) else ckE e ty 0
theorem e20 (e : Ex) (ty : Ty) (hb : BdE e) : Ev (fun n => s_f20 n e ty) (ckX e ty) := by
  unfold s_f20 ckX
  exact Ev.bind (e56 ty) (Ev.if (fun _ => Ev.mk _) (fun _ => Ev.bind (e57 e) (Ev.if (fun _ => Ev.mk _) (fun _ => Ev.bind (e58 e ty 0 (by omega) (by omega) hb) (Ev.mk _)))))
end Go.Proofs.YtbcjcekoonebiaaGreat.Tl

set_option linter.unusedVariables false
set_option linter.unusedSimpArgs false
namespace Go.Proofs.YtbcjcekoonebiaaGreat.Tl
open Go Go.RowKit
/-! ### values that may be, of a type -/
mutual
def lfV : Val → Prop
  | .mk k i b s t => (((decide (k < 1)) || (decide (k > 4))) = false) ∧ ((((((k != 1) && (i != 0)) || ((k != 2) && b)) || ((k != 3) && (s.data.toList != []))) || ((k != 4) && (decide ((t.length : Int) > 0)))) = false) ∧ s.size ≤ 255 ∧ lfVs t
def lfVs : List Val → Prop
  | [] => True
  | x :: r => lfV x ∧ lfVs r
end
mutual
theorem ckV_lf : ∀ (v : Val) (d : Int), ckV v d = 0 ↔ lfV v ∧ ckT (tyV v) d = 0
  | .mk k i b s t, d => by
    simp only [ckV, lfV, tyV, ckT, tyVs_length]
    cases h1 : (decide (k < 1)) || (decide (k > 4)) with
    | true => simp
    | false =>
      cases h2 : ((((k != 1) && (i != 0)) || ((k != 2) && b)) || ((k != 3) && (s.data.toList != []))) || ((k != 4) && (decide ((t.length : Int) > 0))) with
      | true => simp
      | false =>
        have h3 := (or_f h2).2
        simp only [h3, Bool.or_false, cond_false, true_and, Bool.false_or]
        by_cases h4 : s.size ≤ 255
        · rw [show decide ((s.size : Int) > 255) = false from decide_eq_false (by omega)]
          simp only [cond_false, h4, true_and]
          cases h5 : k != 4 with
          | true =>
            have h6 : t = [] := by
              rw [h5, Bool.true_and] at h3
              exact nil_of h3
            subst h6
            simp [lfVs]
          | false =>
            simp only [cond_false]
            cases h7 : (t.length : Int) == 0 with
            | true => simp
            | false =>
              simp only [cond_false]
              cases h8 : decide ((t.length : Int) > 8) with
              | true => simp
              | false =>
                simp only [cond_false]
                cases h9 : decide (d > 4) with
                | true => simp
                | false => simp only [cond_false]; exact ckVs_lf t (d + 1)
        · rw [show decide ((s.size : Int) > 255) = true from decide_eq_true (by omega)]
          simp [h4]
theorem ckVs_lf : ∀ (v : List Val) (d : Int), ckVs v d = 0 ↔ lfVs v ∧ ckTs (tyVs v) d = 0
  | [], d => by simp [ckVs, lfVs, tyVs, ckTs]
  | x :: r, d => by
    have h1 := ckV_lf x d
    have h2 := ckVs_lf r d
    simp only [ckVs, lfVs, tyVs, ckTs]
    by_cases h3 : ckV x d = 0
    · obtain ⟨h4, h5⟩ := h1.1 h3
      simp [h3, h5, h2, h4]
    · rw [show (ckV x d != 0) = true by simpa using h3]
      simp only [cond_true, h3, false_iff, not_and]
      rintro ⟨h4, _⟩
      have h5 : ckT (tyV x) d ≠ 0 := fun q => h3 (h1.2 ⟨h4, q⟩)
      rw [show (ckT (tyV x) d != 0) = true by simpa using h5]
      simpa using h5
end
mutual
theorem ckT_down : ∀ (t : Ty) (d : Int), ckT t (d + 1) = 0 → ckT t d = 0
  | .mk k l, d, h => by
    simp only [ckT] at h ⊢
    cases h1 : ((decide (k < 1)) || (decide (k > 4))) || ((k != 4) && (decide ((l.length : Int) > 0))) with
    | true => rw [h1] at h; simp at h
    | false =>
      rw [h1] at h
      simp only [cond_false] at h ⊢
      cases h2 : k != 4 with
      | true => rfl
      | false =>
        rw [h2] at h
        simp only [cond_false] at h ⊢
        cases h3 : (l.length : Int) == 0 with
        | true => rw [h3] at h; simp at h
        | false =>
          rw [h3] at h
          simp only [cond_false] at h ⊢
          cases h4 : decide ((l.length : Int) > 8) with
          | true => rw [h4] at h; simp at h
          | false =>
            rw [h4] at h
            simp only [cond_false] at h ⊢
            cases h5 : decide (d + 1 > 4) with
            | true => rw [h5] at h; simp at h
            | false =>
              rw [h5] at h
              simp only [cond_false] at h
              have h6 := of_decide_eq_false h5
              rw [show decide (d > 4) = false from decide_eq_false (by omega)]
              exact ckTs_down l (d + 1) h
theorem ckTs_down : ∀ (t : List Ty) (d : Int), ckTs t (d + 1) = 0 → ckTs t d = 0
  | [], d, h => rfl
  | x :: r, d, h => by
    simp only [ckTs] at h ⊢
    by_cases h1 : ckT x (d + 1) = 0
    · rw [h1] at h
      simp only [bne_self_eq_false, cond_false] at h
      rw [ckT_down x d h1]
      simp only [bne_self_eq_false, cond_false]
      exact ckTs_down r d h
    · rw [show (ckT x (d + 1) != 0) = true by simpa using h1] at h
      exact absurd h h1
end
theorem ckTs_get : ∀ {ts : List Ty} {d : Int} {j : Nat} {t : Ty}, ckTs ts d = 0 → ts[j]? = some t → ckT t d = 0
  | [], d, j, t, h, hj => by simp at hj
  | x :: r, d, j, t, h, hj => by
    simp only [ckTs] at h
    by_cases h1 : ckT x d = 0
    · rw [h1] at h
      simp only [bne_self_eq_false, cond_false] at h
      cases j with
      | zero => simp at hj; subst hj; exact h1
      | succ j => exact ckTs_get h (by simpa using hj)
    · rw [show (ckT x d != 0) = true by simpa using h1] at h
      exact absurd h h1
theorem ckT_tup {k : Int} {ts : List Ty} {d : Int} (hk : k = 4) (h : ckT (.mk k ts) d = 0) : ts ≠ [] ∧ ts.length ≤ 8 ∧ d ≤ 4 ∧ ckTs ts (d + 1) = 0 := by
  subst hk
  simp only [ckT] at h
  simp at h
  cases h3 : (ts.length : Int) == 0 with
  | true =>
    rw [h3] at h
    simp at h
  | false =>
    have hne : ts ≠ [] := by rintro rfl; simp at h3
    rw [h3] at h
    simp only [cond_false] at h
    cases h4 : decide (8 < (ts.length : Int)) with
    | true => rw [h4] at h; simp at h
    | false =>
      rw [h4] at h
      simp only [cond_false] at h
      have h4 := of_decide_eq_false h4
      cases h5 : decide (4 < d) with
      | true => rw [h5] at h; simp at h
      | false =>
        rw [h5] at h
        simp only [cond_false] at h
        exact ⟨hne, by omega, by have := of_decide_eq_false h5; omega, h⟩
mutual
theorem lf_bd : ∀ (v : Val) (d : Int), lfV v → ckT (tyV v) d = 0 → BdV v
  | .mk k i b s t, d, h, hc => by
    by_cases hk : k = 4
    · obtain ⟨h1, h2, h3, h4⟩ := ckT_tup hk hc
      rw [tyVs_length] at h2
      exact ⟨by omega, lfs_bd t (d + 1) h.2.2.2 h4⟩
    · have h3 := (or_f h.2.1).2
      rw [show (k != 4) = true by simpa using hk] at h3
      have h6 : t = [] := by
        rw [Bool.true_and] at h3
        exact nil_of h3
      subst h6
      exact ⟨by simp, trivial⟩
theorem lfs_bd : ∀ (v : List Val) (d : Int), lfVs v → ckTs (tyVs v) d = 0 → BdVs v
  | [], d, _, _ => trivial
  | x :: r, d, h, hc => by
    simp only [tyVs, ckTs] at hc
    by_cases h1 : ckT (tyV x) d = 0
    · rw [h1] at hc
      simp only [bne_self_eq_false, cond_false] at hc
      exact ⟨lf_bd x d h.1 h1, lfs_bd r d h.2 hc⟩
    · rw [show (ckT (tyV x) d != 0) = true by simpa using h1] at hc
      exact absurd hc h1
end
end Go.Proofs.YtbcjcekoonebiaaGreat.Tl

set_option linter.unusedVariables false
set_option linter.unusedSimpArgs false
namespace Go.Proofs.YtbcjcekoonebiaaGreat.Tl
open Go Go.RowKit
def OKv (v : Val) (t : Ty) : Prop := lfV v ∧ tyV v = t ∧ ckT t 0 = 0
def OKvs : List Val → List Ty → Prop
  | [], [] => True
  | v :: vs, t :: ts => OKv v t ∧ OKvs vs ts
  | _, _ => False
theorem OKvs.len : ∀ {vs : List Val} {ts : List Ty}, OKvs vs ts → vs.length = ts.length
  | [], [], _ => rfl
  | [], _ :: _, h => by simp [OKvs] at h
  | _ :: _, [], h => by simp [OKvs] at h
  | v :: vs, t :: ts, h => by simp only [List.length_cons, OKvs.len h.2]
theorem OKvs.lf : ∀ {vs : List Val} {ts : List Ty}, OKvs vs ts → lfVs vs ∧ tyVs vs = ts
  | [], [], _ => ⟨trivial, rfl⟩
  | [], _ :: _, h => by simp [OKvs] at h
  | _ :: _, [], h => by simp [OKvs] at h
  | v :: vs, t :: ts, h => ⟨⟨h.1.1, (OKvs.lf h.2).1⟩, by simp only [tyVs, h.1.2.1, (OKvs.lf h.2).2]⟩
theorem OKv.bd {v : Val} {t : Ty} (h : OKv v t) : BdV v := lf_bd v 0 h.1 (by rw [h.2.1]; exact h.2.2)
theorem OKv.text {v : Val} {t : Ty} (h : OKv v t) : v.s.size ≤ 255 := by
  cases v; exact h.1.2.2.1
theorem ok_int (i : Int) : OKv (.mk 1 i false ⟨#[]⟩ []) (.mk 1 []) := ⟨⟨rfl, rfl, Nat.zero_le _, trivial⟩, rfl, rfl⟩
theorem ok_bool (b : Bool) : OKv (.mk 2 0 b ⟨#[]⟩ []) (.mk 2 []) := ⟨⟨rfl, rfl, Nat.zero_le _, trivial⟩, rfl, rfl⟩
theorem ok_text (s : ByteArray) (h : s.size ≤ 255) : OKv (.mk 3 0 false s []) (.mk 3 []) := ⟨by simp [lfV, lfVs, h], rfl, rfl⟩
theorem ok_plain {v : Val} {t : Ty} (h : OKv v t) (hk : t.kind ≠ 4) : t = .mk t.kind [] := by
  obtain ⟨h1, rfl, h2⟩ := h
  cases v with
  | mk k i b s l =>
    have hk : k ≠ 4 := hk
    have h3 := (or_f h1.2.1).2
    rw [show (k != 4) = true by simpa using hk, Bool.true_and] at h3
    have h6 : l = [] := nil_of h3
    subst h6
    rfl
theorem lfVs_get : ∀ {l : List Val} {j : Nat} {v : Val}, lfVs l → l[j]? = some v → lfV v
  | [], j, v, h, hj => by simp at hj
  | x :: r, j, v, h, hj => by
    cases j with
    | zero => simp at hj; subst hj; exact h.1
    | succ j => exact lfVs_get h.2 (by simpa using hj)
theorem tyVs_get : ∀ {l : List Val} {j : Nat}, (tyVs l)[j]? = (l[j]?).map tyV
  | [], j => by simp [tyVs]
  | x :: r, j => by
    cases j with
    | zero => simp [tyVs]
    | succ j => simp [tyVs, tyVs_get (l := r)]
theorem ok_part {v : Val} {t : Ty} (h : OKv v t) (hk : t.kind = 4) {j : Nat} (hj : j < t.of.length) : ∃ w, v.t[j]? = some w ∧ OKv w (th t.of j) := by
  obtain ⟨h1, rfl, h2⟩ := h
  cases v with
  | mk k i b s l =>
    have hk : k = 4 := hk
    obtain ⟨_, _, _, h4⟩ := ckT_tup hk h2
    have hj : j < (tyVs l).length := hj
    have hg : (tyVs l)[j]? = some (th (tyVs l) j) := th_get hj
    have hg2 := hg
    rw [tyVs_get] at hg2
    simp only [Option.map_eq_some_iff] at hg2
    obtain ⟨w, hw, he⟩ := hg2
    exact ⟨w, hw, lfVs_get h1.2.2.2 hw, he, ckT_down _ 0 (ckTs_get h4 hg)⟩

theorem arS_cases {o : List UInt8} (h : arS o ≠ -2) : o = [108, 105, 116] ∨ o = [120] ∨ o = [97, 116] ∨ o = [110, 101, 103] ∨ o = [110, 111, 116] ∨ o = [108, 101, 110] ∨ o = [97, 100, 100] ∨ o = [115, 117, 98] ∨ o = [109, 117, 108] ∨ o = [100, 105, 118] ∨ o = [114, 101, 109] ∨ o = [101, 113] ∨ o = [108, 116] ∨ o = [97, 110, 100] ∨ o = [111, 114] ∨ o = [99, 97, 116] ∨ o = [105, 102] ∨ o = [116, 117, 112] := by
  apply Classical.byContradiction
  intro hn
  simp only [not_or] at hn
  apply h
  obtain ⟨h1, h2, h3, h4, h5, h6, h7, h8, h9, h10, h11, h12, h13, h14, h15, h16, h17, h18⟩ := hn
  simp only [arS, beq_false_of_ne h1, beq_false_of_ne h2, beq_false_of_ne h3, beq_false_of_ne h4, beq_false_of_ne h5, beq_false_of_ne h6, beq_false_of_ne h7, beq_false_of_ne h8, beq_false_of_ne h9, beq_false_of_ne h10, beq_false_of_ne h11, beq_false_of_ne h12, beq_false_of_ne h13, beq_false_of_ne h14, beq_false_of_ne h15, beq_false_of_ne h16, beq_false_of_ne h17, beq_false_of_ne h18, cond_false]

theorem two_of {ws : List Val} {ts : List Ty} (h : OKvs ws ts) (hl : ts.length = 2) : ∃ a b s t, ws = [a, b] ∧ ts = [s, t] ∧ OKv a s ∧ OKv b t := by
  rcases ts with _ | ⟨s, _ | ⟨t, _ | ⟨u, ts⟩⟩⟩ <;> simp at hl
  rcases ws with _ | ⟨a, _ | ⟨b, _ | ⟨c, ws⟩⟩⟩ <;> simp [OKvs] at h
  exact ⟨a, b, s, t, rfl, rfl, h.1, h.2⟩
theorem one_of {ws : List Val} {ts : List Ty} (h : OKvs ws ts) (hl : ts.length = 1) : ∃ a s, ws = [a] ∧ ts = [s] ∧ OKv a s := by
  rcases ts with _ | ⟨s, _ | ⟨u, ts⟩⟩ <;> simp at hl
  rcases ws with _ | ⟨a, _ | ⟨c, ws⟩⟩ <;> simp [OKvs] at h
  exact ⟨a, s, rfl, rfl, h⟩
theorem allK2 {k : Int} {s t r u : Ty} (h : allK k [s, t] r = (u, 0)) : s.kind = k ∧ t.kind = k ∧ u = r := by
  simp only [allK] at h
  cases h1 : s.kind != k with
  | true => rw [h1] at h; simp at h
  | false =>
    cases h2 : t.kind != k with
    | true => rw [h1, h2] at h; simp at h
    | false => rw [h1, h2] at h; simp at h; exact ⟨bne_f h1, bne_f h2, h.symm⟩
theorem allK1 {k : Int} {s r u : Ty} (h : allK k [s] r = (u, 0)) : s.kind = k ∧ u = r := by
  simp only [allK] at h
  cases h1 : s.kind != k with
  | true => rw [h1] at h; simp at h
  | false => rw [h1] at h; simp at h; exact ⟨bne_f h1, h.symm⟩

def Made (op : ByteArray) (m : Int) (ws : List Val) (t : Ty) : Prop :=
  ∃ w h, applyS op m ws = some (w, h) ∧ Ev (fun n => s_f63 n op m ws) (w, h) ∧ (h = 0 → OKv w t) ∧ (h ≠ 0 → w = zeroV)

theorem made {op : ByteArray} {m : Int} {ws : List Val} {ts : List Ty} {t : Ty} (hw : OKvs ws ts) (har : arS op.data.toList ≠ -2)
    (hlen : (((decide (arS op.data.toList ≥ 0)) && ((ts.length : Int) != arS op.data.toList)) || ((decide (arS op.data.toList < 0)) && ((decide ((ts.length : Int) < 1)) || (decide ((ts.length : Int) > 8))))) = false)
    (h1 : op.data.toList ≠ [108, 105, 116]) (h2 : op.data.toList ≠ [120]) (h3 : op.data.toList ≠ [97, 110, 100]) (h4 : op.data.toList ≠ [111, 114]) (h5 : op.data.toList ≠ [105, 102]) (ht : opTy op.data.toList m ts = (t, 0)) : Made op m ws t := by
  have hl : ∀ c : Int, 0 ≤ c → arS op.data.toList = c → (ts.length : Int) = c := by
    intro c hc e
    rw [e] at hlen
    simp only [decide_eq_true (show c ≥ 0 from hc), decide_eq_false (show ¬ c < 0 by omega), Bool.true_and, Bool.false_and, Bool.or_false] at hlen
    exact bne_f hlen
  unfold Made applyS s_f63
  generalize hop : op.data.toList = o at *
  rcases arS_cases har with rfl | rfl | rfl | rfl | rfl | rfl | rfl | rfl | rfl | rfl | rfl | rfl | rfl | rfl | rfl | rfl | rfl | rfl
  · exact absurd rfl h1
  · exact absurd rfl h2
  · -- at
    obtain ⟨a, s, rfl, rfl, ha⟩ := one_of hw (by have := hl 1 (by omega) rfl; omega)
    have ht : (bif s.kind != 4 then (zT, (5 : Int)) else bif decide (m < 0) then (zT, (1 : Int)) else bif decide (m ≥ (s.of.length : Int)) then (zT, (1 : Int)) else (th s.of m.toNat, (0 : Int))) = (t, 0) := ht
    cases c1 : s.kind != 4 with
    | true => rw [c1] at ht; simp at ht
    | false =>
      cases c2 : decide (m < 0) with
      | true => rw [c1, c2] at ht; simp at ht
      | false =>
        cases c3 : decide (m ≥ (s.of.length : Int)) with
        | true => rw [c1, c2, c3] at ht; simp at ht
        | false =>
          rw [c1, c2, c3] at ht
          simp only [cond_false, Prod.mk.injEq, and_true] at ht
          have c2 := of_decide_eq_false c2
          have c3 := of_decide_eq_false c3
          obtain ⟨w, q1, q2⟩ := ok_part ha (bne_f c1) (j := m.toNat) (by omega)
          refine ⟨w, 0, ?_, ?_, fun _ => ht ▸ q2, fun q => absurd rfl q⟩
          · simp only [if_true, if_pos (show 0 ≤ m by omega), q1]
          · exact Ev.t rfl (Ev.bindc rfl (Ev.g (by omega) (Ev.bindc q1 (Ev.mk _))))
  · -- neg
    obtain ⟨a, s, rfl, rfl, ha⟩ := one_of hw (by have := hl 1 (by omega) rfl; omega)
    obtain ⟨_, rfl⟩ := allK1 (show allK 1 [s] (.mk 1 []) = (t, 0) from ht)
    exact ⟨_, 0, by simp [oneS, hop], Ev.bindc rfl (Ev.mk _), fun _ => ok_int _, fun q => absurd rfl q⟩
  · -- not
    obtain ⟨a, s, rfl, rfl, ha⟩ := one_of hw (by have := hl 1 (by omega) rfl; omega)
    obtain ⟨_, rfl⟩ := allK1 (show allK 2 [s] (.mk 2 []) = (t, 0) from ht)
    exact ⟨_, 0, by simp [oneS, hop], Ev.bindc rfl (Ev.mk _), fun _ => ok_bool _, fun q => absurd rfl q⟩
  · -- len
    obtain ⟨a, s, rfl, rfl, ha⟩ := one_of hw (by have := hl 1 (by omega) rfl; omega)
    obtain ⟨_, rfl⟩ := allK1 (show allK 3 [s] (.mk 1 []) = (t, 0) from ht)
    exact ⟨_, 0, by simp [oneS, hop], Ev.bindc rfl (Ev.mk _), fun _ => ok_int _, fun q => absurd rfl q⟩
  · -- add
    obtain ⟨a, b, s, s', rfl, rfl, ha, hb⟩ := two_of hw (by have := hl 2 (by omega) rfl; omega)
    obtain ⟨_, _, rfl⟩ := allK2 (show allK 1 [s, s'] (.mk 1 []) = (t, 0) from ht)
    exact ⟨_, 0, by simp [bothS, hop], Ev.bindc rfl (Ev.bindc rfl (Ev.mk _)), fun _ => ok_int _, fun q => absurd rfl q⟩
  · -- sub
    obtain ⟨a, b, s, s', rfl, rfl, ha, hb⟩ := two_of hw (by have := hl 2 (by omega) rfl; omega)
    obtain ⟨_, _, rfl⟩ := allK2 (show allK 1 [s, s'] (.mk 1 []) = (t, 0) from ht)
    exact ⟨_, 0, by simp [bothS, hop], Ev.bindc rfl (Ev.bindc rfl (Ev.mk _)), fun _ => ok_int _, fun q => absurd rfl q⟩
  · -- mul
    obtain ⟨a, b, s, s', rfl, rfl, ha, hb⟩ := two_of hw (by have := hl 2 (by omega) rfl; omega)
    obtain ⟨_, _, rfl⟩ := allK2 (show allK 1 [s, s'] (.mk 1 []) = (t, 0) from ht)
    exact ⟨_, 0, by simp [bothS, hop], Ev.bindc rfl (Ev.bindc rfl (Ev.mk _)), fun _ => ok_int _, fun q => absurd rfl q⟩
  · -- div
    obtain ⟨a, b, s, s', rfl, rfl, ha, hb⟩ := two_of hw (by have := hl 2 (by omega) rfl; omega)
    obtain ⟨_, _, rfl⟩ := allK2 (show allK 1 [s, s'] (.mk 1 []) = (t, 0) from ht)
    by_cases h0 : b.i = 0
    · exact ⟨zeroV, 8, by simp [bothS, hop, h0], Ev.bindc rfl (Ev.t (by simp [h0]) (Ev.mk _)), (fun q => by cases q), fun _ => rfl⟩
    · refine ⟨.mk 1 (W64 (a.i.tdiv b.i)) false ⟨#[]⟩ [], 0, by simp [bothS, hop, h0], ?_, fun _ => ok_int _, fun q => absurd rfl q⟩
      refine Ev.bindc rfl (Ev.f (by simpa using h0) (Ev.bindc rfl ?_))
      by_cases h6 : b.i = -1
      · refine Ev.t (by simp [h6]) (Ev.t rfl (Ev.bindc rfl ((Ev.mk _).congr ?_)))
        rw [h6, show a.i.tdiv (-1) = 0 - a.i by rw [Int.tdiv_neg, Int.tdiv_one]; omega]
      · exact Ev.f (by simpa using h6) (Ev.t rfl (Ev.bindc rfl (Ev.bindc rfl (Ev.g h0 (Ev.mk _)))))
  · -- rem
    obtain ⟨a, b, s, s', rfl, rfl, ha, hb⟩ := two_of hw (by have := hl 2 (by omega) rfl; omega)
    obtain ⟨_, _, rfl⟩ := allK2 (show allK 1 [s, s'] (.mk 1 []) = (t, 0) from ht)
    by_cases h0 : b.i = 0
    · exact ⟨zeroV, 8, by simp [bothS, hop, h0], Ev.bindc rfl (Ev.t (by simp [h0]) (Ev.mk _)), (fun q => by cases q), fun _ => rfl⟩
    · refine ⟨.mk 1 (a.i.tmod b.i) false ⟨#[]⟩ [], 0, by simp [bothS, hop, h0], ?_, fun _ => ok_int _, fun q => absurd rfl q⟩
      refine Ev.bindc rfl (Ev.f (by simpa using h0) (Ev.bindc rfl ?_))
      by_cases h6 : b.i = -1
      · refine Ev.t (by simp [h6]) (Ev.f rfl ((Ev.mk _).congr ?_))
        rw [h6, show a.i.tmod (-1) = 0 by rw [Int.tmod_neg, Int.tmod_one]]
      · exact Ev.f (by simpa using h6) (Ev.f rfl (Ev.bindc rfl (Ev.bindc rfl (Ev.g h0 (Ev.mk _)))))
  · -- eq
    obtain ⟨a, b, s, s', rfl, rfl, ha, hb⟩ := two_of hw (by have := hl 2 (by omega) rfl; omega)
    have ht : (bif !(sameT s s') then (zT, 5) else ((.mk 2 [] : Ty), (0 : Int))) = (t, 0) := ht
    cases c1 : !(sameT s s') with
    | true => rw [c1] at ht; simp at ht
    | false =>
      rw [c1] at ht
      simp at ht
      exact ⟨_, 0, by simp [bothS, hop], Ev.bindc rfl (Ev.bindc rfl (Ev.bind (e25 a b ha.bd) (Ev.mk _))), fun _ => ht ▸ ok_bool _, fun q => absurd rfl q⟩
  · -- lt
    obtain ⟨a, b, s, s', rfl, rfl, ha, hb⟩ := two_of hw (by have := hl 2 (by omega) rfl; omega)
    have ht : (bif !(sameT s s') then (zT, 5) else ((.mk 2 [] : Ty), (0 : Int))) = (t, 0) := ht
    cases c1 : !(sameT s s') with
    | true => rw [c1] at ht; simp at ht
    | false =>
      rw [c1] at ht
      simp at ht
      exact ⟨_, 0, by simp [bothS, hop], Ev.bindc rfl (Ev.bindc rfl (Ev.bind (e64 a b ha.bd) (Ev.mk _))), fun _ => ht ▸ ok_bool _, fun q => absurd rfl q⟩
  · exact absurd rfl h3
  · exact absurd rfl h4
  · -- cat
    obtain ⟨a, b, s, s', rfl, rfl, ha, hb⟩ := two_of hw (by have := hl 2 (by omega) rfl; omega)
    obtain ⟨_, _, rfl⟩ := allK2 (show allK 3 [s, s'] (.mk 3 []) = (t, 0) from ht)
    have l1 := ha.text
    have l2 := hb.text
    by_cases h6 : 255 < a.s.size + b.s.size
    · refine ⟨zeroV, 4, by simp [bothS, hop, h6]; omega, Ev.bindc rfl (Ev.bindc rfl (Ev.g (by omega) (Ev.t ?_ (Ev.mk _)))), (fun q => by cases q), fun _ => rfl⟩
      rw [ByteArray.size_append]; exact decide_eq_true (by omega)
    · refine ⟨.mk 3 0 false (a.s ++ b.s) [], 0, by simp [bothS, hop, h6]; omega, Ev.bindc rfl (Ev.bindc rfl (Ev.g (by omega) (Ev.f ?_ (Ev.mk _)))), fun _ => ok_text _ (by rw [ByteArray.size_append]; omega), fun q => absurd rfl q⟩
      rw [ByteArray.size_append]; exact decide_eq_false (by omega)
  · exact absurd rfl h5
  · -- tup
    have ht : (bif ckT (.mk 4 ts) 0 != 0 then (zT, 9) else ((.mk 4 ts : Ty), (0 : Int))) = (t, 0) := ht
    cases c1 : ckT (.mk 4 ts) 0 != 0 with
    | true => rw [c1] at ht; simp at ht
    | false =>
      rw [c1] at ht
      simp at ht
      subst ht
      have c1 := bne_f c1
      obtain ⟨q1, q2, _, _⟩ := ckT_tup rfl c1
      have ql := hw.len
      obtain ⟨q3, q4⟩ := hw.lf
      cases ws with
      | nil => have q5 : ts = [] := List.eq_nil_of_length_eq_zero (by simpa using ql.symm); exact absurd q5 q1
      | cons w ws =>
        refine ⟨.mk 4 0 false ⟨#[]⟩ (w :: ws), 0, ?_, Ev.f rfl (Ev.t rfl (Ev.g (by omega) (Ev.mk _))), fun _ => ⟨?_, by simp only [tyV, q4], c1⟩, fun q => absurd rfl q⟩
        · simp at ql
          simp
          omega
        · exact ⟨rfl, rfl, Nat.zero_le _, q3⟩
end Go.Proofs.YtbcjcekoonebiaaGreat.Tl

set_option linter.unusedVariables false
set_option linter.unusedSimpArgs false
namespace Go.Proofs.YtbcjcekoonebiaaGreat.Tl
open Go Go.RowKit
def Res (e : Ex) (x : Val) (t : Ty) : Prop := ∃ w h, evalS e x = some (w, h) ∧ Ev (fun n => s_f24 n e x) (w, h) ∧ (h = 0 → OKv w t) ∧ (h ≠ 0 → w = zeroV)
def Ress : List Ex → Val → List Ty → Prop
  | [], _, [] => True
  | e :: r, x, t :: ts => Res e x t ∧ Ress r x ts
  | _, _, _ => False
theorem Ress.len : ∀ {l : List Ex} {x : Val} {ts : List Ty}, Ress l x ts → l.length = ts.length
  | [], _, [], _ => rfl
  | [], _, _ :: _, h => by simp [Ress] at h
  | _ :: _, _, [], h => by simp [Ress] at h
  | _ :: _, _, _ :: _, h => by simp only [List.length_cons, Ress.len h.2]

theorem loopR (op : ByteArray) (v : Val) (m : Int) (a : List Ex) (x : Val) (ha : a.length ≤ 1000) : ∀ (r : List Ex) (rt : List Ty) (acc : List Val) (j : Nat), a.drop j = r → acc.length = j → Ress r x rt →
    ∃ ws g, allS r x = some (ws, g) ∧ (g = 0 → OKvs ws rt) ∧ ∀ M : Val × Int, (g = 0 → Ev (fun n => s_f63 n op m (acc ++ ws)) M) → Ev (fun n => s_f24_l1 n (.mk op v m a) x acc j) (if g = 0 then M else (zeroV, g))
  | [], [], acc, j, h, hj, hr => by
    refine ⟨[], 0, rfl, fun _ => trivial, fun M hM => Ev.succ ?_⟩
    have hM := hM rfl
    rw [List.append_nil] at hM
    simp only [s_f24_l1, Ex.a, Ex.op, Ex.n, if_true]
    exact Ev.f (cj_f (drop_n h)) (Ev.bind hM (Ev.mk _))
  | [], _ :: _, acc, j, h, hj, hr => by simp [Ress] at hr
  | _ :: _, [], acc, j, h, hj, hr => by simp [Ress] at hr
  | e :: r, t :: rt, acc, j, h, hj, hr => by
    obtain ⟨hlt, hx, hd⟩ := drop_c h
    obtain ⟨⟨w, f, h1, h2, h3, h4⟩, hr⟩ := hr
    obtain ⟨ws, g, k1, k2, k3⟩ := loopR op v m a x ha r rt (acc ++ [w]) (j + 1) hd (by simp [hj]) hr
    by_cases hf : f = 0
    · subst hf
      by_cases hg : g = 0
      · subst hg
        refine ⟨w :: ws, 0, by simp [allS, h1, k1], fun _ => ⟨h3 rfl, k2 rfl⟩, fun M hM => Ev.succ ?_⟩
        have hk := k3 M (fun _ => by simpa using hM rfl)
        simp only [s_f24_l1, Ex.a]
        exact Ev.t (cj_t hlt) (Ev.bindc hx (Ev.bind h2 (Ev.f rfl (Ev.g (by omega) hk))))
      · refine ⟨[], g, by simp [allS, h1, k1, hg], fun q => absurd q hg, fun M hM => Ev.succ ?_⟩
        have hk := k3 M (fun q => absurd q hg)
        simp only [s_f24_l1, Ex.a]
        exact Ev.t (cj_t hlt) (Ev.bindc hx (Ev.bind h2 (Ev.f rfl (Ev.g (by omega) hk))))
    · refine ⟨[], f, by simp [allS, h1, hf], fun q => absurd q hf, fun M hM => Ev.succ ?_⟩
      simp only [s_f24_l1, Ex.a, if_neg hf]
      exact Ev.t (cj_t hlt) (Ev.bindc hx (Ev.bind h2 (Ev.t (by simpa using hf) (Ev.mk _))))

theorem bif_zt {c : Bool} {e : Int} {p : Ty × Int} {t : Ty} (h : (bif c then (zT, e) else p) = (t, 0)) (he : e ≠ 0) : c = false ∧ p = (t, 0) := by
  cases c with
  | true => simp only [cond_true, Prod.mk.injEq] at h; exact absurd h.2 he
  | false => exact ⟨rfl, h⟩

theorem lazy {op : ByteArray} {v : Val} {m : Int} {a : List Ex} {x : Val} {ts : List Ty} {t : Ty} (hop : op.data.toList = [97, 110, 100] ∨ op.data.toList = [111, 114] ∨ op.data.toList = [105, 102]) (hr : Ress a x ts)
    (hlen : (((decide (arS op.data.toList ≥ 0)) && ((a.length : Int) != arS op.data.toList)) || ((decide (arS op.data.toList < 0)) && ((decide ((a.length : Int) < 1)) || (decide ((a.length : Int) > 8))))) = false) (ht : opTy op.data.toList m ts = (t, 0)) : Res (.mk op v m a) x t := by
  have hal : ∀ c : Int, 0 ≤ c → arS op.data.toList = c → (a.length : Int) = c := by
    intro c hc e
    rw [e] at hlen
    simp only [decide_eq_true (show c ≥ 0 from hc), decide_eq_false (show ¬ c < 0 by omega), Bool.true_and, Bool.false_and, Bool.or_false] at hlen
    exact bne_f hlen
  have hl2 := hr.len
  rcases hop with hop | hop | hop
  · have h2 := hal 2 (by omega) (by rw [hop]; rfl)
    rw [hop] at ht
    rcases a with _ | ⟨e0, _ | ⟨e1, _ | ⟨e2, a⟩⟩⟩ <;> simp at h2
    · rcases ts with _ | ⟨t0, _ | ⟨t1, _ | ⟨t2, ts⟩⟩⟩ <;> simp at hl2
      obtain ⟨⟨w, f, q1, q2, q3, q4⟩, ⟨w', f', r1, r2, r3, r4⟩, _⟩ := hr
      obtain ⟨c1, c2, rfl⟩ := allK2 (show allK 2 [t0, t1] (.mk 2 []) = (t, 0) from ht)
      by_cases hf : f = 0
      · subst hf
        have q3 := q3 rfl
        have ht0 := ok_plain q3 (by omega)
        rw [c1] at ht0
        cases hb : w.b with
        | true =>
          refine ⟨w', f', ?_, Ev.succ ?_, fun q => ?_, r4⟩
          · simp [evalS, hop, isLazy, nthS, q1, chooseS, hb, r1]
          · simp only [s_f24, Ex.op, Ex.a, hop]
            exact Ev.f rfl (Ev.f rfl (Ev.bindc rfl (Ev.bind q2 (Ev.f rfl (Ev.t rfl (Ev.f (by simp [hb]) (Ev.bindc rfl (Ev.bind r2 (Ev.mk _)))))))))
          · have := r3 q
            rw [ok_plain this (by omega), c2] at this
            exact this
        | false =>
          refine ⟨w, 0, ?_, Ev.succ ?_, fun q => ht0 ▸ q3, fun q => absurd rfl q⟩
          · simp [evalS, hop, isLazy, nthS, q1, chooseS, hb]
          · simp only [s_f24, Ex.op, Ex.a, hop]
            exact Ev.f rfl (Ev.f rfl (Ev.bindc rfl (Ev.bind q2 (Ev.f rfl (Ev.t rfl (Ev.t (by simp [hb]) (Ev.mk _)))))))
      · have q4 := q4 hf
        subst q4
        refine ⟨zeroV, f, ?_, Ev.succ ?_, fun q => absurd q hf, fun _ => rfl⟩
        · simp [evalS, hop, isLazy, nthS, q1, hf]
        · simp only [s_f24, Ex.op, Ex.a, hop]
          exact Ev.f rfl (Ev.f rfl (Ev.bindc rfl (Ev.bind q2 (Ev.t (by simpa using hf) (Ev.mk _)))))
    · omega
  · have h2 := hal 2 (by omega) (by rw [hop]; rfl)
    rw [hop] at ht
    rcases a with _ | ⟨e0, _ | ⟨e1, _ | ⟨e2, a⟩⟩⟩ <;> simp at h2
    · rcases ts with _ | ⟨t0, _ | ⟨t1, _ | ⟨t2, ts⟩⟩⟩ <;> simp at hl2
      obtain ⟨⟨w, f, q1, q2, q3, q4⟩, ⟨w', f', r1, r2, r3, r4⟩, _⟩ := hr
      obtain ⟨c1, c2, rfl⟩ := allK2 (show allK 2 [t0, t1] (.mk 2 []) = (t, 0) from ht)
      by_cases hf : f = 0
      · subst hf
        have q3 := q3 rfl
        have ht0 := ok_plain q3 (by omega)
        rw [c1] at ht0
        cases hb : w.b with
        | false =>
          refine ⟨w', f', ?_, Ev.succ ?_, fun q => ?_, r4⟩
          · simp [evalS, hop, isLazy, nthS, q1, chooseS, hb, r1]
          · simp only [s_f24, Ex.op, Ex.a, hop]
            exact Ev.f rfl (Ev.f rfl (Ev.bindc rfl (Ev.bind q2 (Ev.f rfl (Ev.f rfl (Ev.t rfl (Ev.f hb (Ev.bindc rfl (Ev.bind r2 (Ev.mk _))))))))))
          · have := r3 q
            rw [ok_plain this (by omega), c2] at this
            exact this
        | true =>
          refine ⟨w, 0, ?_, Ev.succ ?_, fun q => ht0 ▸ q3, fun q => absurd rfl q⟩
          · simp [evalS, hop, isLazy, nthS, q1, chooseS, hb]
          · simp only [s_f24, Ex.op, Ex.a, hop]
            exact Ev.f rfl (Ev.f rfl (Ev.bindc rfl (Ev.bind q2 (Ev.f rfl (Ev.f rfl (Ev.t rfl (Ev.t hb (Ev.mk _))))))))
      · have q4 := q4 hf
        subst q4
        refine ⟨zeroV, f, ?_, Ev.succ ?_, fun q => absurd q hf, fun _ => rfl⟩
        · simp [evalS, hop, isLazy, nthS, q1, hf]
        · simp only [s_f24, Ex.op, Ex.a, hop]
          exact Ev.f rfl (Ev.f rfl (Ev.bindc rfl (Ev.bind q2 (Ev.t (by simpa using hf) (Ev.mk _)))))
    · omega
  · have h2 := hal 3 (by omega) (by rw [hop]; rfl)
    rw [hop] at ht
    rcases a with _ | ⟨e0, _ | ⟨e1, _ | ⟨e2, _ | ⟨e3, a⟩⟩⟩⟩ <;> simp at h2
    · rcases ts with _ | ⟨t0, _ | ⟨t1, _ | ⟨t2, _ | ⟨t3, ts⟩⟩⟩⟩ <;> simp at hl2
      obtain ⟨⟨w, f, q1, q2, q3, q4⟩, ⟨w', f', r1, r2, r3, r4⟩, ⟨w2, f2, p1, p2, p3, p4⟩, _⟩ := hr
      have ht : (bif t0.kind != 2 then (zT, (5 : Int)) else bif !(sameT t1 t2) then (zT, (5 : Int)) else (t1, (0 : Int))) = (t, 0) := ht
      obtain ⟨c1, ht⟩ := bif_zt ht (by omega)
      obtain ⟨c2, ht⟩ := bif_zt ht (by omega)
      simp only [Prod.mk.injEq, and_true] at ht
      subst ht
      have c2 := (sameT_eq t1 t2).1 (by simpa using c2)
      by_cases hf : f = 0
      · subst hf
        cases hb : w.b with
        | true =>
          refine ⟨w', f', ?_, Ev.succ ?_, r3, r4⟩
          · simp [evalS, hop, isLazy, nthS, q1, chooseS, hb, r1]
          · simp only [s_f24, Ex.op, Ex.a, hop]
            exact Ev.f rfl (Ev.f rfl (Ev.bindc rfl (Ev.bind q2 (Ev.f rfl (Ev.f rfl (Ev.f rfl (Ev.t rfl (Ev.t hb (Ev.bindc rfl (Ev.bind r2 (Ev.mk _)))))))))))
        | false =>
          refine ⟨w2, f2, ?_, Ev.succ ?_, fun q => c2 ▸ p3 q, p4⟩
          · simp [evalS, hop, isLazy, nthS, q1, chooseS, hb, p1]
          · simp only [s_f24, Ex.op, Ex.a, hop]
            exact Ev.f rfl (Ev.f rfl (Ev.bindc rfl (Ev.bind q2 (Ev.f rfl (Ev.f rfl (Ev.f rfl (Ev.t rfl (Ev.f hb (Ev.bindc rfl (Ev.bind p2 (Ev.mk _)))))))))))
      · have q4 := q4 hf
        subst q4
        refine ⟨zeroV, f, ?_, Ev.succ ?_, fun q => absurd q hf, fun _ => rfl⟩
        · simp [evalS, hop, isLazy, nthS, q1, hf]
        · simp only [s_f24, Ex.op, Ex.a, hop]
          exact Ev.f rfl (Ev.f rfl (Ev.bindc rfl (Ev.bind q2 (Ev.t (by simpa using hf) (Ev.mk _)))))
    · omega

theorem eager {op : ByteArray} {v : Val} {m : Int} {a : List Ex} {x : Val} {ts : List Ty} {t : Ty} (h1 : op.data.toList ≠ [108, 105, 116]) (h2 : op.data.toList ≠ [120]) (h3 : op.data.toList ≠ [97, 110, 100]) (h4 : op.data.toList ≠ [111, 114]) (h5 : op.data.toList ≠ [105, 102]) (har : arS op.data.toList ≠ -2)
    (hr : Ress a x ts) (ha : a.length ≤ 12)
    (hlen : (((decide (arS op.data.toList ≥ 0)) && ((a.length : Int) != arS op.data.toList)) || ((decide (arS op.data.toList < 0)) && ((decide ((a.length : Int) < 1)) || (decide ((a.length : Int) > 8))))) = false) (ht : opTy op.data.toList m ts = (t, 0)) : Res (.mk op v m a) x t := by
  have hz : isLazy op = false := by
    simp only [isLazy, beq_false_of_ne h3, beq_false_of_ne h4, beq_false_of_ne h5, Bool.or_self]
  have hl2 := hr.len
  have hne : a ≠ [] := by
    rintro rfl
    rcases arS_cases har with q | q | q | q | q | q | q | q | q | q | q | q | q | q | q | q | q | q
    all_goals first
      | (exact absurd q h1) | (exact absurd q h2)
      | (rw [q] at hlen; exact absurd hlen (by decide))
  cases a with
  | nil => exact absurd rfl hne
  | cons e0 r =>
    cases ts with
    | nil => simp at hl2
    | cons t0 rt =>
      obtain ⟨⟨w, f, q1, q2, q3, q4⟩, hr'⟩ := hr
      obtain ⟨ws, g, k1, k2, k3⟩ := loopR op v m (e0 :: r) x (by omega) r rt [w] 1 rfl rfl hr'
      have c1 := beq_false_of_ne h1
      have c2 := beq_false_of_ne h2
      have c3 := beq_false_of_ne h3
      have c4 := beq_false_of_ne h4
      have c5 := beq_false_of_ne h5
      by_cases hf : f = 0
      · subst hf
        by_cases hg : g = 0
        · subst hg
          obtain ⟨w2, f2, m1, m2, m3, m4⟩ := made (op := op) (m := m) (ws := w :: ws) (ts := t0 :: rt) ⟨q3 rfl, k2 rfl⟩ har (by rw [← hl2]; exact hlen) h1 h2 h3 h4 h5 ht
          refine ⟨w2, f2, ?_, Ev.succ ?_, m3, m4⟩
          · simp only [evalS, if_neg h1, if_neg h2, hz, Bool.false_eq_true, if_false]
            rw [if_pos (by omega)]
            simp only [allS, q1, if_true, k1]
            exact m1
          · simp only [s_f24, Ex.op, Ex.a]
            exact Ev.f c1 (Ev.f c2 (Ev.bindc rfl (Ev.bind q2 (Ev.f rfl (Ev.f c3 (Ev.f c4 (Ev.f c5 (by simpa using k3 (w2, f2) (fun _ => m2)))))))))
        · refine ⟨zeroV, g, ?_, Ev.succ ?_, fun q => absurd q hg, fun _ => rfl⟩
          · simp only [evalS, if_neg h1, if_neg h2, hz, Bool.false_eq_true, if_false]
            rw [if_pos (by omega)]
            simp only [allS, q1, if_true, k1, if_neg hg]
          · simp only [s_f24, Ex.op, Ex.a]
            exact Ev.f c1 (Ev.f c2 (Ev.bindc rfl (Ev.bind q2 (Ev.f rfl (Ev.f c3 (Ev.f c4 (Ev.f c5 (by simpa [hg] using k3 (zeroV, 0) (fun q => absurd q hg)))))))))
      · refine ⟨zeroV, f, ?_, Ev.succ ?_, fun q => absurd q hf, fun _ => rfl⟩
        · simp only [evalS, if_neg h1, if_neg h2, hz, Bool.false_eq_true, if_false]
          rw [if_pos (by omega)]
          simp only [allS, q1, if_neg hf]
        · simp only [s_f24, Ex.op, Ex.a]
          exact Ev.f c1 (Ev.f c2 (Ev.bindc rfl (Ev.bind q2 (Ev.t (by simpa using hf) (Ev.mk _)))))

mutual
theorem sound : ∀ (e : Ex) (ty : Ty) (d : Int) (t : Ty) (x : Val), BdE e → OKv x ty → ckE e ty d = (t, 0) → Res e x t
  | .mk o v m a, ty, d, t, x, hb, hx, h => by
    simp only [ckE] at h
    obtain ⟨c1, h⟩ := bif_zt h (by omega)
    obtain ⟨c2, h⟩ := bif_zt h (by omega)
    obtain ⟨c3, h⟩ := bif_zt h (by omega)
    obtain ⟨c4, h⟩ := bif_zt h (by omega)
    have har : arS o.data.toList ≠ -2 := by simpa using c1
    by_cases h1 : o.data.toList = [108, 105, 116]
    · rw [show (o.data.toList == [108, 105, 116]) = true by simpa using h1] at h
      simp only [cond_true] at h
      by_cases hv : ckV v 0 = 0
      · rw [hv] at h
        simp at h
        subst h
        obtain ⟨q1, q2⟩ := (ckV_lf v 0).1 hv
        refine ⟨v, 0, by simp [evalS, h1], Ev.succ ?_, fun _ => ⟨q1, rfl, q2⟩, fun q => absurd rfl q⟩
        simp only [s_f24, Ex.op, Ex.v]
        exact Ev.t (by simpa using h1) (Ev.mk _)
      · rw [show (ckV v 0 != 0) = true by simpa using hv] at h
        simp only [cond_true, Prod.mk.injEq] at h
        exact absurd h.2 hv
    · rw [show (o.data.toList == [108, 105, 116]) = false from beq_false_of_ne h1] at h
      simp only [cond_false] at h
      by_cases h2 : o.data.toList = [120]
      · rw [show (o.data.toList == [120]) = true by simpa using h2] at h
        simp only [cond_true, Prod.mk.injEq, and_true] at h
        subst h
        refine ⟨x, 0, by simp [evalS, h2], Ev.succ ?_, fun _ => hx, fun q => absurd rfl q⟩
        simp only [s_f24, Ex.op]
        exact Ev.f (beq_false_of_ne h1) (Ev.t (by simpa using h2) (Ev.mk _))
      · rw [show (o.data.toList == [120]) = false from beq_false_of_ne h2] at h
        simp only [cond_false] at h
        by_cases hp : (ckEs a ty (d + 1)).2 = 0
        · rw [hp] at h
          simp only [bne_self_eq_false, cond_false] at h
          have hr := sounds a ty (d + 1) x hb.2.2 hx hp
          by_cases hop : o.data.toList = [97, 110, 100] ∨ o.data.toList = [111, 114] ∨ o.data.toList = [105, 102]
          · exact lazy hop hr c3 h
          · simp only [not_or] at hop
            exact eager h1 h2 hop.1 hop.2.1 hop.2.2 har hr hb.1 c3 h
        · rw [show ((ckEs a ty (d + 1)).2 != 0) = true by simpa using hp] at h
          simp only [cond_true, Prod.mk.injEq] at h
          exact absurd h.2 hp
theorem sounds : ∀ (l : List Ex) (ty : Ty) (d : Int) (x : Val), BdEs l → OKv x ty → (ckEs l ty d).2 = 0 → Ress l x (ckEs l ty d).1
  | [], ty, d, x, hb, hx, h => trivial
  | e :: r, ty, d, x, hb, hx, h => by
    simp only [ckEs] at h ⊢
    by_cases h1 : (ckE e ty d).2 = 0
    · rw [h1] at h ⊢
      simp only [bne_self_eq_false, cond_false] at h ⊢
      by_cases h2 : (ckEs r ty d).2 = 0
      · rw [h2]
        simp only [bne_self_eq_false, cond_false]
        exact ⟨sound e ty d _ x hb.1 hx (by rw [← h1]), sounds r ty d x hb.2 hx h2⟩
      · rw [show ((ckEs r ty d).2 != 0) = true by simpa using h2] at h
        exact absurd h h2
    · rw [show ((ckE e ty d).2 != 0) = true by simpa using h1] at h
      exact absurd h h1
end

end Go.Proofs.YtbcjcekoonebiaaGreat.Tl

set_option linter.unusedVariables false
set_option linter.unusedSimpArgs false
namespace Go.Proofs.YtbcjcekoonebiaaGreat.Tl
open Go Go.RowKit
/-! ### what is made anew is as it was -/
mutual
theorem e85 : ∀ v : Val, BdV v → Ev (fun n => s_f85 n v) v
  | .mk k i b s t, h => by
    refine Ev.succ ?_
    simp only [s_f85]
    exact e85s t k i b s t 0 [] rfl rfl h.1 h.2
theorem e85s : ∀ (r : List Val) (k i : Int) (b : Bool) (s : ByteArray) (t : List Val) (j : Nat) (acc : List Val), acc ++ r = t → acc.length = j → t.length ≤ 20 → BdVs r → Ev (fun n => s_f85_l1 n (.mk k i b s t) j acc) (.mk k i b s t)
  | [], k, i, b, s, t, j, acc, h, hj, hl, hb => by
    refine Ev.succ ?_
    subst hj
    simp only [List.append_nil] at h
    subst h
    simp only [s_f85_l1, Val.kind, Val.i, Val.b, Val.s, Val.t]
    exact Ev.f (cj_f (Nat.le_refl _)) (Ev.mk _)
  | x :: r, k, i, b, s, t, j, acc, h, hj, hl, hb => by
    refine Ev.succ ?_
    have hx : t[j]? = some x := by subst h hj; simp
    have hlt : j < t.length := (List.getElem?_eq_some_iff.1 hx).1
    simp only [s_f85_l1, Val.t]
    exact Ev.t (cj_t hlt) (Ev.bindc hx (Ev.bind (e85 x hb.1) (Ev.g (by omega) (e85s r k i b s t (j + 1) (acc ++ [x]) (by simp [h]) (by simp [hj]) hl hb.2))))
end
theorem GInst.eta (x : GInst) : GInst.mk x.f0 x.f1 x.f2 = x := by cases x; rfl
theorem e51l (p : List GInst) (hp : p.length ≤ 1000000) (hb : ∀ i ∈ p, BdV i.f1) : ∀ (r acc : List GInst) (j : Nat), acc ++ r = p → acc.length = j → Ev (fun n => s_f51_l1 n p acc j) p
  | [], acc, j, h, hj => by
    refine Ev.succ ?_
    subst hj
    simp only [List.append_nil] at h
    subst h
    simp only [s_f51_l1]
    exact Ev.f (cj_f (Nat.le_refl _)) (Ev.mk _)
  | x :: r, acc, j, h, hj => by
    refine Ev.succ ?_
    have hx : p[j]? = some x := by subst h hj; simp
    have hlt : j < p.length := (List.getElem?_eq_some_iff.1 hx).1
    have hm : x ∈ p := by rw [← h]; simp
    simp only [s_f51_l1]
    refine Ev.t (cj_t hlt) (Ev.bindc hx (Ev.bindc hx (Ev.bind (e85 _ (hb x hm)) (Ev.bindc hx (Ev.g (by omega) ?_)))))
    rw [GInst.eta]
    exact e51l p hp hb r (acc ++ [x]) (j + 1) (by simp [h]) (by simp [hj])
theorem e51 (p : List GInst) (hp : p.length ≤ 1000000) (hb : ∀ i ∈ p, BdV i.f1) : Ev (fun n => s_f51 n p) p := by
  unfold s_f51
  exact e51l p hp hb p [] 0 rfl rfl

/-! ### programs put together -/
def isJ (i : GInst) : Bool := (i.f0.data.toList == [106, 109, 112]) || (i.f0.data.toList == [106, 102])
def mvI (k : Int) (i : GInst) : GInst := bif isJ i then GInst.mk i.f0 i.f1 (IntKind.i64.wrap (i.f2 + k)) else i
def mvP (k : Int) (p : List GInst) : List GInst := p.map (mvI k)
def joinP (p q : List GInst) : List GInst := p ++ mvP (p.length : Int) q
theorem mvP_length (k : Int) (p : List GInst) : (mvP k p).length = p.length := by simp [mvP]
theorem joinP_length (p q : List GInst) : (joinP p q).length = p.length + q.length := by simp [joinP, mvP]
theorem e120l (p : List GInst) (k : Int) (hp : p.length ≤ 1000000) : ∀ (r acc : List GInst) (j : Nat), p.drop j = r → acc.length = j → Ev (fun n => s_f120_l1 n p k acc j) (acc ++ mvP k r)
  | [], acc, j, h, hj => by
    refine Ev.succ ?_
    simp only [s_f120_l1]
    exact Ev.f (cj_f (drop_n h)) ((Ev.mk _).congr (by simp [mvP]))
  | x :: r, acc, j, h, hj => by
    obtain ⟨h1, h2, h3⟩ := drop_c h
    refine Ev.succ ?_
    simp only [s_f120_l1]
    refine Ev.t (cj_t h1) (Ev.bindc h2 ?_)
    have h4 := e120l p k hp r (acc ++ [mvI k x]) (j + 1) h3 (by simp [hj])
    have h5 : Ev (fun n => s_f120_l1 n p k (acc ++ [mvI k x]) (j + 1)) (acc ++ mvP k (x :: r)) := Ev.congr h4 (by simp [mvP])
    cases hc : isJ x with
    | true =>
      simp only [mvI, hc, cond_true] at h5
      exact Ev.t hc (Ev.g (by omega) h5)
    | false =>
      simp only [mvI, hc, cond_false] at h5
      exact Ev.f hc (Ev.g (by omega) h5)
theorem e120 (p : List GInst) (k : Int) (hp : p.length ≤ 1000000) : Ev (fun n => s_f120 n p k) (mvP k p) := by
  unfold s_f120
  have := e120l p k hp p [] 0 rfl rfl
  simpa using this
theorem e89 (p q : List GInst) (h : p.length + q.length ≤ 1000000) : Ev (fun n => s_f89 n p q) (joinP p q) := by
  unfold s_f89
  exact Ev.g (by omega) (Ev.bind (e120 q _ (by omega)) (Ev.g (by rw [mvP_length]; omega) (Ev.mk _)))
abbrev jfI (k : Int) : GInst := ⟨⟨#[106, 102]⟩, zeroV, k⟩
abbrev jmpI (k : Int) : GInst := ⟨⟨#[106, 109, 112]⟩, zeroV, k⟩
def chooseP (a b c : List GInst) : List GInst := joinP (joinP (a ++ [jfI ((a.length + 1 + b.length + 1 : Nat) : Int)]) b ++ [jmpI ((a.length + 1 + b.length + 1 + c.length : Nat) : Int)]) c
theorem chooseP_length (a b c : List GInst) : (chooseP a b c).length = a.length + 1 + b.length + 1 + c.length := by simp [chooseP, joinP_length]
theorem e87 (a b c : List GInst) (h : a.length + 1 + b.length + 1 + c.length ≤ 1000000) : Ev (fun n => s_f87 n a b c) (chooseP a b c) := by
  unfold s_f87
  have w1 : IntKind.i64.wrap ((a.length : Int) + 1) = ((a.length + 1 : Nat) : Int) := by rw [wrap64 (by omega) (by omega)]; omega
  have w2 : IntKind.i64.wrap (((a.length + 1 : Nat) : Int) + (b.length : Int)) = ((a.length + 1 + b.length : Nat) : Int) := by rw [wrap64 (by omega) (by omega)]; omega
  have w3 : IntKind.i64.wrap (((a.length + 1 + b.length : Nat) : Int) + 1) = ((a.length + 1 + b.length + 1 : Nat) : Int) := by rw [wrap64 (by omega) (by omega)]; omega
  have w4 : IntKind.i64.wrap (((a.length + 1 + b.length + 1 : Nat) : Int) + (c.length : Int)) = ((a.length + 1 + b.length + 1 + c.length : Nat) : Int) := by rw [wrap64 (by omega) (by omega)]; omega
  simp only [w1, w2, w3, w4]
  refine Ev.g (by omega) (Ev.g (by omega) (Ev.bind (e89 _ b (by simp; omega)) (Ev.g (by simp [joinP_length]; omega) (Ev.bind (e89 _ c (by simp [joinP_length]; omega)) (Ev.mk _)))))

/-! ### the program of an expression -/
abbrev pushI (v : Val) : GInst := ⟨⟨#[112, 117, 115, 104]⟩, v, 0⟩
def opI (o : ByteArray) (m : Int) (k : Nat) : GInst :=
  bif o.data.toList == [97, 116] then ⟨⟨#[97, 116]⟩, zeroV, m⟩ else bif o.data.toList == [116, 117, 112] then ⟨⟨#[116, 117, 112]⟩, zeroV, (k : Int)⟩ else ⟨o, zeroV, 0⟩
def genO (o : ByteArray) (v : Val) (m : Int) (k : Nat) (ps : List (List GInst)) : List GInst :=
  bif o.data.toList == [108, 105, 116] then [pushI v]
  else bif o.data.toList == [120] then [⟨⟨#[120]⟩, zeroV, 0⟩]
  else bif o.data.toList == [97, 110, 100] then chooseP (ps.getD 0 []) (ps.getD 1 []) [pushI (.mk 2 0 false ⟨#[]⟩ [])]
  else bif o.data.toList == [111, 114] then chooseP (ps.getD 0 []) [pushI (.mk 2 0 true ⟨#[]⟩ [])] (ps.getD 1 [])
  else bif o.data.toList == [105, 102] then chooseP (ps.getD 0 []) (ps.getD 1 []) (ps.getD 2 [])
  else ps.foldl joinP [] ++ [opI o m k]
mutual
def genE : Ex → List GInst
  | .mk o v m a => genO o v m a.length (genEs a)
def genEs : List Ex → List (List GInst)
  | [] => []
  | e :: r => genE e :: genEs r
end
theorem genEs_get : ∀ {l : List Ex} {j : Nat} {e : Ex}, l[j]? = some e → (genEs l).getD j [] = genE e
  | [], j, e, h => by simp at h
  | x :: r, 0, e, h => by simp at h; subst h; simp [genEs]
  | x :: r, j + 1, e, h => by
    simp only [List.getElem?_cons_succ] at h
    have := genEs_get h
    simpa [genEs] using this
def lenL : List (List GInst) → Nat
  | [] => 0
  | g :: r => g.length + lenL r
theorem foldl_length : ∀ (gs : List (List GInst)) (acc : List GInst), (gs.foldl joinP acc).length = acc.length + lenL gs
  | [], acc => by simp [lenL]
  | g :: r, acc => by
    simp only [List.foldl_cons, foldl_length r, joinP_length, lenL]
    omega
def ArN (o : List UInt8) (k : Nat) : Prop := arS o ≠ -2 ∧ (0 ≤ arS o → (k : Int) = arS o) ∧ (arS o < 0 → 1 ≤ k)
mutual
def WfE : Ex → Prop
  | .mk o v m a => ArN o.data.toList a.length ∧ WfEs a
def WfEs : List Ex → Prop
  | [] => True
  | e :: r => WfE e ∧ WfEs r
end
def Gens : List Ex → Prop
  | [] => True
  | e :: r => ((genE e).length ≤ 1000000 → Ev (fun n => s_f52 n e) (genE e)) ∧ Gens r
theorem Gens.get : ∀ {l : List Ex} {j : Nat} {e : Ex}, Gens l → l[j]? = some e → (genE e).length ≤ 1000000 → Ev (fun n => s_f52 n e) (genE e)
  | [], j, e, _, h => by simp at h
  | x :: r, 0, e, hg, h => by simp at h; subst h; exact hg.1
  | x :: r, j + 1, e, hg, h => by
    simp only [List.getElem?_cons_succ] at h
    exact Gens.get hg.2 h
theorem e52l (o : ByteArray) (v : Val) (m : Int) (a : List Ex) (ha : a.length ≤ 1000000) : ∀ (r : List Ex) (acc : List GInst) (j : Nat), a.drop j = r → Gens r → acc.length + lenL (genEs r) + 1 ≤ 1000000 → Ev (fun n => s_f52_l1 n (.mk o v m a) acc j) ((genEs r).foldl joinP acc ++ [opI o m a.length])
  | [], acc, j, h, hg, hl => by
    refine Ev.succ ?_
    simp only [s_f52_l1, Ex.op, Ex.a, Ex.n, genEs, List.foldl_nil, opI]
    simp only [genEs, lenL] at hl
    refine Ev.f (cj_f (drop_n h)) ?_
    cases o.data.toList == [97, 116] with
    | true => exact Ev.t rfl (Ev.g (by omega) (Ev.mk _))
    | false =>
      refine Ev.f rfl ?_
      cases o.data.toList == [116, 117, 112] with
      | true => exact Ev.t rfl (Ev.g (by omega) (Ev.mk _))
      | false => exact Ev.f rfl (Ev.g (by omega) (Ev.mk _))
  | x :: r, acc, j, h, hg, hl => by
    obtain ⟨h1, h2, h3⟩ := drop_c h
    simp only [genEs, lenL] at hl
    refine Ev.succ ?_
    simp only [s_f52_l1, Ex.a, genEs, List.foldl_cons]
    exact Ev.t (cj_t h1) (Ev.bindc h2 (Ev.bind (hg.1 (by omega)) (Ev.bind (e89 _ _ (by omega)) (e52l o v m a ha r _ (j + 1) h3 hg.2 (by rw [joinP_length]; omega)))))
theorem ArN.eq {o : List UInt8} {k : Nat} (h : ArN o k) {c : Nat} (hc : arS o = (c : Int)) : k = c := by have := h.2.1 (by omega); omega
theorem get_lt {α : Type} {l : List α} {j : Nat} (h : j < l.length) : ∃ e, l[j]? = some e := ⟨_, List.getElem?_eq_getElem h⟩
theorem e52a (o : ByteArray) (v : Val) (m : Int) (a : List Ex) (h : ArN o.data.toList a.length) (ha : a.length ≤ 1000000) (hg : Gens a) (hl : (genE (.mk o v m a)).length ≤ 1000000) : Ev (fun n => s_f52 n (.mk o v m a)) (genE (.mk o v m a)) := by
  refine Ev.succ ?_
  simp only [genE, genO] at hl ⊢
  simp only [s_f52, Ex.op, Ex.v, Ex.a, Ex.n]
  cases c1 : o.data.toList == [108, 105, 116] with
  | true => exact Ev.t rfl (Ev.mk _)
  | false =>
    rw [c1] at hl
    simp only [cond_false] at hl ⊢
    cases c2 : o.data.toList == [120] with
    | true => exact Ev.t rfl (Ev.mk _)
    | false =>
      rw [c2] at hl
      simp only [cond_false] at hl ⊢
      cases c3 : o.data.toList == [97, 110, 100] with
      | true =>
        rw [c3] at hl
        simp only [cond_true, chooseP_length, List.length_cons, List.length_nil] at hl ⊢
        have hk := h.eq (c := 2) (by rw [eq_of_beq c3]; rfl)
        obtain ⟨x, hx⟩ := get_lt (l := a) (j := 0) (by omega)
        obtain ⟨y, hy⟩ := get_lt (l := a) (j := 1) (by omega)
        rw [genEs_get hx, genEs_get hy] at hl ⊢
        exact Ev.bindc hx (Ev.bind (hg.get hx (by omega)) (Ev.bindc hy (Ev.bind (hg.get hy (by omega)) (Ev.bind (e87 _ _ _ (by simp; omega)) (Ev.mk _)))))
      | false =>
        rw [c3] at hl
        simp only [cond_false] at hl ⊢
        cases c4 : o.data.toList == [111, 114] with
        | true =>
          rw [c4] at hl
          simp only [cond_true, chooseP_length, List.length_cons, List.length_nil] at hl ⊢
          have hk := h.eq (c := 2) (by rw [eq_of_beq c4]; rfl)
          obtain ⟨x, hx⟩ := get_lt (l := a) (j := 0) (by omega)
          obtain ⟨y, hy⟩ := get_lt (l := a) (j := 1) (by omega)
          rw [genEs_get hx, genEs_get hy] at hl ⊢
          exact Ev.bindc hx (Ev.bind (hg.get hx (by omega)) (Ev.bindc hy (Ev.bind (hg.get hy (by omega)) (Ev.bind (e87 _ _ _ (by simp; omega)) (Ev.mk _)))))
        | false =>
          rw [c4] at hl
          simp only [cond_false] at hl ⊢
          cases c5 : o.data.toList == [105, 102] with
          | true =>
            rw [c5] at hl
            simp only [cond_true, chooseP_length] at hl ⊢
            have hk := h.eq (c := 3) (by rw [eq_of_beq c5]; rfl)
            obtain ⟨x, hx⟩ := get_lt (l := a) (j := 0) (by omega)
            obtain ⟨y, hy⟩ := get_lt (l := a) (j := 1) (by omega)
            obtain ⟨z, hz⟩ := get_lt (l := a) (j := 2) (by omega)
            rw [genEs_get hx, genEs_get hy, genEs_get hz] at hl ⊢
            exact Ev.bindc hx (Ev.bind (hg.get hx (by omega)) (Ev.bindc hy (Ev.bind (hg.get hy (by omega)) (Ev.bindc hz (Ev.bind (hg.get hz (by omega)) (Ev.bind (e87 _ _ _ (by omega)) (Ev.mk _)))))))
          | false =>
            rw [c5] at hl
            simp only [cond_false, List.length_append, foldl_length, List.length_cons, List.length_nil] at hl ⊢
            exact e52l o v m a ha a [] 0 rfl hg (by simp; omega)
theorem chooseP_pos (a b c : List GInst) : 1 ≤ (chooseP a b c).length := by rw [chooseP_length]; omega
theorem genE_pos : ∀ e : Ex, 1 ≤ (genE e).length
  | .mk o v m a => by
    simp only [genE, genO]
    cases o.data.toList == [108, 105, 116] <;> cases o.data.toList == [120] <;> cases o.data.toList == [97, 110, 100] <;> cases o.data.toList == [111, 114] <;> cases o.data.toList == [105, 102] <;> simp only [cond_true, cond_false, List.length_cons, List.length_nil, List.length_append] <;> first | omega | exact chooseP_pos _ _ _
theorem lenL_ge : ∀ l : List Ex, l.length ≤ lenL (genEs l)
  | [] => Nat.zero_le _
  | e :: r => by
    have := genE_pos e
    have := lenL_ge r
    simp only [List.length_cons, genEs, lenL]
    omega
theorem ArN.le {o : List UInt8} {k : Nat} (h : ArN o k) (hn : arS o ≠ -1) : k ≤ 3 := by
  have h1 : arS o ≤ 3 ∧ (0 ≤ arS o ∨ arS o = -1 ∨ arS o = -2) := by
    rcases arS_cases h.1 with e | e | e | e | e | e | e | e | e | e | e | e | e | e | e | e | e | e <;> (subst e; decide)
  rcases h1.2 with h2 | h2 | h2
  · have := h.2.1 h2; omega
  · exact absurd h2 hn
  · exact absurd h2 h.1
mutual
theorem e52 : ∀ e : Ex, WfE e → (genE e).length ≤ 1000000 → Ev (fun n => s_f52 n e) (genE e)
  | .mk o v m a, h, hl => by
    refine e52a o v m a h.1 ?_ (e52s a h.2) hl
    by_cases hn : arS o.data.toList = -1
    · have ht : o.data.toList = [116, 117, 112] := by
        rcases arS_cases h.1.1 with e | e | e | e | e | e | e | e | e | e | e | e | e | e | e | e | e | e <;> first | exact e | (rw [e] at hn; exact absurd hn (by decide))
      simp only [genE, genO, ht] at hl
      have := lenL_ge a
      simp [foldl_length] at hl
      omega
    · have := h.1.le hn
      omega
theorem e52s : ∀ l : List Ex, WfEs l → Gens l
  | [], _ => trivial
  | e :: r, h => ⟨e52 e h.1, e52s r h.2⟩
end
end Go.Proofs.YtbcjcekoonebiaaGreat.Tl

set_option linter.unusedVariables false
set_option linter.unusedSimpArgs false
namespace Go.Proofs.YtbcjcekoonebiaaGreat.Tl
open Go Go.RowKit
mutual
def BdT : Ty → Prop
  | .mk k l => l.length ≤ 1000 ∧ BdTs l
def BdTs : List Ty → Prop
  | [] => True
  | x :: r => BdT x ∧ BdTs r
end
mutual
theorem e112 : ∀ v : Ty, BdT v → Ev (fun n => s_f112 n v) v
  | .mk k t, h => by
    refine Ev.succ ?_
    simp only [s_f112]
    exact e112s t k t 0 [] rfl rfl h.1 h.2
theorem e112s : ∀ (r : List Ty) (k : Int) (t : List Ty) (j : Nat) (acc : List Ty), acc ++ r = t → acc.length = j → t.length ≤ 1000 → BdTs r → Ev (fun n => s_f112_l1 n (.mk k t) j acc) (.mk k t)
  | [], k, t, j, acc, h, hj, hl, hb => by
    refine Ev.succ ?_
    subst hj
    simp only [List.append_nil] at h
    subst h
    simp only [s_f112_l1, Ty.kind, Ty.of]
    exact Ev.f (cj_f (Nat.le_refl _)) (Ev.mk _)
  | x :: r, k, t, j, acc, h, hj, hl, hb => by
    refine Ev.succ ?_
    have hx : t[j]? = some x := by subst h hj; simp
    have hlt : j < t.length := (List.getElem?_eq_some_iff.1 hx).1
    simp only [s_f112_l1, Ty.of]
    exact Ev.t (cj_t hlt) (Ev.bindc hx (Ev.bind (e112 x hb.1) (Ev.g (by omega) (e112s r k t (j + 1) (acc ++ [x]) (by simp [h]) (by simp [hj]) hl hb.2))))
end
theorem GOp.eta (o : GOp) : GOp.mk o.f0 o.f1 o.f2 o.f3 o.f4 o.f5 o.f6 = o := by cases o; rfl
structure BdO (o : GOp) : Prop where
  ty : BdT o.f2
  key : BdE o.f4
  len : o.f3.length ≤ 1000
  es : BdEs o.f3
theorem e76l (o : GOp) (hl : o.f3.length ≤ 1000) : ∀ (r acc : List Ex) (j : Nat), acc ++ r = o.f3 → acc.length = j → BdEs r → Ev (fun n => s_f76_l1 n o o.f2 o.f4 j acc) o
  | [], acc, j, h, hj, hb => by
    refine Ev.succ ?_
    subst hj
    simp only [List.append_nil] at h
    subst h
    simp only [s_f76_l1]
    exact Ev.f (cj_f (Nat.le_refl _)) ((Ev.mk _).congr (GOp.eta o))
  | x :: r, acc, j, h, hj, hb => by
    refine Ev.succ ?_
    have hx : o.f3[j]? = some x := by rw [← h]; subst hj; simp
    have hlt : j < o.f3.length := (List.getElem?_eq_some_iff.1 hx).1
    simp only [s_f76_l1]
    exact Ev.t (cj_t hlt) (Ev.bindc hx (Ev.bind (e19 x hb.1) (Ev.g (by omega) (e76l o hl r (acc ++ [x]) (j + 1) (by simp [h]) (by simp [hj]) hb.2))))
theorem e76 (o : GOp) (h : BdO o) : Ev (fun n => s_f76 n o) o := by
  unfold s_f76
  exact Ev.bind (e112 _ h.ty) (Ev.bind (e19 _ h.key) (e76l o h.len o.f3 [] 0 rfl rfl h.es))

abbrev emI (k : Int) : GInst := ⟨⟨#[101, 109, 105, 116]⟩, zeroV, k⟩
abbrev rtI : GInst := ⟨⟨#[114, 101, 116]⟩, zeroV, 0⟩
abbrev xI : GInst := ⟨⟨#[120]⟩, zeroV, 0⟩
def genOp (o : GOp) : List GInst :=
  bif o.f0 == 2 || o.f0 == 5 then (genEs o.f3).getD 0 [] ++ [emI 1, rtI]
  else bif o.f0 == 3 then ((genEs o.f3).getD 0 [] ++ [jfI ((((genEs o.f3).getD 0 []).length + 3 : Nat) : Int), xI]) ++ [emI 1, rtI]
  else bif o.f0 == 4 then (genEs o.f3).foldl joinP [] ++ [emI (o.f3.length : Int), rtI]
  else [xI, emI 1, rtI]
theorem e75l (o : GOp) : ∀ (r : List Ex) (acc : List GInst) (j : Nat), o.f3.drop j = r → Gens r → acc.length + lenL (genEs r) + 2 ≤ 1000000 → Ev (fun n => s_f75_l1 n o acc j) ((genEs r).foldl joinP acc ++ [emI (o.f3.length : Int), rtI])
  | [], acc, j, h, hg, hl => by
    refine Ev.succ ?_
    simp only [genEs, lenL] at hl
    simp only [s_f75_l1, genEs, List.foldl_nil]
    exact Ev.f (cj_f (drop_n h)) (Ev.g (by omega) (Ev.mk _))
  | x :: r, acc, j, h, hg, hl => by
    obtain ⟨h1, h2, h3⟩ := drop_c h
    simp only [genEs, lenL] at hl
    refine Ev.succ ?_
    simp only [s_f75_l1, genEs, List.foldl_cons]
    exact Ev.t (cj_t h1) (Ev.bindc h2 (Ev.bind (hg.1 (by omega)) (Ev.bind (e89 _ _ (by omega)) (e75l o r _ (j + 1) h3 hg.2 (by rw [joinP_length]; omega)))))
theorem e75 (o : GOp) (hw : WfEs o.f3) (hn : o.f0 = 2 ∨ o.f0 = 5 ∨ o.f0 = 3 → 0 < o.f3.length) (hl : (genOp o).length ≤ 1000000) : Ev (fun n => s_f75 n o) (genOp o) := by
  have hg := e52s o.f3 hw
  unfold s_f75
  unfold genOp at hl ⊢
  cases c1 : o.f0 == 2 with
  | true =>
    obtain ⟨x, hx⟩ := get_lt (hn (.inl (eq_of_beq c1)))
    rw [c1, Bool.true_or, cond_true, genEs_get hx] at hl
    simp only [Bool.true_or, cond_true]
    rw [genEs_get hx]
    simp only [List.length_append, List.length_cons, List.length_nil] at hl
    exact Ev.bindc hx (Ev.bind (hg.get hx (by omega)) (Ev.g (by omega) (Ev.mk _)))
  | false =>
    simp only [c1, Bool.false_or] at hl ⊢
    refine Ev.f rfl ?_
    cases c2 : o.f0 == 5 with
    | true =>
      obtain ⟨x, hx⟩ := get_lt (hn (.inr (.inl (eq_of_beq c2))))
      rw [c2, cond_true, genEs_get hx] at hl
      simp only [cond_true]
      rw [genEs_get hx]
      simp only [List.length_append, List.length_cons, List.length_nil] at hl
      exact Ev.bindc hx (Ev.bind (hg.get hx (by omega)) (Ev.g (by omega) (Ev.mk _)))
    | false =>
      simp only [c2, cond_false] at hl ⊢
      cases c3 : o.f0 == 3 with
      | true =>
        obtain ⟨x, hx⟩ := get_lt (hn (.inr (.inr (eq_of_beq c3))))
        rw [c3, cond_true, genEs_get hx] at hl
        simp only [cond_true]
        rw [genEs_get hx]
        simp only [List.length_append, List.length_cons, List.length_nil] at hl
        have w : IntKind.i64.wrap (((genE x).length : Int) + 3) = (((genE x).length + 3 : Nat) : Int) := by rw [wrap64 (by omega) (by omega)]; omega
        refine Ev.bindc hx (Ev.bind (hg.get hx (by omega)) (Ev.g (by omega) (Ev.g (by simp; omega) ?_)))
        rw [w]
        exact Ev.mk _
      | false =>
        simp only [c3, cond_false] at hl ⊢
        cases c4 : o.f0 == 4 with
        | true =>
          rw [c4, cond_true] at hl
          simp only [List.length_append, foldl_length, List.length_cons, List.length_nil] at hl
          exact Ev.t rfl (e75l o o.f3 [] 0 rfl hg (by simp; omega))
        | false => exact Ev.f rfl (Ev.g (by decide) (Ev.mk _))
end Go.Proofs.YtbcjcekoonebiaaGreat.Tl

set_option linter.unusedVariables false
set_option linter.unusedSimpArgs false
namespace Go.Proofs.YtbcjcekoonebiaaGreat.Tl
open Go Go.RowKit
theorem W64_shift (x k : Int) : W64 (x + 18446744073709551616 * k) = W64 x := by
  simp only [W64, IntKind.wrap_i64]; omega
theorem W64_ex (x : Int) : ∃ k, W64 x = x + 18446744073709551616 * k := by
  refine ⟨-((x + 9223372036854775808) / 18446744073709551616), ?_⟩
  simp only [W64, IntKind.wrap_i64]; omega
theorem W64_add_left (x y : Int) : W64 (W64 x + y) = W64 (x + y) := by
  obtain ⟨k, hk⟩ := W64_ex x
  rw [hk, show x + 18446744073709551616 * k + y = x + y + 18446744073709551616 * k by omega, W64_shift]
end Go.Proofs.YtbcjcekoonebiaaGreat.Tl

set_option linter.unusedVariables false
set_option linter.unusedSimpArgs false
namespace Go.Proofs.YtbcjcekoonebiaaGreat.Tl
open Go Go.RowKit
/-! ### where a program stands -/
def At (p : List GInst) (j : Nat) (q : List GInst) : Prop := j + q.length ≤ p.length ∧ ∀ (k : Nat) (i : GInst), q[k]? = some i → p[j + k]? = some (mvI (j : Int) i)
theorem isJ_mv (k : Int) (i : GInst) : isJ (mvI k i) = isJ i := by
  unfold mvI
  cases h : isJ i with
  | true => exact h
  | false => exact h
theorem mvI_mv (j k : Int) (i : GInst) : mvI j (mvI k i) = mvI (j + k) i := by
  cases h : isJ i with
  | true =>
    have e : mvI k i = GInst.mk i.f0 i.f1 (IntKind.i64.wrap (i.f2 + k)) := by simp [mvI, h]
    have e2 : isJ (mvI k i) = true := (isJ_mv k i).trans h
    rw [mvI, e2, cond_true, e, mvI, h, cond_true]
    simp only
    have := W64_add_left (i.f2 + k) j
    simp only [W64] at this
    rw [this, show i.f2 + k + j = i.f2 + (j + k) by omega]
  | false =>
    have e : mvI k i = i := by simp [mvI, h]
    rw [e, mvI, h, mvI, h]
    rfl
theorem At.left {p : List GInst} {j : Nat} {a b : List GInst} (h : At p j (a ++ b)) : At p j a := by
  refine ⟨by have := h.1; simp at this; omega, fun k i hk => h.2 k i ?_⟩
  have hlt : k < a.length := (List.getElem?_eq_some_iff.1 hk).1
  rw [List.getElem?_append_left hlt]
  exact hk
theorem At.mid {p : List GInst} {j : Nat} {a : List GInst} {i : GInst} {b : List GInst} (h : At p j (a ++ i :: b)) : p[j + a.length]? = some (mvI (j : Int) i) := h.2 a.length i (by simp)
theorem At.join {p : List GInst} {j : Nat} {a b : List GInst} (h : At p j (joinP a b)) : At p j a ∧ At p (j + a.length) b := by
  refine ⟨h.left, by have := h.1; rw [joinP_length] at this; omega, fun k i hk => ?_⟩
  have hlt : k < b.length := (List.getElem?_eq_some_iff.1 hk).1
  have := h.2 (a.length + k) (mvI (a.length : Int) i) (by
    rw [joinP, List.getElem?_append_right (by omega), Nat.add_sub_cancel_left, mvP, List.getElem?_map, hk]
    rfl)
  rw [mvI_mv] at this
  rw [Nat.add_assoc, this]
  congr 2
theorem mv_jf {j f : Nat} (h : f + j ≤ 1000000) : mvI (j : Int) (jfI (f : Int)) = jfI ((j + f : Nat) : Int) := by
  have : isJ (jfI (f : Int)) = true := rfl
  rw [mvI, this, cond_true]
  simp only
  rw [wrap64 (by omega) (by omega)]
  congr 1
  omega
theorem mv_jmp {j f : Nat} (h : f + j ≤ 1000000) : mvI (j : Int) (jmpI (f : Int)) = jmpI ((j + f : Nat) : Int) := by
  have : isJ (jmpI (f : Int)) = true := rfl
  rw [mvI, this, cond_true]
  simp only
  rw [wrap64 (by omega) (by omega)]
  congr 1
  omega
def Ats (p : List GInst) : Nat → List (List GInst) → Prop
  | _, [] => True
  | j, g :: r => At p j g ∧ Ats p (j + g.length) r
theorem At.fold {p : List GInst} {j : Nat} : ∀ {gs : List (List GInst)} {acc : List GInst}, At p j (gs.foldl joinP acc) → At p j acc ∧ Ats p (j + acc.length) gs
  | [], acc, h => ⟨h, trivial⟩
  | g :: r, acc, h => by
    obtain ⟨h1, h2⟩ := At.fold (gs := r) h
    rw [joinP_length, ← Nat.add_assoc] at h2
    exact ⟨h1.join.1, h1.join.2, h2⟩

/-! ### runs -/
abbrev RunsTo (p : List GInst) (x : Val) (j : Nat) (st out : List Val) (R : List Val × Int) : Prop := ∀ v, Ev (RunF p x j st out v) R
def Goes (g : List GInst) (x w : Val) (h : Int) : Prop :=
  ∀ (p : List GInst) (j : Nat) (st out : List Val) (R : List Val × Int), At p j g → p.length ≤ 1000000 → out.length + st.length + g.length + 1 ≤ 1000000 →
    (h = 0 → RunsTo p x (j + g.length) (st ++ [w]) out R) → (h ≠ 0 → R = ([], h)) → RunsTo p x j st out R
def GoesL (gs : List (List GInst)) (x : Val) (ws : List Val) (h : Int) : Prop :=
  ∀ (p : List GInst) (j : Nat) (st out : List Val) (R : List Val × Int), Ats p j gs → p.length ≤ 1000000 → out.length + st.length + lenL gs + 1 ≤ 1000000 →
    (h = 0 → RunsTo p x (j + lenL gs) (st ++ ws) out R) → (h ≠ 0 → R = ([], h)) → RunsTo p x j st out R
theorem goes_push (v x : Val) : Goes [pushI v] x v 0 := fun p j st out R hA hp hs k1 k2 =>
  run_step (i := pushI v) (hA.2 0 _ rfl) rfl rfl rfl (show stepM (pushI v) x st out = some (st ++ [v], out, 0) from rfl) (by simp at hs; omega) (by simp at hs; omega) hp (k1 rfl)
theorem goes_x (x : Val) : Goes [⟨⟨#[120]⟩, zeroV, 0⟩] x x 0 := fun p j st out R hA hp hs k1 k2 =>
  run_step (i := ⟨⟨#[120]⟩, zeroV, 0⟩) (hA.2 0 _ rfl) rfl rfl rfl (show stepM ⟨⟨#[120]⟩, zeroV, 0⟩ x st out = some (st ++ [x], out, 0) from rfl) (by simp at hs; omega) (by simp at hs; omega) hp (k1 rfl)
theorem goes_choose {a b c : List GInst} {x w0 w : Val} {h0 h : Int} (ha : Goes a x w0 h0) (hb : h0 = 0 → w0.b = true → Goes b x w h) (hc : h0 = 0 → w0.b = false → Goes c x w h) (he : h0 ≠ 0 → h = h0) : Goes (chooseP a b c) x w h := by
  intro p j st out R hA hp hs k1 k2
  rw [chooseP_length] at hs k1
  have hlen := hA.1
  rw [chooseP_length] at hlen
  obtain ⟨g1, gC⟩ := hA.join
  have gj := g1.mid
  obtain ⟨g2, gB⟩ := g1.left.join
  have gf := g2.mid
  have gA := g2.left
  simp only [joinP_length, List.length_append, List.length_cons, List.length_nil] at gC gj gB
  rw [mv_jf (by omega)] at gf
  rw [mv_jmp (by omega)] at gj
  refine ha p j st out R gA hp (by omega) (fun hz => ?_) (fun hne => ?_)
  · refine run_jf (k := j + (a.length + 1 + b.length + 1)) gf rfl rfl (by omega) hp (by omega) ?_
    cases hw : w0.b with
    | true =>
      refine hb hz hw p (j + a.length + 1) st out R gB hp (by omega) (fun hz2 => ?_) k2
      refine run_jmp (k := j + (a.length + 1 + b.length + 1 + c.length)) (by rw [← gj]; congr 1; omega) rfl rfl (by omega) (k1 hz2)
    | false =>
      refine hc hz hw p (j + (a.length + 1 + b.length + 1)) st out R ?_ hp (by omega) (fun hz2 => ?_) k2
      · have e : j + (a.length + (0 + 1) + b.length + (0 + 1)) = j + (a.length + 1 + b.length + 1) := by omega
        rw [e] at gC
        exact gC
      · have := k1 hz2
        rw [show j + (a.length + 1 + b.length + 1 + c.length) = j + (a.length + 1 + b.length + 1) + c.length by omega] at this
        exact this
  · have := he hne
    rw [← this]
    exact k2 (by rw [this]; exact hne)
theorem goes_nil (x : Val) : GoesL [] x [] 0 := fun p j st out R hA hp hs k1 k2 => by
  have := k1 rfl
  simpa [lenL] using this
theorem goes_cons {g : List GInst} {gs : List (List GInst)} {x w : Val} {ws : List Val} {h h' : Int} (hg : 1 ≤ g.length) (h1 : Goes g x w h) (h2 : h = 0 → GoesL gs x ws h') : GoesL (g :: gs) x (bif h == 0 then w :: ws else []) (bif h == 0 then h' else h) := by
  intro p j st out R hA hp hs k1 k2
  simp only [lenL] at hs k1
  refine h1 p j st out R hA.1 hp (by omega) (fun hz => ?_) (fun hne => ?_)
  · subst hz
    refine h2 rfl p (j + g.length) (st ++ [w]) out R hA.2 hp (by simp; omega) (fun hz2 => ?_) (fun hne => k2 hne)
    have := k1 hz2
    simp only [beq_self_eq_true, cond_true] at this
    rw [List.append_assoc]
    rw [Nat.add_assoc]
    exact this
  · rw [show (h == 0) = false from beq_false_of_ne hne] at k2
    exact k2 hne

/-! ### what is at the end -/
theorem ba_eq {o : ByteArray} {l : List UInt8} (h : o.data.toList = l) : o = ⟨⟨l⟩⟩ := by
  cases o with
  | mk d => cases d with
    | mk l' => simp at h; subst h; rfl
theorem opI_f0 (o : ByteArray) (m : Int) (k : Nat) : (opI o m k).f0 = o := by
  unfold opI
  cases h1 : o.data.toList == [97, 116] with
  | true => exact (ba_eq (eq_of_beq h1)).symm
  | false =>
    cases h2 : o.data.toList == [116, 117, 112] with
    | true => exact (ba_eq (eq_of_beq h2)).symm
    | false => rfl
theorem drop_st (st ws : List Val) : (st ++ ws).drop ((st ++ ws).length - ws.length) = ws := by
  rw [List.length_append, Nat.add_sub_cancel]; simp
theorem take_st (st ws : List Val) : (st ++ ws).take ((st ++ ws).length - ws.length) = st := by
  rw [List.length_append, Nat.add_sub_cancel]; simp
theorem step_op {o : ByteArray} {m : Int} {ws : List Val} {w : Val} {h : Int} (har : ArN o.data.toList ws.length) (h1 : o.data.toList ≠ [108, 105, 116]) (h2 : o.data.toList ≠ [120]) (h3 : o.data.toList ≠ [97, 110, 100]) (h4 : o.data.toList ≠ [111, 114]) (h5 : o.data.toList ≠ [105, 102])
    (ha : applyS o m ws = some (w, h)) (x : Val) (st out : List Val) (hw : ws.length ≤ 1000000) : stepM (opI o m ws.length) x (st ++ ws) out = some (bif h == 0 then st ++ [w] else st, out, h) := by
  have hone : ∀ v : Val, ws = [v] → (o.data.toList = [110, 101, 103] ∨ o.data.toList = [110, 111, 116] ∨ o.data.toList = [108, 101, 110]) → oneS o v = some w → h = 0 → stepM ⟨o, zeroV, 0⟩ x (st ++ ws) out = some (bif h == 0 then st ++ [w] else st, out, h) := by
    rintro v rfl ho h6 rfl
    have d := drop_st st [v]
    have t := take_st st [v]
    simp only [List.length_cons, List.length_nil] at d t
    have h7 : one3 o v = some (w, true) := by simp [one3, h6]
    have hl : 1 ≤ (st ++ [v]).length := by simp
    unfold stepM
    rcases ho with ho | ho | ho <;> (simp only [ho]; simp [hl, h7])
  have htwo : ∀ u v : Val, ws = [u, v] → arS o.data.toList = 2 → bothS o u v = some (w, h) → stepM ⟨o, zeroV, 0⟩ x (st ++ ws) out = some (bif h == 0 then st ++ [w] else st, out, h) := by
    rintro u v rfl ho h6
    have d := drop_st st [u, v]
    have t := take_st st [u, v]
    simp only [List.length_cons, List.length_nil] at d t
    have h7 : both3 o u v = some (w, h, true) := by simp [both3, h6]
    have hl : 2 ≤ (st ++ [u, v]).length := by simp
    have hc : ∀ l : List UInt8, arS l ≠ 2 → (o.data.toList == l) = false := fun l hl => beq_false_of_ne fun e => hl (e ▸ ho)
    unfold stepM
    simp only [hc [112, 117, 115, 104] (by decide), hc [120] (by decide), hc [97, 116] (by decide), hc [116, 117, 112] (by decide), hc [101, 109, 105, 116] (by decide), hc [110, 101, 103] (by decide), hc [110, 111, 116] (by decide), hc [108, 101, 110] (by decide), cond_false]
    rw [if_pos hl, d, t]
    simp only [List.getElem?_cons_zero, List.getElem?_cons_succ, Option.bind_some, h7]
    by_cases hz : h = 0
    · subst hz; rfl
    · rw [show (h != 0) = true by simpa using hz, show (h == 0) = false from beq_false_of_ne hz]; rfl
  by_cases c1 : o.data.toList = [97, 116]
  · obtain rfl := ba_eq c1
    obtain ⟨v, t, w', rfl, hm, hw', hr⟩ := applyS_at ha rfl
    have hk := har.eq (c := 1) rfl
    obtain rfl : t = [] := by cases t <;> simp at hk ⊢
    simp only [Prod.mk.injEq] at hr
    obtain ⟨rfl, rfl⟩ := hr
    have d := drop_st st [v]
    have t := take_st st [v]
    simp only [List.length_cons, List.length_nil] at d t
    show (if 1 ≤ (st ++ [v]).length then (((st ++ [v]).drop ((st ++ [v]).length - 1))[0]?).bind fun y => (if 0 ≤ m then (y.t[m.toNat]?).bind fun z => some ((st ++ [v]).take ((st ++ [v]).length - 1) ++ [z], out, (0 : Int)) else none) else none) = _
    rw [if_pos (by simp), d, t]
    simp only [List.getElem?_cons_zero, Option.bind_some, if_pos hm, hw']
    rfl
  · by_cases c2 : o.data.toList = [116, 117, 112]
    · obtain rfl := ba_eq c2
      obtain ⟨v, t, rfl, hl, hr⟩ := applyS_tup ha (by decide) rfl
      simp only [Prod.mk.injEq] at hr
      obtain ⟨rfl, rfl⟩ := hr
      have d := drop_st st (v :: t)
      have t' := take_st st (v :: t)
      show (if 0 ≤ (((v :: t).length : Nat) : Int) ∧ (((v :: t).length : Nat) : Int).toNat ≤ (st ++ v :: t).length then (tupS ((st ++ v :: t).drop ((st ++ v :: t).length - (((v :: t).length : Nat) : Int).toNat))).bind fun q => some ((st ++ v :: t).take ((st ++ v :: t).length - (((v :: t).length : Nat) : Int).toNat) ++ [q], out, (0 : Int)) else none) = _
      rw [Int.toNat_natCast, if_pos ⟨by omega, by simp⟩, d, t']
      simp only [tupS, if_pos hl, Option.bind_some]
      rfl
    · have e : opI o m ws.length = ⟨o, zeroV, 0⟩ := by
        unfold opI
        rw [beq_false_of_ne c1, beq_false_of_ne c2]
        rfl
      rw [e]
      have one : arS o.data.toList = 1 → (o.data.toList = [110, 101, 103] ∨ o.data.toList = [110, 111, 116] ∨ o.data.toList = [108, 101, 110]) → stepM ⟨o, zeroV, 0⟩ x (st ++ ws) out = some (bif h == 0 then st ++ [w] else st, out, h) := fun hr ho => by
        have hl := har.eq (c := 1) hr
        obtain ⟨v, w', q1, q2, q3⟩ := applyS_one ha c1 c2 hl
        simp only [Prod.mk.injEq] at q3
        obtain ⟨rfl, rfl⟩ := q3
        exact hone v q1 ho q2 rfl
      have two : arS o.data.toList = 2 → stepM ⟨o, zeroV, 0⟩ x (st ++ ws) out = some (bif h == 0 then st ++ [w] else st, out, h) := fun hr => by
        have hl := har.eq (c := 2) hr
        obtain ⟨v, w', t, q1, q2⟩ := applyS_two ha c1 c2 (by omega)
        have : t = [] := by rw [q1] at hl; simp at hl; exact hl
        subst this
        exact htwo v w' q1 hr q2
      rcases arS_cases har.1 with q | q | q | q | q | q | q | q | q | q | q | q | q | q | q | q | q | q
      · exact absurd q h1
      · exact absurd q h2
      · exact absurd q c1
      · exact one (by rw [q]; rfl) (.inl q)
      · exact one (by rw [q]; rfl) (.inr (.inl q))
      · exact one (by rw [q]; rfl) (.inr (.inr q))
      · exact two (by rw [q]; rfl)
      · exact two (by rw [q]; rfl)
      · exact two (by rw [q]; rfl)
      · exact two (by rw [q]; rfl)
      · exact two (by rw [q]; rfl)
      · exact two (by rw [q]; rfl)
      · exact two (by rw [q]; rfl)
      · exact absurd q h3
      · exact absurd q h4
      · exact two (by rw [q]; rfl)
      · exact absurd q h5
      · exact absurd q c2
theorem goes_eager {o : ByteArray} {m : Int} {gs : List (List GInst)} {ws : List Val} {w x : Val} {h g : Int} (h1 : o.data.toList ≠ [108, 105, 116]) (h2 : o.data.toList ≠ [120]) (h3 : o.data.toList ≠ [97, 110, 100]) (h4 : o.data.toList ≠ [111, 114]) (h5 : o.data.toList ≠ [105, 102])
    (har : arS o.data.toList ≠ -2) (hL : GoesL gs x ws g) (hg : g ≠ 0 → h = g) (hs : g = 0 → ArN o.data.toList ws.length ∧ applyS o m ws = some (w, h)) (k : Nat) (hk : g = 0 → ws.length = k ∧ k ≤ lenL gs) : Goes (gs.foldl joinP [] ++ [opI o m k]) x w h := by
  intro p j st out R hA hp hsz k1 k2
  have hlen := hA.1
  simp only [List.length_append, foldl_length, List.length_cons, List.length_nil, Nat.zero_add] at hsz k1 hlen
  have hop := hA.mid
  obtain ⟨_, hB⟩ := hA.left.fold
  simp only [List.length_nil, Nat.add_zero, foldl_length, Nat.zero_add] at hop hB
  have hJ : isJ (opI o m k) = false := by
    unfold isJ
    rw [opI_f0]
    rcases arS_cases har with q | q | q | q | q | q | q | q | q | q | q | q | q | q | q | q | q | q <;> (rw [q]; rfl)
  have hR : ((opI o m k).f0.data.toList == [114, 101, 116]) = false := by
    rw [opI_f0]
    rcases arS_cases har with q | q | q | q | q | q | q | q | q | q | q | q | q | q | q | q | q | q <;> (rw [q]; rfl)
  rw [mvI, hJ, cond_false] at hop
  unfold isJ at hJ
  have hJ := or_f hJ
  refine hL p j st out R hB hp (by omega) (fun hz => ?_) (fun hne => ?_)
  · obtain ⟨ha, hap⟩ := hs hz
    obtain ⟨hk1, hk2⟩ := hk hz
    subst hk1
    have hst := step_op ha h1 h2 h3 h4 h5 hap x st out (by omega)
    by_cases hz2 : h = 0
    · subst hz2
      refine run_step hop hR hJ.1 hJ.2 hst (by simp; omega) (by simp; omega) hp ?_
      have := k1 rfl
      rw [← Nat.add_assoc] at this
      exact this
    · rw [k2 hz2]
      exact run_err hop hR hJ.1 hJ.2 hst hz2 (by simp; omega) (by simp; omega)
  · have := hg hne
    rw [← this]
    exact k2 (by rw [this]; exact hne)

/-! ### expressions that may be -/
def GRes (e : Ex) (x : Val) (t : Ty) : Prop := ∃ w h, evalS e x = some (w, h) ∧ (h = 0 → OKv w t) ∧ Goes (genE e) x w h
def GRess : List Ex → Val → List Ty → Prop
  | [], _, [] => True
  | e :: r, x, t :: ts => GRes e x t ∧ GRess r x ts
  | _, _, _ => False
theorem GRess.len : ∀ {l : List Ex} {x : Val} {ts : List Ty}, GRess l x ts → l.length = ts.length
  | [], _, [], _ => rfl
  | [], _, _ :: _, h => by simp [GRess] at h
  | _ :: _, _, [], h => by simp [GRess] at h
  | _ :: _, _, _ :: _, h => by simp only [List.length_cons, GRess.len h.2]
theorem GRess.go : ∀ {l : List Ex} {x : Val} {ts : List Ty}, GRess l x ts → ∃ ws g, allS l x = some (ws, g) ∧ (g = 0 → OKvs ws ts) ∧ GoesL (genEs l) x ws g
  | [], x, [], _ => ⟨[], 0, rfl, fun _ => trivial, goes_nil x⟩
  | [], _, _ :: _, h => by simp [GRess] at h
  | _ :: _, _, [], h => by simp [GRess] at h
  | e :: r, x, t :: ts, h => by
    obtain ⟨⟨w, f, q1, q2, q3⟩, hr⟩ := h
    obtain ⟨ws, g, r1, r2, r3⟩ := hr.go
    have hG := goes_cons (genE_pos e) q3 (fun _ => r3)
    by_cases hf : f = 0
    · subst hf
      by_cases hg : g = 0
      · subst hg
        exact ⟨w :: ws, 0, by simp [allS, q1, r1], fun _ => ⟨q2 rfl, r2 rfl⟩, hG⟩
      · refine ⟨[], g, by simp [allS, q1, r1, hg], fun q => absurd q hg, ?_⟩
        intro p j st out R hA hp hs k1 k2
        exact hG p j st out R hA hp hs (fun q => absurd q hg) k2
    · refine ⟨[], f, by simp [allS, q1, hf], fun q => absurd q hf, ?_⟩
      rw [show (f == 0) = false from beq_false_of_ne hf] at hG
      exact hG
theorem arn_of {o : List UInt8} {k : Nat} (h : arS o ≠ -2) (hlen : (((decide (arS o ≥ 0)) && ((k : Int) != arS o)) || ((decide (arS o < 0)) && ((decide ((k : Int) < 1)) || (decide ((k : Int) > 8))))) = false) : ArN o k := by
  refine ⟨h, fun hc => ?_, fun hc => ?_⟩
  · simp only [decide_eq_true (show arS o ≥ 0 from hc), decide_eq_false (show ¬ arS o < 0 by omega), Bool.true_and, Bool.false_and, Bool.or_false] at hlen
    exact bne_f hlen
  · simp only [decide_eq_false (show ¬ arS o ≥ 0 by omega), decide_eq_true hc, Bool.true_and, Bool.false_and, Bool.false_or] at hlen
    have := of_decide_eq_false (or_f hlen).1
    omega
theorem okb {w : Val} {t : Ty} (h : OKv w t) (hk : t.kind = 2) : w = .mk 2 0 w.b ⟨#[]⟩ [] := by
  have ht := ok_plain h (by omega)
  rw [hk] at ht
  obtain ⟨h1, h2, _⟩ := h
  cases w with
  | mk k i b s l =>
    rw [ht] at h2
    simp only [tyV, Ty.mk.injEq] at h2
    obtain ⟨rfl, h3⟩ := h2
    have hl : l = [] := by cases l <;> simp [tyVs] at h3 ⊢
    subst hl
    obtain ⟨_, h4, _, _⟩ := h1
    simp at h4
    obtain ⟨hi, hs⟩ := h4
    subst hi
    have : s = ⟨#[]⟩ := by
      cases s with
      | mk d => simp at hs; subst hs; rfl
    subst this
    rfl
mutual
theorem gens : ∀ (e : Ex) (ty : Ty) (d : Int) (t : Ty) (x : Val), BdE e → OKv x ty → ckE e ty d = (t, 0) → WfE e ∧ GRes e x t
  | .mk o v m a, ty, d, t, x, hb, hx, h => by
    obtain ⟨w, f, s1, _, s3, _⟩ := sound (.mk o v m a) ty d t x hb hx h
    simp only [ckE] at h
    obtain ⟨c1, h⟩ := bif_zt h (by omega)
    obtain ⟨c2, h⟩ := bif_zt h (by omega)
    obtain ⟨c3, h⟩ := bif_zt h (by omega)
    obtain ⟨c4, h⟩ := bif_zt h (by omega)
    have har : arS o.data.toList ≠ -2 := by simpa using c1
    have harn := arn_of har c3
    by_cases h1 : o.data.toList = [108, 105, 116]
    · have ha0 : a = [] := List.eq_nil_of_length_eq_zero (harn.eq (c := 0) (by rw [h1]; rfl))
      subst ha0
      refine ⟨⟨harn, trivial⟩, w, f, s1, s3, ?_⟩
      simp only [evalS, h1, if_true, Option.some.injEq, Prod.mk.injEq] at s1
      obtain ⟨rfl, rfl⟩ := s1
      simp only [genE, genO, h1]
      exact goes_push _ _
    · rw [show (o.data.toList == [108, 105, 116]) = false from beq_false_of_ne h1] at h
      simp only [cond_false] at h
      by_cases h2 : o.data.toList = [120]
      · have ha0 : a = [] := List.eq_nil_of_length_eq_zero (harn.eq (c := 0) (by rw [h2]; rfl))
        subst ha0
        refine ⟨⟨harn, trivial⟩, w, f, s1, s3, ?_⟩
        simp only [evalS, h1, h2, if_true, if_false, Option.some.injEq, Prod.mk.injEq] at s1
        simp at s1
        obtain ⟨rfl, rfl⟩ := s1
        simp only [genE, genO, h2]
        exact goes_x _
      · rw [show (o.data.toList == [120]) = false from beq_false_of_ne h2] at h
        simp only [cond_false] at h
        by_cases hp : (ckEs a ty (d + 1)).2 = 0
        · rw [hp] at h
          simp only [bne_self_eq_false, cond_false] at h
          obtain ⟨hwf, hr⟩ := genss a ty (d + 1) x hb.2.2 hx hp
          have hts := ckEs_length a ty (d + 1) hp
          revert hr h hts
          generalize (ckEs a ty (d + 1)).1 = ts
          intro h hr hts
          refine ⟨⟨harn, hwf⟩, w, f, s1, s3, ?_⟩
          by_cases h3 : o.data.toList = [97, 110, 100]
          · have hk := harn.eq (c := 2) (by rw [h3]; rfl)
            rcases a with _ | ⟨e0, _ | ⟨e1, _ | ⟨e2, a⟩⟩⟩ <;> simp at hk
            rcases ts with _ | ⟨t0, _ | ⟨t1, _ | ⟨t2, ts⟩⟩⟩ <;> simp at hts
            obtain ⟨⟨w0, f0, q1, q2, q3⟩, ⟨w1, f1, r1, r2, r3⟩, _⟩ := hr
            rw [h3] at h
            obtain ⟨k1, k2, _⟩ := allK2 (show allK 2 [t0, t1] (.mk 2 []) = (t, 0) from h)
            simp only [genE, genO, h3]
            refine goes_choose q3 (fun hz hw => ?_) (fun hz hw => ?_) (fun hne => ?_)
            · subst hz
              simp [evalS, h3, isLazy, nthS, q1, chooseS, hw, r1] at s1
              obtain ⟨rfl, rfl⟩ := s1
              exact r3
            · subst hz
              simp [evalS, h3, isLazy, nthS, q1, chooseS, hw, r1] at s1
              obtain ⟨rfl, rfl⟩ := s1
              rw [okb (q2 rfl) k1, hw]
              exact goes_push _ _
            · simp [evalS, h3, isLazy, nthS, q1, hne] at s1
              exact s1.2.symm
          · by_cases h4 : o.data.toList = [111, 114]
            · have hk := harn.eq (c := 2) (by rw [h4]; rfl)
              rcases a with _ | ⟨e0, _ | ⟨e1, _ | ⟨e2, a⟩⟩⟩ <;> simp at hk
              rcases ts with _ | ⟨t0, _ | ⟨t1, _ | ⟨t2, ts⟩⟩⟩ <;> simp at hts
              obtain ⟨⟨w0, f0, q1, q2, q3⟩, ⟨w1, f1, r1, r2, r3⟩, _⟩ := hr
              rw [h4] at h
              obtain ⟨k1, k2, _⟩ := allK2 (show allK 2 [t0, t1] (.mk 2 []) = (t, 0) from h)
              simp only [genE, genO, h4]
              refine goes_choose q3 (fun hz hw => ?_) (fun hz hw => ?_) (fun hne => ?_)
              · subst hz
                simp [evalS, h4, isLazy, nthS, q1, chooseS, hw, r1] at s1
                obtain ⟨rfl, rfl⟩ := s1
                rw [okb (q2 rfl) k1, hw]
                exact goes_push _ _
              · subst hz
                simp [evalS, h4, isLazy, nthS, q1, chooseS, hw, r1] at s1
                obtain ⟨rfl, rfl⟩ := s1
                exact r3
              · simp [evalS, h4, isLazy, nthS, q1, hne] at s1
                exact s1.2.symm
            · by_cases h5 : o.data.toList = [105, 102]
              · have hk := harn.eq (c := 3) (by rw [h5]; rfl)
                rcases a with _ | ⟨e0, _ | ⟨e1, _ | ⟨e2, _ | ⟨e3, a⟩⟩⟩⟩ <;> simp at hk
                rcases ts with _ | ⟨t0, _ | ⟨t1, _ | ⟨t2, _ | ⟨t3, ts⟩⟩⟩⟩ <;> simp at hts
                obtain ⟨⟨w0, f0, q1, q2, q3⟩, ⟨w1, f1, r1, r2, r3⟩, ⟨w2, f2, u1, u2, u3⟩, _⟩ := hr
                simp only [genE, genO, h5]
                refine goes_choose q3 (fun hz hw => ?_) (fun hz hw => ?_) (fun hne => ?_)
                · subst hz
                  simp [evalS, h5, isLazy, nthS, q1, chooseS, hw, r1] at s1
                  obtain ⟨rfl, rfl⟩ := s1
                  exact r3
                · subst hz
                  simp [evalS, h5, isLazy, nthS, q1, chooseS, hw, u1] at s1
                  obtain ⟨rfl, rfl⟩ := s1
                  exact u3
                · simp [evalS, h5, isLazy, nthS, q1, hne] at s1
                  exact s1.2.symm
              · obtain ⟨ws, g, r1, r2, r3⟩ := hr.go
                have hz : isLazy o = false := by simp [isLazy, h3, h4, h5]
                simp only [evalS, if_neg h1, if_neg h2, hz, Bool.false_eq_true, if_false] at s1
                have ha : a.length ≤ 1000000 := by have := hb.1; omega
                rw [if_pos ha, r1] at s1
                simp only at s1
                simp only [genE, genO, beq_false_of_ne h1, beq_false_of_ne h2, beq_false_of_ne h3, beq_false_of_ne h4, beq_false_of_ne h5, cond_false]
                refine goes_eager h1 h2 h3 h4 h5 har r3 (fun hne => ?_) (fun hz => ?_) a.length (fun hz => ?_)
                · rw [if_neg hne] at s1
                  simp only [Option.some.injEq, Prod.mk.injEq] at s1
                  exact s1.2.symm
                · rw [if_pos hz] at s1
                  refine ⟨?_, s1⟩
                  rw [(r2 hz).len, hts]
                  exact harn
                · exact ⟨by rw [(r2 hz).len, hts], lenL_ge a⟩
        · rw [show ((ckEs a ty (d + 1)).2 != 0) = true by simpa using hp] at h
          simp only [cond_true, Prod.mk.injEq] at h
          exact absurd h.2 hp
theorem genss : ∀ (l : List Ex) (ty : Ty) (d : Int) (x : Val), BdEs l → OKv x ty → (ckEs l ty d).2 = 0 → WfEs l ∧ GRess l x (ckEs l ty d).1
  | [], ty, d, x, hb, hx, h => ⟨trivial, trivial⟩
  | e :: r, ty, d, x, hb, hx, h => by
    simp only [ckEs] at h ⊢
    by_cases h1 : (ckE e ty d).2 = 0
    · rw [h1] at h ⊢
      simp only [bne_self_eq_false, cond_false] at h ⊢
      by_cases h2 : (ckEs r ty d).2 = 0
      · rw [h2]
        simp only [bne_self_eq_false, cond_false]
        have q1 := gens e ty d _ x hb.1 hx (by rw [← h1])
        have q2 := genss r ty d x hb.2 hx h2
        exact ⟨⟨q1.1, q2.1⟩, q1.2, q2.2⟩
      · rw [show ((ckEs r ty d).2 != 0) = true by simpa using h2] at h
        exact absurd h h2
    · rw [show ((ckE e ty d).2 != 0) = true by simpa using h1] at h
      exact absurd h h1
end
end Go.Proofs.YtbcjcekoonebiaaGreat.Tl

set_option linter.unusedVariables false
set_option linter.unusedSimpArgs false
namespace Go.Proofs.YtbcjcekoonebiaaGreat.Tl
open Go Go.RowKit
theorem bd_zero : BdV zeroV := ⟨Nat.zero_le _, trivial⟩
theorem bd_bool (b : Bool) : BdV (.mk 2 0 b ⟨#[]⟩ []) := ⟨Nat.zero_le _, trivial⟩
theorem mvI_f1 (k : Int) (i : GInst) : (mvI k i).f1 = i.f1 := by
  unfold mvI
  cases isJ i <;> rfl
def BdP (p : List GInst) : Prop := ∀ i ∈ p, BdV i.f1
theorem BdP.app {a b : List GInst} (ha : BdP a) (hb : BdP b) : BdP (a ++ b) := fun i hi => by
  rcases List.mem_append.1 hi with h | h
  · exact ha i h
  · exact hb i h
theorem BdP.one {i : GInst} (h : BdV i.f1) : BdP [i] := fun x hx => by simp at hx; subst hx; exact h
theorem BdP.mv {b : List GInst} (hb : BdP b) (k : Int) : BdP (mvP k b) := fun i hi => by
  obtain ⟨x, hx, rfl⟩ := List.mem_map.1 hi
  rw [mvI_f1]
  exact hb x hx
theorem BdP.join {a b : List GInst} (ha : BdP a) (hb : BdP b) : BdP (joinP a b) := ha.app (hb.mv _)
theorem BdP.fold : ∀ {gs : List (List GInst)} {acc : List GInst}, BdP acc → (∀ g ∈ gs, BdP g) → BdP (gs.foldl joinP acc)
  | [], acc, h, _ => h
  | g :: r, acc, h, hg => BdP.fold (gs := r) (h.join (hg g (by simp))) (fun x hx => hg x (by simp [hx]))
theorem BdP.choose {a b c : List GInst} (ha : BdP a) (hb : BdP b) (hc : BdP c) : BdP (chooseP a b c) := (((ha.app (.one bd_zero)).join hb).app (.one bd_zero)).join hc
theorem getD_all {gs : List (List GInst)} (h : ∀ g ∈ gs, BdP g) (j : Nat) : BdP (gs.getD j []) := by
  rw [List.getD_eq_getElem?_getD]
  cases hj : gs[j]? with
  | none => intro i hi; cases hi
  | some g => exact h g (List.mem_of_getElem? hj)
theorem opI_f1 (o : ByteArray) (m : Int) (k : Nat) : (opI o m k).f1 = zeroV := by
  unfold opI
  cases o.data.toList == [97, 116] <;> cases o.data.toList == [116, 117, 112] <;> rfl
theorem bdO {o : ByteArray} {v : Val} {m : Int} {k : Nat} {gs : List (List GInst)} (hv : BdV v) (h : ∀ g ∈ gs, BdP g) : BdP (genO o v m k gs) := by
  unfold genO
  cases o.data.toList == [108, 105, 116] with
  | true => exact .one hv
  | false =>
    cases o.data.toList == [120] with
    | true => exact .one bd_zero
    | false =>
      cases o.data.toList == [97, 110, 100] with
      | true => exact (getD_all h 0).choose (getD_all h 1) (.one (bd_bool _))
      | false =>
        cases o.data.toList == [111, 114] with
        | true => exact (getD_all h 0).choose (.one (bd_bool _)) (getD_all h 1)
        | false =>
          cases o.data.toList == [105, 102] with
          | true => exact (getD_all h 0).choose (getD_all h 1) (getD_all h 2)
          | false => exact (BdP.fold (fun i hi => by cases hi) h).app (.one (by rw [opI_f1]; exact bd_zero))
mutual
theorem gen_bd : ∀ e : Ex, BdE e → BdP (genE e)
  | .mk o v m a, h => bdO h.2.1 (gens_bd a h.2.2)
theorem gens_bd : ∀ l : List Ex, BdEs l → ∀ g ∈ genEs l, BdP g
  | [], _, g, hg => by simp [genEs] at hg
  | e :: r, h, g, hg => by
    simp only [genEs, List.mem_cons] at hg
    rcases hg with rfl | hg
    · exact gen_bd e h.1
    · exact gens_bd r h.2 g hg
end

/-! ### where no place is added -/
def Fix (p : List GInst) : Prop := ∀ i ∈ p, mvI 0 i = i
theorem Fix.app {a b : List GInst} (ha : Fix a) (hb : Fix b) : Fix (a ++ b) := fun i hi => by
  rcases List.mem_append.1 hi with h | h
  · exact ha i h
  · exact hb i h
theorem Fix.one {i : GInst} (h : mvI 0 i = i) : Fix [i] := fun x hx => by simp at hx; subst hx; exact h
theorem fix_mv (b : List GInst) (k : Int) : Fix (mvP k b) := fun i hi => by
  obtain ⟨x, hx, rfl⟩ := List.mem_map.1 hi
  rw [mvI_mv, Int.zero_add]
theorem Fix.join {a : List GInst} (ha : Fix a) (b : List GInst) : Fix (joinP a b) := ha.app (fix_mv _ _)
theorem Fix.fold : ∀ {gs : List (List GInst)} {acc : List GInst}, Fix acc → Fix (gs.foldl joinP acc)
  | [], acc, h => h
  | g :: r, acc, h => Fix.fold (gs := r) (h.join g)
theorem fix_nj {i : GInst} (h : isJ i = false) : mvI 0 i = i := by rw [mvI, h]; rfl
theorem Fix.choose {a : List GInst} (ha : Fix a) (b c : List GInst) (h : (chooseP a b c).length ≤ 1000000) : Fix (chooseP a b c) := by
  rw [chooseP_length] at h
  refine Fix.join (Fix.app (Fix.join (Fix.app ha (.one ?_)) b) (.one ?_)) c
  · have := mv_jf (j := 0) (f := a.length + 1 + b.length + 1) (by omega)
    rw [Nat.zero_add] at this
    exact this
  · have := mv_jmp (j := 0) (f := a.length + 1 + b.length + 1 + c.length) (by omega)
    rw [Nat.zero_add] at this
    exact this
theorem opI_nj {o : ByteArray} (m : Int) (k : Nat) (h : arS o.data.toList ≠ -2) : isJ (opI o m k) = false := by
  unfold isJ
  rw [opI_f0]
  rcases arS_cases h with q | q | q | q | q | q | q | q | q | q | q | q | q | q | q | q | q | q <;> (rw [q]; rfl)
def FixL (l : List Ex) : Prop := ∀ g ∈ genEs l, g.length ≤ 1000000 → Fix g
theorem FixL.get {l : List Ex} (h : FixL l) (j : Nat) (hl : ((genEs l).getD j []).length ≤ 1000000) : Fix ((genEs l).getD j []) := by
  rw [List.getD_eq_getElem?_getD] at hl ⊢
  cases hj : (genEs l)[j]? with
  | none => intro i hi; cases hi
  | some g => rw [hj] at hl; exact h g (List.mem_of_getElem? hj) hl
theorem fixO {o : ByteArray} {v : Val} {m : Int} {k : Nat} {l : List Ex} (har : arS o.data.toList ≠ -2) (h : FixL l) (hl : (genO o v m k (genEs l)).length ≤ 1000000) : Fix (genO o v m k (genEs l)) := by
  unfold genO at hl ⊢
  cases c1 : o.data.toList == [108, 105, 116] with
  | true => exact .one rfl
  | false =>
    rw [c1] at hl
    simp only [cond_false] at hl ⊢
    cases c2 : o.data.toList == [120] with
    | true => exact .one rfl
    | false =>
      rw [c2] at hl
      simp only [cond_false] at hl ⊢
      cases c3 : o.data.toList == [97, 110, 100] with
      | true =>
        rw [c3] at hl
        simp only [cond_true] at hl ⊢
        exact (h.get 0 (by rw [chooseP_length] at hl; omega)).choose _ _ hl
      | false =>
        rw [c3] at hl
        simp only [cond_false] at hl ⊢
        cases c4 : o.data.toList == [111, 114] with
        | true =>
          rw [c4] at hl
          simp only [cond_true] at hl ⊢
          exact (h.get 0 (by rw [chooseP_length] at hl; omega)).choose _ _ hl
        | false =>
          rw [c4] at hl
          simp only [cond_false] at hl ⊢
          cases c5 : o.data.toList == [105, 102] with
          | true =>
            rw [c5] at hl
            simp only [cond_true] at hl ⊢
            exact (h.get 0 (by rw [chooseP_length] at hl; omega)).choose _ _ hl
          | false => exact Fix.app (Fix.fold (fun i hi => by cases hi)) (.one (fix_nj (opI_nj m k har)))
mutual
theorem gen_fix : ∀ e : Ex, WfE e → (genE e).length ≤ 1000000 → Fix (genE e)
  | .mk o v m a, h, hl => fixO h.1.1 (gens_fix a h.2) hl
theorem gens_fix : ∀ l : List Ex, WfEs l → FixL l
  | [], _, g, hg => by simp [genEs] at hg
  | e :: r, h, g, hg => fun hl => by
    simp only [genEs, List.mem_cons] at hg
    rcases hg with rfl | hg
    · exact gen_fix e h.1 hl
    · exact gens_fix r h.2 g hg hl
end
theorem at0 {g : List GInst} (h : Fix g) (b : List GInst) : At (g ++ b) 0 g := by
  refine ⟨by simp, fun k i hi => ?_⟩
  have hlt : k < g.length := (List.getElem?_eq_some_iff.1 hi).1
  rw [Nat.zero_add, List.getElem?_append_left hlt, hi]
  exact congrArg some (h i (List.mem_of_getElem? hi)).symm
abbrev emitI (k : Int) : GInst := ⟨⟨#[101, 109, 105, 116]⟩, zeroV, k⟩
abbrev retI : GInst := ⟨⟨#[114, 101, 116]⟩, zeroV, 0⟩
theorem step_emit (x : Val) (st ws out : List Val) : stepM (emitI (ws.length : Int)) x (st ++ ws) out = some (st, out ++ ws, 0) := by
  have e : stepM (emitI (ws.length : Int)) x (st ++ ws) out = (if 0 ≤ (ws.length : Int) ∧ (ws.length : Int).toNat ≤ (st ++ ws).length then some ((st ++ ws).take ((st ++ ws).length - (ws.length : Int).toNat), out ++ (st ++ ws).drop ((st ++ ws).length - (ws.length : Int).toNat), 0) else none) := rfl
  rw [e, Int.toNat_natCast, if_pos ⟨by omega, by simp⟩, drop_st, take_st]
theorem run_whole {g : List GInst} {x w : Val} {h : Int} (hg : Goes g x w h) (hf : Fix g) (hl : g.length + 3 ≤ 1000000) : Ev (fun n => s_f40 n (g ++ [emitI 1, retI]) x) (bif h == 0 then [w] else [], h) := by
  refine e40 (hg _ 0 [] [] _ (at0 hf _) (by simp; omega) (by simp; omega) (fun hz => ?_) (fun hne => ?_) 0)
  · subst hz
    have e := step_emit x [] [w] []
    refine run_step (i := emitI 1) (by simp) rfl rfl rfl e (by simp) (by simp) (by simp; omega) (fun v => ?_)
    exact run_ret (i := retI) (by simp) rfl _ _ v
  · rw [show (h == 0) = false from beq_false_of_ne hne]
    rfl

end Go.Proofs.YtbcjcekoonebiaaGreat.Tl

set_option linter.unusedVariables false
set_option linter.unusedSimpArgs false
namespace Go.Proofs.YtbcjcekoonebiaaGreat.Tl
open Go Go.RowKit
/-! ### types that are few -/
mutual
def bgT : Ty → Int → Int → Int
  | .mk k t, d, l => bif ((decide (l ≤ 0)) || (decide (d ≤ 0))) || (decide ((t.length : Int) > 20)) then 0 else bgTs t (d - 1) (l - 1)
def bgTs : List Ty → Int → Int → Int
  | [], _, l => l
  | x :: r, d, l => bif decide (l > 0) then bgTs r d (bgT x d l) else l
end
mutual
theorem bgT_le : ∀ (v : Ty) (d l : Int), 0 ≤ l → 0 ≤ bgT v d l ∧ bgT v d l ≤ l
  | .mk k t, d, l, h => by
    simp only [bgT]
    cases hc : ((decide (l ≤ 0)) || (decide (d ≤ 0))) || (decide ((t.length : Int) > 20)) with
    | true => simp only [cond_true]; omega
    | false =>
      have c1 := of_decide_eq_false (or_f (or_f hc).1).1
      have := bgTs_le t (d - 1) (l - 1) (by omega)
      simp only [cond_false]
      omega
theorem bgTs_le : ∀ (r : List Ty) (d l : Int), 0 ≤ l → 0 ≤ bgTs r d l ∧ bgTs r d l ≤ l
  | [], d, l, h => by simp only [bgTs]; omega
  | x :: r, d, l, h => by
    simp only [bgTs]
    cases hc : decide (l > 0) with
    | true =>
      have h1 := bgT_le x d l h
      have h2 := bgTs_le r d (bgT x d l) h1.1
      simp only [cond_true]
      omega
    | false => simp only [cond_false]; omega
end
mutual
theorem e1011 : ∀ (v : Ty) (d l : Int), -5 ≤ d → d ≤ 30 → -5 ≤ l → l ≤ 1000 → Ev (fun n => s_f1011 n v d l) (bgT v d l)
  | .mk k t, d, l, h0, h1, h2, h3 => by
    refine Ev.succ ?_
    simp only [s_f1011, bgT, Ty.of]
    refine Ev.if (fun _ => Ev.mk _) (fun hc => ?_)
    have c1 := of_decide_eq_false (or_f (or_f hc).1).1
    have c2 := of_decide_eq_false (or_f (or_f hc).1).2
    have c3 := of_decide_eq_false (or_f hc).2
    have c3 : ¬ ((t.length : Int) > 20) := c3
    rw [w1m (by omega) (by omega)]
    exact e1011s t k t 0 d (l - 1) rfl (by omega) h1 (by omega) (by omega) (by omega)
theorem e1011s : ∀ (r : List Ty) (k : Int) (t : List Ty) (j : Nat) (d l : Int), t.drop j = r → 0 < d → d ≤ 30 → 0 ≤ l → l ≤ 1000 → t.length ≤ 20 → Ev (fun n => s_f1011_l1 n (.mk k t) d l j) (bgTs r (d - 1) l)
  | [], k, t, j, d, l, h, h0, h1, h2, h3, h4 => by
    refine Ev.succ ?_
    simp only [s_f1011_l1, bgTs, Ty.of]
    exact Ev.f (and_f (cj_f (drop_n h))) (Ev.mk _)
  | x :: r, k, t, j, d, l, h, h0, h1, h2, h3, h4 => by
    obtain ⟨hj, hx, hr⟩ := drop_c h
    refine Ev.succ ?_
    simp only [s_f1011_l1, bgTs, Ty.of]
    refine Ev.ifa (cj_t hj) (fun hl => ?_) (fun hl => Ev.mk _)
    have hb := bgT_le x (d - 1) l h2
    refine Ev.g (Int.natCast_nonneg j) (Ev.bindc (by rw [Int.toNat_natCast]; exact hx) (Ev.bind (a := bgT x (d - 1) l) ?_ ?_))
    · rw [w1m (by omega) (by omega)]
      exact e1011 x (d - 1) l (by omega) (by omega) (by omega) (by omega)
    · rw [w1 (by omega) (by omega)]
      exact e1011s r k t (j + 1) d _ hr h0 h1 hb.1 (by omega) h4
end
theorem e1006 (t : Ty) : Ev (fun n => s_f1006 n t) (decide (bgT t 12 300 > 0)) := by
  unfold s_f1006
  exact Ev.ret (e1011 t 12 300 (by omega) (by omega) (by omega) (by omega))
mutual
theorem bgT_bd : ∀ (v : Ty) (d l : Int), 0 < bgT v d l → BdT v
  | .mk k t, d, l, h => by
    simp only [bgT] at h
    cases hc : ((decide (l ≤ 0)) || (decide (d ≤ 0))) || (decide ((t.length : Int) > 20)) with
    | true => rw [hc] at h; simp at h
    | false =>
      rw [hc] at h
      simp only [cond_false] at h
      have c3 := of_decide_eq_false (or_f hc).2
      exact ⟨by omega, bgTs_bd t _ _ h⟩
theorem bgTs_bd : ∀ (r : List Ty) (d l : Int), 0 < bgTs r d l → BdTs r
  | [], d, l, h => trivial
  | x :: r, d, l, h => by
    simp only [bgTs] at h
    cases hc : decide (l > 0) with
    | false =>
      have := of_decide_eq_false hc
      rw [hc] at h
      simp only [cond_false] at h
      omega
    | true =>
      rw [hc] at h
      simp only [cond_true] at h
      have hl := of_decide_eq_true hc
      have h1 := bgT_le x d l (by omega)
      by_cases hx : 0 < bgT x d l
      · exact ⟨bgT_bd x d l hx, bgTs_bd r _ _ h⟩
      · have e : bgT x d l = 0 := by omega
        rw [e] at h
        cases r with
        | nil => simp [bgTs] at h
        | cons y r => simp [bgTs] at h
end

/-! ### how many ops there are -/
mutual
def nE : Ex → Nat
  | .mk o v m a => 1 + nEs a
def nEs : List Ex → Nat
  | [] => 0
  | e :: r => nE e + nEs r
end
mutual
theorem bgE_n : ∀ (v : Ex) (d l : Int), 0 < bgE v d l → (nE v : Int) + bgE v d l ≤ l
  | .mk o v m a, d, l, h => by
    simp only [bgE] at h ⊢
    cases c1 : decide (l ≤ 0) with
    | true => rw [c1] at h; simp at h
    | false =>
      rw [c1] at h
      simp only [cond_false] at h ⊢
      cases c2 : decide (d ≤ 0) with
      | true => rw [c2] at h; simp at h
      | false =>
        rw [c2] at h
        simp only [cond_false] at h ⊢
        cases c3 : decide ((a.length : Int) > 12) with
        | true => rw [c3] at h; simp at h
        | false =>
          rw [c3] at h
          simp only [cond_false] at h ⊢
          cases c4 : decide ((o.size : Int) > 20) with
          | true => rw [c4] at h; simp at h
          | false =>
            rw [c4] at h
            simp only [cond_false] at h ⊢
            cases c5 : !(decide (bgV v 12 300 > 0)) with
            | true => rw [c5] at h; simp at h
            | false =>
              rw [c5] at h
              simp only [cond_false] at h ⊢
              have := of_decide_eq_false c1
              have := bgEs_n a (d - 1) (l - 1) (by omega) h
              simp only [nE]
              omega
theorem bgEs_n : ∀ (r : List Ex) (d l : Int), 0 ≤ l → 0 < bgEs r d l → (nEs r : Int) + bgEs r d l ≤ l
  | [], d, l, h0, h => by simp only [bgEs, nEs]; omega
  | x :: r, d, l, h0, h => by
    simp only [bgEs] at h ⊢
    cases hc : decide (l > 0) with
    | false =>
      have := of_decide_eq_false hc
      rw [hc] at h
      simp only [cond_false] at h
      omega
    | true =>
      rw [hc] at h
      simp only [cond_true] at h ⊢
      have h1 := bgE_le x d l h0
      by_cases hx : 0 < bgE x d l
      · have q1 := bgE_n x d l hx
        have q2 := bgEs_n r d _ h1.1 h
        simp only [nEs]
        omega
      · have e : bgE x d l = 0 := by omega
        rw [e] at h
        cases r with
        | nil => simp [bgEs] at h
        | cons y r => simp [bgEs] at h
end
theorem e17b (e : Ex) : Ev (fun n => s_f17 n e) (decide (bgE e 20 400 > 0)) := by
  unfold s_f17
  exact Ev.ret (e54 e 20 400 (by omega) (by omega) (by omega) (by omega))
theorem getD_le : ∀ (gs : List (List GInst)) (j : Nat), (gs.getD j []).length ≤ lenL gs
  | [], j => by simp
  | g :: r, 0 => by simp [lenL]
  | g :: r, j + 1 => by
    have := getD_le r j
    simp only [List.getD_cons_succ, lenL]
    omega
theorem getD_le2 : ∀ (gs : List (List GInst)), (gs.getD 0 []).length + (gs.getD 1 []).length ≤ lenL gs
  | [] => by simp
  | g :: r => by
    have := getD_le r 0
    simp only [List.getD_cons_zero, List.getD_cons_succ, lenL]
    omega
theorem getD_le3 : ∀ (gs : List (List GInst)), (gs.getD 0 []).length + (gs.getD 1 []).length + (gs.getD 2 []).length ≤ lenL gs
  | [] => by simp
  | g :: r => by
    have := getD_le2 r
    simp only [List.getD_cons_zero, List.getD_cons_succ, lenL]
    omega
mutual
theorem gen_len : ∀ e : Ex, (genE e).length ≤ 4 * nE e
  | .mk o v m a => by
    have h := gens_len a
    have h2 := getD_le2 (genEs a)
    have h3 := getD_le3 (genEs a)
    simp only [genE, genO, nE]
    cases o.data.toList == [108, 105, 116] with
    | true => simp only [cond_true, List.length_cons, List.length_nil]; omega
    | false =>
      cases o.data.toList == [120] with
      | true => simp only [cond_true, cond_false, List.length_cons, List.length_nil]; omega
      | false =>
        cases o.data.toList == [97, 110, 100] with
        | true => simp only [cond_true, cond_false, chooseP_length, List.length_cons, List.length_nil]; omega
        | false =>
          cases o.data.toList == [111, 114] with
          | true => simp only [cond_true, cond_false, chooseP_length, List.length_cons, List.length_nil]; omega
          | false =>
            cases o.data.toList == [105, 102] with
            | true => simp only [cond_true, cond_false, chooseP_length]; omega
            | false => simp only [cond_false, List.length_append, foldl_length, List.length_cons, List.length_nil]; omega
theorem gens_len : ∀ l : List Ex, lenL (genEs l) ≤ 4 * nEs l
  | [] => by simp [genEs, lenL, nEs]
  | e :: r => by
    have h1 := gen_len e
    have h2 := gens_len r
    simp only [genEs, lenL, nEs]
    omega
end
def FewE (e : Ex) : Prop := BdE e ∧ (genE e).length ≤ 1600
theorem fewE {e : Ex} (h : decide (bgE e 20 400 > 0) = true) : FewE e := by
  have h1 := of_decide_eq_true h
  have h2 := bgE_n e 20 400 h1
  have h3 := gen_len e
  exact ⟨bgE_bd e 20 400 h1, by omega⟩
def FewEs (l : List Ex) : Prop := ∀ e ∈ l, FewE e
theorem FewEs.bd : ∀ {l : List Ex}, FewEs l → BdEs l
  | [], _ => trivial
  | e :: r, h => ⟨(h e (by simp)).1, FewEs.bd fun x hx => h x (by simp [hx])⟩
theorem FewEs.len : ∀ {l : List Ex}, FewEs l → lenL (genEs l) ≤ 1600 * l.length
  | [], _ => by simp [genEs, lenL]
  | e :: r, h => by
    have h1 := (h e (by simp)).2
    have h2 := FewEs.len (l := r) (fun x hx => h x (by simp [hx]))
    simp only [genEs, lenL, List.length_cons]
    omega
theorem e1001l (o : GOp) : ∀ (r : List Ex) (j : Nat), o.f3.drop j = r → (Ev (fun n => s_f1001_l1 n o j) true ∧ FewEs r) ∨ Ev (fun n => s_f1001_l1 n o j) false
  | [], j, h => by
    left
    refine ⟨Ev.succ ?_, fun e he => by cases he⟩
    simp only [s_f1001_l1]
    exact Ev.f (cj_f (drop_n h)) (Ev.mk _)
  | x :: r, j, h => by
    obtain ⟨h1, h2, h3⟩ := drop_c h
    cases hb : decide (bgE x 20 400 > 0) with
    | false =>
      right
      refine Ev.succ ?_
      simp only [s_f1001_l1]
      exact Ev.t (cj_t h1) (Ev.bindc h2 (Ev.bind (hb ▸ e17b x) (Ev.t rfl (Ev.mk _))))
    | true =>
      rcases e1001l o r (j + 1) h3 with ⟨q1, q2⟩ | q
      · left
        refine ⟨Ev.succ ?_, fun e he => ?_⟩
        · simp only [s_f1001_l1]
          exact Ev.t (cj_t h1) (Ev.bindc h2 (Ev.bind (hb ▸ e17b x) (Ev.f rfl q1)))
        · rcases List.mem_cons.1 he with rfl | he
          · exact fewE hb
          · exact q2 e he
      · right
        refine Ev.succ ?_
        simp only [s_f1001_l1]
        exact Ev.t (cj_t h1) (Ev.bindc h2 (Ev.bind (hb ▸ e17b x) (Ev.f rfl q)))
structure FewO (o : GOp) : Prop where
  ty : BdT o.f2
  key : FewE o.f4
  len : o.f3.length ≤ 8
  es : FewEs o.f3
theorem FewO.bd {o : GOp} (h : FewO o) : BdO o := ⟨h.ty, h.key.1, by have := h.len; omega, h.es.bd⟩
theorem e1001 (o : GOp) : (Ev (fun n => s_f1001 n o) true ∧ FewO o) ∨ Ev (fun n => s_f1001 n o) false := by
  unfold s_f1001
  cases c1 : decide ((o.f1.size : Int) > 50) with
  | true => right; exact Ev.t rfl (Ev.mk _)
  | false =>
    cases c2 : decide (bgT o.f2 12 300 > 0) with
    | false => right; exact Ev.f rfl (Ev.bind (c2 ▸ e1006 o.f2) (Ev.t rfl (Ev.mk _)))
    | true =>
      cases c3 : decide ((o.f3.length : Int) > 8) with
      | true => right; exact Ev.f rfl (Ev.bind (c2 ▸ e1006 o.f2) (Ev.f rfl (Ev.t rfl (Ev.mk _))))
      | false =>
        have c3' := of_decide_eq_false c3
        cases c4 : decide (bgE o.f4 20 400 > 0) with
        | false => right; exact Ev.f rfl (Ev.bind (c2 ▸ e1006 o.f2) (Ev.f rfl (Ev.f rfl (Ev.bind (c4 ▸ e17b o.f4) (Ev.t rfl (Ev.mk _))))))
        | true =>
          rcases e1001l o o.f3 0 rfl with ⟨q1, q2⟩ | q
          · left
            exact ⟨Ev.f rfl (Ev.bind (c2 ▸ e1006 o.f2) (Ev.f rfl (Ev.f rfl (Ev.bind (c4 ▸ e17b o.f4) (Ev.f rfl q1))))), bgT_bd _ _ _ (of_decide_eq_true c2), fewE c4, by omega, q2⟩
          · right; exact Ev.f rfl (Ev.bind (c2 ▸ e1006 o.f2) (Ev.f rfl (Ev.f rfl (Ev.bind (c4 ▸ e17b o.f4) (Ev.f rfl q)))))
end Go.Proofs.YtbcjcekoonebiaaGreat.Tl

set_option linter.unusedVariables false
set_option linter.unusedSimpArgs false
namespace Go.Proofs.YtbcjcekoonebiaaGreat.Tl
open Go Go.RowKit
theorem ev_of {α : Type} {x : Option α} {a : α} (h : x = some a) : Ev (fun _ => x) a := h ▸ Ev.mk a
theorem tail5 (a b c d e x : Bool) : ∃ r, (bif a then some true else bif b then some true else bif c then some true else bif d then some true else bif e then some true else some x) = some r ∧ (r = false → c = false) := by
  cases a <;> cases b <;> cases c <;> cases d <;> cases e <;> simp
theorem e1008_j (o : GOp) (lo hi : Int) : ∃ b, Ev (fun n => s_f1008_j1 n o lo hi) b ∧ (b = false → lo ≤ (o.f3.length : Int) ∧ (o.f3.length : Int) ≤ hi) := by
  obtain ⟨r, h1, h2⟩ := tail5 ((!((o.f0 == 1) || (o.f0 == 9))) && (o.f1.data.toList != [])) _ _ _ _ _
  refine ⟨r, Ev.succ (ev_of h1), fun h => ?_⟩
  have := or_f (h2 h)
  have a := of_decide_eq_false this.1
  have b := of_decide_eq_false this.2
  omega
theorem e1008 (o : GOp) : ∃ b, Ev (fun n => s_f1008 n o) b ∧ (b = false → ((o.f0 = 2 ∨ o.f0 = 3 ∨ o.f0 = 5) → o.f3.length = 1) ∧ (o.f0 = 4 → 1 ≤ o.f3.length ∧ o.f3.length ≤ 4)) := by
  unfold s_f1008
  obtain ⟨r, h1, h2⟩ := e1008_j o 1 1
  by_cases c2 : o.f0 = 2
  · exact ⟨r, Ev.t (by simpa using c2) h1, fun h => by have := h2 h; exact ⟨fun _ => by omega, fun _ => by omega⟩⟩
  by_cases c3 : o.f0 = 3
  · exact ⟨r, Ev.f (by simpa using c2) (Ev.t (by simpa using c3) h1), fun h => by have := h2 h; exact ⟨fun _ => by omega, fun _ => by omega⟩⟩
  by_cases c5 : o.f0 = 5
  · exact ⟨r, Ev.f (by simpa using c2) (Ev.f (by simpa using c3) (Ev.t (by simpa using c5) h1)), fun h => by have := h2 h; exact ⟨fun _ => by omega, fun _ => by omega⟩⟩
  by_cases c4 : o.f0 = 4
  · obtain ⟨r, h1, h2⟩ := e1008_j o 1 4
    exact ⟨r, Ev.f (by simpa using c2) (Ev.f (by simpa using c3) (Ev.f (by simpa using c5) (Ev.t (by simpa using c4) h1))), fun h => by have := h2 h; exact ⟨fun _ => by omega, fun _ => by omega⟩⟩
  · obtain ⟨r, h1, h2⟩ := e1008_j o 0 0
    exact ⟨r, Ev.f (by simpa using c2) (Ev.f (by simpa using c3) (Ev.f (by simpa using c5) (Ev.f (by simpa using c4) h1))), fun h => ⟨fun _ => by omega, fun _ => by omega⟩⟩

def CkAll : List Ex → Ty → List Ty → Prop
  | [], _, [] => True
  | e :: r, t, ty :: ts => ckX e t = (ty, 0) ∧ CkAll r t ts
  | _, _, _ => False
theorem CkAll.app : ∀ {l : List Ex} {t : Ty} {ts : List Ty} {e : Ex} {ty : Ty}, CkAll l t ts → ckX e t = (ty, 0) → CkAll (l ++ [e]) t (ts ++ [ty])
  | [], t, [], e, ty, _, h => ⟨h, trivial⟩
  | [], _, _ :: _, _, _, h, _ => by simp [CkAll] at h
  | _ :: _, _, [], _, _, h, _ => by simp [CkAll] at h
  | x :: l, t, y :: ts, e, ty, h, k => ⟨h.1, h.2.app k⟩
theorem CkAll.len : ∀ {l : List Ex} {t : Ty} {ts : List Ty}, CkAll l t ts → ts.length = l.length
  | [], _, [], _ => rfl
  | [], _, _ :: _, h => by simp [CkAll] at h
  | _ :: _, _, [], h => by simp [CkAll] at h
  | x :: l, t, y :: ts, h => by simp only [List.length_cons, h.2.len]
theorem e1010_1 (l : List Ty) (h0 : 0 < l.length) : ∀ (r : List Ty) (j : Nat), l.drop j = r → ∃ p, Ev (fun n => s_f1010_l1 n l j) p
  | [], j, h => ⟨(th l 0, 0), Ev.succ (by
      simp only [s_f1010_l1]
      exact Ev.f (cj_f (drop_n h)) (Ev.bindc (th_get h0) (Ev.mk _)))⟩
  | x :: r, j, h => by
    obtain ⟨h1, h2, h3⟩ := drop_c h
    obtain ⟨p, hp⟩ := e1010_1 l h0 r (j + 1) h3
    cases hc : sameT x (th l 0) with
    | true =>
      refine ⟨p, Ev.succ ?_⟩
      simp only [s_f1010_l1]
      exact Ev.t (cj_t h1) (Ev.bindc h2 (Ev.bindc (th_get h0) (Ev.bind (e65 _ _) (Ev.f (by rw [hc]; rfl) hp))))
    | false =>
      refine ⟨(zT, 5), Ev.succ ?_⟩
      simp only [s_f1010_l1]
      exact Ev.t (cj_t h1) (Ev.bindc h2 (Ev.bindc (th_get h0) (Ev.bind (e65 _ _) (Ev.t (by rw [hc]; rfl) (Ev.mk _)))))
theorem e1010 (o : GOp) (t k : Ty) (ts : List Ty) (hk : 2 ≤ o.f0 ∧ o.f0 ≤ 7) (h0 : o.f0 ≤ 5 → 0 < ts.length) : ∃ p, Ev (fun n => s_f1010 n o [t] k ts) p ∧ (p.2 = 0 → o.f0 = 3 → (th ts 0).kind = 2) := by
  unfold s_f1010
  cases c2 : o.f0 == 2 with
  | true =>
    have e2 := eq_of_beq c2
    exact ⟨_, Ev.t rfl (Ev.bindc (th_get (h0 (by omega))) (Ev.mk _)), fun _ q => by omega⟩
  | false =>
    cases c3 : o.f0 == 3 with
    | true =>
      have e3 := eq_of_beq c3
      have hg := th_get (h0 (by omega))
      cases hc : (th ts 0).kind != 2 with
      | true => exact ⟨(zT, 5), Ev.f rfl (Ev.t rfl (Ev.bindc hg (Ev.t hc (Ev.mk _)))), fun q => by cases q⟩
      | false => exact ⟨(t, 0), Ev.f rfl (Ev.t rfl (Ev.bindc hg (Ev.f hc (Ev.bindc rfl (Ev.mk _))))), fun _ _ => bne_f hc⟩
    | false =>
      have n3 : o.f0 ≠ 3 := by simpa using c3
      cases c4 : o.f0 == 4 with
      | true =>
        have e4 := eq_of_beq c4
        obtain ⟨p, hp⟩ := e1010_1 ts (h0 (by omega)) (ts.drop 1) 1 rfl
        exact ⟨p, Ev.f rfl (Ev.f rfl (Ev.t rfl hp)), fun _ q => absurd q n3⟩
      | false =>
        cases c5 : o.f0 == 5 with
        | true =>
          have e5 := eq_of_beq c5
          have hg := th_get (h0 (by omega))
          cases hc : (th ts 0).kind != 1 with
          | true => exact ⟨(zT, 5), Ev.f rfl (Ev.f rfl (Ev.f rfl (Ev.t rfl (Ev.bindc hg (Ev.t hc (Ev.mk _)))))), fun q => by cases q⟩
          | false =>
            cases hd : ckT (Ty.mk 4 [k, Ty.mk 1 []]) 0 != 0 with
            | true => exact ⟨_, Ev.f rfl (Ev.f rfl (Ev.f rfl (Ev.t rfl (Ev.bindc hg (Ev.f hc (Ev.bind (e56 _) (Ev.t hd (Ev.mk _)))))))), fun _ q => absurd q n3⟩
            | false => exact ⟨_, Ev.f rfl (Ev.f rfl (Ev.f rfl (Ev.t rfl (Ev.bindc hg (Ev.f hc (Ev.bind (e56 _) (Ev.f hd (Ev.mk _)))))))), fun _ q => absurd q n3⟩
        | false =>
          cases c6 : o.f0 == 6 with
          | true =>
            cases hd : ckT (Ty.mk 4 [k, Ty.mk 1 []]) 0 != 0 with
            | true => exact ⟨_, Ev.f rfl (Ev.f rfl (Ev.f rfl (Ev.f rfl (Ev.t rfl (Ev.bind (e56 _) (Ev.t hd (Ev.mk _))))))), fun _ q => absurd q n3⟩
            | false => exact ⟨_, Ev.f rfl (Ev.f rfl (Ev.f rfl (Ev.f rfl (Ev.t rfl (Ev.bind (e56 _) (Ev.f hd (Ev.mk _))))))), fun _ q => absurd q n3⟩
          | false =>
            have e7 : o.f0 = 7 := by
              have n2 : o.f0 ≠ 2 := by simpa using c2
              have n4 : o.f0 ≠ 4 := by simpa using c4
              have n5 : o.f0 ≠ 5 := by simpa using c5
              have n6 : o.f0 ≠ 6 := by simpa using c6
              omega
            exact ⟨(k, 0), Ev.f rfl (Ev.f rfl (Ev.f rfl (Ev.f rfl (Ev.f rfl (Ev.t (by rw [e7]; rfl) (Ev.mk _)))))), fun _ q => absurd q n3⟩
def OutF (o : GOp) (t : Ty) : Prop := ∃ ts, CkAll o.f3 t ts ∧ (o.f0 = 3 → (th ts 0).kind = 2)
theorem e1002_4 (o : GOp) (t : Ty) (kk : Int) (kl : List Ty) (hb : BdEs o.f3) (hl : o.f3.length ≤ 8) (hk : 2 ≤ o.f0 ∧ o.f0 ≤ 7) (h0 : o.f0 ≤ 5 → 0 < o.f3.length) : ∀ (r pre : List Ex) (acc : List Ty) (j : Nat), o.f3.drop j = r → pre ++ r = o.f3 → acc.length = j → CkAll pre t acc → BdEs r →
    ∃ p, Ev (fun n => s_f1002_l4 n o [t] kk kl acc j) p ∧ (p.2 = 0 → OutF o t)
  | [], pre, acc, j, h, hp, hj, hc, hbr => by
    simp only [List.append_nil] at hp
    subst hp
    obtain ⟨p, h1, h2⟩ := e1010 o t (.mk kk kl) acc hk (fun q => by rw [hc.len]; exact h0 q)
    refine ⟨p, Ev.succ ?_, fun q => ⟨acc, hc, h2 q⟩⟩
    simp only [s_f1002_l4]
    exact Ev.f (cj_f (drop_n h)) (Ev.bind h1 (Ev.mk _))
  | x :: r, pre, acc, j, h, hp, hj, hc, hbr => by
    obtain ⟨h1, h2, h3⟩ := drop_c h
    by_cases hz : (ckX x t).2 = 0
    · have e : ckX x t = ((ckX x t).1, 0) := by rw [← hz]
      obtain ⟨p, q1, q2⟩ := e1002_4 o t kk kl hb hl hk h0 r (pre ++ [x]) (acc ++ [(ckX x t).1]) (j + 1) h3 (by simp [hp]) (by simp [hj]) (hc.app e) hbr.2
      refine ⟨p, Ev.succ ?_, q2⟩
      simp only [s_f1002_l4]
      exact Ev.t (cj_t h1) (Ev.bindc h2 (Ev.bindc rfl (Ev.bind (e20 x t hbr.1) (Ev.f (by simp [hz]) (Ev.g (by omega) q1)))))
    · refine ⟨(zT, (ckX x t).2), Ev.succ ?_, fun q => absurd q hz⟩
      simp only [s_f1002_l4]
      exact Ev.t (cj_t h1) (Ev.bindc h2 (Ev.bindc rfl (Ev.bind (e20 x t hbr.1) (Ev.t (by simpa using hz) (Ev.mk _)))))
def keyedB (o : GOp) : Bool := ((o.f0 == 5) || (o.f0 == 6)) || (o.f0 == 7)
theorem e1002 (o : GOp) (t : Ty) (hf : FewO o) (hk : 2 ≤ o.f0 ∧ o.f0 ≤ 7) (ht : ckT t 0 = 0) :
    ∃ p, Ev (fun n => s_f1002 n o [t]) p ∧ (p.2 = 0 → (((o.f0 = 2 ∨ o.f0 = 3 ∨ o.f0 = 5) → o.f3.length = 1) ∧ (o.f0 = 4 → 1 ≤ o.f3.length ∧ o.f3.length ≤ 4)) ∧ (keyedB o = true → (ckX o.f4 t).2 = 0) ∧ (keyedB o = false → OutF o t)) := by
  have hb := hf.bd
  obtain ⟨b, h8, hb8⟩ := e1008 o
  unfold s_f1002
  have c0 : ((decide (o.f0 < 1)) || (decide (o.f0 > 9))) = false := by rw [decide_eq_false (by omega), decide_eq_false (by omega)]; rfl
  have c1 : (o.f0 == 1) = false := beq_false_of_ne (by omega)
  have c9 : (o.f0 == 9) = false := beq_false_of_ne (by omega)
  have h9 : Ev (fun n => s_f1009 n o.f0 (([t] : List Ty).length : Int)) true := by
    unfold s_f1009
    exact Ev.f c1 (Ev.f (beq_false_of_ne (by omega)) (Ev.mk _))
  cases b with
  | true => exact ⟨(zT, 1), Ev.f c0 (Ev.f c1 (Ev.f c9 (Ev.bind h8 (Ev.t rfl (Ev.mk _))))), fun q => by cases q⟩
  | false =>
    have hl := hb8 rfl
    have h0 : o.f0 ≤ 5 → 0 < o.f3.length := fun q => by
      have := hl.1
      have := hl.2
      omega
    have key : ∃ p, Ev (fun n => s_f1002_j1 n o [t]) p ∧ (p.2 = 0 → (keyedB o = true → (ckX o.f4 t).2 = 0) ∧ (keyedB o = false → OutF o t)) := by
      have two : ∀ {p : Ty × Int}, Ev (fun n => bif (((o.f0 == 5) || (o.f0 == 6)) || (o.f0 == 7)) then ((([t] : List Ty)[0]?).bind fun x56 => ((s_f20 n o.f4 x56).bind fun q58 => (bif (q58.2 != 0) then some ((Ty.mk 0 []), q58.2) else (s_f1002_j3 n o [t] q58.1.kind q58.1.of)))) else (s_f1002_j3 n o [t] 0 [])) p → Ev (fun n => s_f1002_j1 n o [t]) p := fun {p} hp => by
        refine Ev.succ ?_
        simp only [s_f1002_j1]
        refine Ev.succ ?_
        simp only [s_f1002_l2]
        refine Ev.t rfl (Ev.bindc rfl (Ev.bind (e56 t) (Ev.f (by rw [ht]; rfl) (Ev.succ ?_))))
        simp only [s_f1002_l2]
        exact Ev.f rfl (Ev.f c1 hp)
      have three : ∀ (kk : Int) (kl : List Ty), ∃ p, Ev (fun n => s_f1002_j3 n o [t] kk kl) p ∧ (p.2 = 0 → OutF o t) := fun kk kl => by
        obtain ⟨p, hp, hq⟩ := e1002_4 o t kk kl hb.es hf.len hk h0 o.f3 [] [] 0 rfl rfl rfl trivial hb.es
        exact ⟨p, Ev.succ hp, hq⟩
      cases hkk : ((o.f0 == 5) || (o.f0 == 6)) || (o.f0 == 7) with
      | true =>
        rw [hkk] at two
        by_cases hz : (ckX o.f4 t).2 = 0
        · obtain ⟨p, hp, _⟩ := three (ckX o.f4 t).1.kind (ckX o.f4 t).1.of
          exact ⟨p, two (Ev.t rfl (Ev.bindc rfl (Ev.bind (e20 _ t hb.key) (Ev.f (by simp [hz]) hp)))), fun _ => ⟨fun _ => hz, fun q => (by unfold keyedB at q; rw [hkk] at q; cases q)⟩⟩
        · exact ⟨(zT, (ckX o.f4 t).2), two (Ev.t rfl (Ev.bindc rfl (Ev.bind (e20 _ t hb.key) (Ev.t (by simpa using hz) (Ev.mk _))))), fun q => absurd q hz⟩
      | false =>
        rw [hkk] at two
        obtain ⟨p, hp, hq⟩ := three 0 []
        exact ⟨p, two (Ev.f rfl hp), fun q => ⟨fun r => (by unfold keyedB at r; rw [hkk] at r; cases r), fun _ => hq q⟩⟩
    obtain ⟨p, hp, hq⟩ := key
    exact ⟨p, Ev.f c0 (Ev.f c1 (Ev.f c9 (Ev.bind h8 (Ev.f rfl (Ev.bind h9 (Ev.f rfl hp)))))), fun q => ⟨hl, hq q⟩⟩
end Go.Proofs.YtbcjcekoonebiaaGreat.Tl

set_option linter.unusedVariables false
set_option linter.unusedSimpArgs false
namespace Go.Proofs.YtbcjcekoonebiaaGreat.Tl
open Go Go.RowKit
theorem ckX_ckE {e : Ex} {t ty : Ty} (h : ckX e t = (ty, 0)) : ckE e t 0 = (ty, 0) := by
  unfold ckX at h
  obtain ⟨_, h⟩ := bif_zt h (by omega)
  obtain ⟨_, h⟩ := bif_zt h (by omega)
  exact h
theorem ck_all {x : Val} {t : Ty} (hx : OKv x t) : ∀ {l : List Ex} {ts : List Ty}, CkAll l t ts → BdEs l → WfEs l ∧ Ress l x ts ∧ GRess l x ts
  | [], [], _, _ => ⟨trivial, trivial, trivial⟩
  | [], _ :: _, h, _ => by simp [CkAll] at h
  | _ :: _, [], h, _ => by simp [CkAll] at h
  | e :: r, ty :: ts, h, hb => by
    have hE := ckX_ckE h.1
    obtain ⟨q1, q2, q3⟩ := ck_all hx h.2 hb.2
    obtain ⟨g1, g2⟩ := gens e t 0 ty x hb.1 hx hE
    exact ⟨⟨g1, q1⟩, ⟨sound e t 0 ty x hb.1 hx hE, q2⟩, ⟨g2, q3⟩⟩
theorem e42k (a : List Val) (hb : ∀ y ∈ a, BdV y) : ∀ (r : List Val) (j : Nat), a.drop j = r → Ev (fun n => s_f42_l1 n a a j) true
  | [], j, h => by
    refine Ev.succ ?_
    simp only [s_f42_l1]
    exact Ev.f (cj_f (drop_n h)) (Ev.mk _)
  | x :: r, j, h => by
    obtain ⟨h1, h2, h3⟩ := drop_c h
    have hx := hb x (List.mem_of_getElem? h2)
    refine Ev.succ ?_
    simp only [s_f42_l1]
    exact Ev.t (cj_t h1) (Ev.bindc h2 (Ev.bind (e22 x hx) (Ev.bindc h2 (Ev.bind (e25 x x hx) (Ev.f (by simp [cmpV_self]) (e42k a hb r (j + 1) h3))))))
theorem e42z (a : List Val) (hb : ∀ y ∈ a, BdV y) : Ev (fun n => s_f42 n a a) true := by
  unfold s_f42
  exact Ev.f (by simp) (e42k a hb a 0 rfl)
theorem okvs_bd : ∀ {vs : List Val} {ts : List Ty}, OKvs vs ts → ∀ y ∈ vs, BdV y
  | [], [], _, y, hy => by simp at hy
  | [], _ :: _, h, _, _ => by simp [OKvs] at h
  | _ :: _, [], h, _, _ => by simp [OKvs] at h
  | v :: vs, t :: ts, h, y, hy => by
    rcases List.mem_cons.1 hy with rfl | hy
    · exact h.1.bd
    · exact okvs_bd h.2 y hy

/-! ### what an operator does -/
def finA (o : GOp) (x : Val) (l : List Val) : List Val × Int := bif o.f0 == 3 then (bif !((l.getD 0 zeroV).b) then ([], 0) else ([x], 0)) else (l, 0)
theorem e1005l (o : GOp) (x : Val) (hl : o.f3.length ≤ 8) : ∀ (r : List Ex) (rt : List Ty) (acc : List Val) (j : Nat), o.f3.drop j = r → acc.length = j → (o.f0 = 3 → 0 < o.f3.length) → Ress r x rt →
    ∃ vs g, allS r x = some (vs, g) ∧ (g = 0 → OKvs vs rt) ∧ Ev (fun n => s_f1005_l1 n o x acc j) (bif g == 0 then finA o x (acc ++ vs) else ([], g))
  | [], [], acc, j, h, hj, h0, hr => by
    refine ⟨[], 0, rfl, fun _ => trivial, Ev.succ ?_⟩
    have := drop_n h
    simp only [s_f1005_l1, finA, List.append_nil]
    refine Ev.f (cj_f (drop_n h)) ?_
    show Ev _ (bif o.f0 == 3 then (bif !((acc.getD 0 zeroV).b) then ([], 0) else ([x], 0)) else (acc, 0))
    cases hc : o.f0 == 3 with
    | false => exact Ev.f rfl (Ev.mk _)
    | true =>
      have hlt : 0 < acc.length := by have := h0 (eq_of_beq hc); omega
      have e : acc[0]? = some (acc.getD 0 zeroV) := by rw [List.getD_eq_getElem?_getD, List.getElem?_eq_getElem hlt]; rfl
      refine Ev.t rfl (Ev.bindc e ?_)
      cases (acc.getD 0 zeroV).b with
      | true => exact Ev.f rfl (Ev.mk _)
      | false => exact Ev.t rfl (Ev.mk _)
  | [], _ :: _, acc, j, h, hj, h0, hr => by simp [Ress] at hr
  | _ :: _, [], acc, j, h, hj, h0, hr => by simp [Ress] at hr
  | e :: r, t :: rt, acc, j, h, hj, h0, hr => by
    obtain ⟨h1, h2, h3⟩ := drop_c h
    obtain ⟨⟨w, f, q1, q2, q3, q4⟩, hr⟩ := hr
    by_cases hf : f = 0
    · subst hf
      obtain ⟨vs, g, a1, a2, a3⟩ := e1005l o x hl r rt (acc ++ [w]) (j + 1) h3 (by simp [hj]) h0 hr
      have hstep : ∀ {R : List Val × Int}, Ev (fun n => s_f1005_l1 n o x (acc ++ [w]) (j + 1)) R → Ev (fun n => s_f1005_l1 n o x acc j) R := fun {R} hR => by
        refine Ev.succ ?_
        simp only [s_f1005_l1]
        exact Ev.t (cj_t h1) (Ev.bindc h2 (Ev.bind q2 (Ev.f rfl (Ev.g (by omega) hR))))
      by_cases hg : g = 0
      · subst hg
        refine ⟨w :: vs, 0, by simp [allS, q1, a1], fun _ => ⟨q3 rfl, a2 rfl⟩, hstep ?_⟩
        simp only [List.append_assoc, List.singleton_append] at a3
        exact a3
      · refine ⟨[], g, by simp [allS, q1, a1, hg], fun q => absurd q hg, hstep ?_⟩
        rw [show (g == 0) = false from beq_false_of_ne hg] at a3 ⊢
        exact a3
    · refine ⟨[], f, by simp [allS, q1, hf], fun q => absurd q hf, Ev.succ ?_⟩
      rw [show (f == 0) = false from beq_false_of_ne hf]
      simp only [s_f1005_l1]
      exact Ev.t (cj_t h1) (Ev.bindc h2 (Ev.bind q2 (Ev.t (by simpa using hf) (Ev.mk _))))

/-! ### runs -/
theorem run_filter {g : List GInst} {x w : Val} {h : Int} (hg : Goes g x w h) (hf : Fix g) (hl : g.length + 5 ≤ 1000000) : Ev (fun n => s_f40 n ((g ++ [jfI ((g.length + 3 : Nat) : Int), xI]) ++ [emI 1, rtI]) x) (bif h == 0 then (bif w.b then [x] else []) else [], h) := by
  have e1 : (g ++ [jfI ((g.length + 3 : Nat) : Int), xI]) ++ [emI 1, rtI] = g ++ [jfI ((g.length + 3 : Nat) : Int), xI, emI 1, rtI] := by simp
  rw [e1]
  have hA := at0 hf [jfI ((g.length + 3 : Nat) : Int), xI, emI 1, rtI]
  have i0 : (g ++ [jfI ((g.length + 3 : Nat) : Int), xI, emI 1, rtI])[g.length]? = some (jfI ((g.length + 3 : Nat) : Int)) := by simp
  have i1 : (g ++ [jfI ((g.length + 3 : Nat) : Int), xI, emI 1, rtI])[g.length + 1]? = some xI := by simp [List.getElem?_append]
  have i2 : (g ++ [jfI ((g.length + 3 : Nat) : Int), xI, emI 1, rtI])[g.length + 2]? = some (emI 1) := by simp [List.getElem?_append]
  have i3 : (g ++ [jfI ((g.length + 3 : Nat) : Int), xI, emI 1, rtI])[g.length + 3]? = some rtI := by simp [List.getElem?_append]
  have hlen : (g ++ [jfI ((g.length + 3 : Nat) : Int), xI, emI 1, rtI]).length ≤ 1000000 := by simp; omega
  revert hA i0 i1 i2 i3 hlen
  generalize g ++ [jfI ((g.length + 3 : Nat) : Int), xI, emI 1, rtI] = P
  intro hA i0 i1 i2 i3 hlen
  refine e40 (hg P 0 [] [] _ hA hlen (by simp; omega) (fun hz => ?_) (fun hne => ?_) 0)
  · subst hz
    rw [Nat.zero_add]
    refine run_jf (st := []) (k := g.length + 3) i0 rfl rfl (by omega) hlen (by simp) ?_
    cases w.b with
    | true =>
      refine run_step (i := xI) i1 rfl rfl rfl (st' := [x]) (out' := []) rfl (by simp) (by simp) hlen ?_
      refine run_step (i := emI 1) i2 rfl rfl rfl (st' := []) (out' := [x]) (step_emit x [] [x] []) (by simp) (by simp) hlen (fun v => run_ret (i := rtI) i3 rfl _ _ v)
    | false => exact fun v => run_ret (i := rtI) i3 rfl _ _ v
  · rw [show (h == 0) = false from beq_false_of_ne hne]
    rfl
theorem run_flat {gs : List (List GInst)} {x : Val} {ws : List Val} {g : Int} (hg : GoesL gs x ws g) (k : Nat) (hk : g = 0 → ws.length = k) (hl : lenL gs + 3 ≤ 1000000) (hw : g = 0 → ws.length ≤ lenL gs) : Ev (fun n => s_f40 n (gs.foldl joinP [] ++ [emI (k : Int), rtI]) x) (bif g == 0 then ws else [], g) := by
  have hfix : Fix (gs.foldl joinP []) := Fix.fold (fun i hi => by cases hi)
  have hA := (at0 hfix [emI (k : Int), rtI]).fold.2
  have hn : (gs.foldl joinP []).length = lenL gs := by rw [foldl_length]; simp
  have i0 : (gs.foldl joinP [] ++ [emI (k : Int), rtI])[lenL gs]? = some (emI (k : Int)) := by rw [← hn]; simp
  have i1 : (gs.foldl joinP [] ++ [emI (k : Int), rtI])[lenL gs + 1]? = some rtI := by rw [← hn]; simp [List.getElem?_append]
  have hlen : (gs.foldl joinP [] ++ [emI (k : Int), rtI]).length ≤ 1000000 := by rw [List.length_append, hn]; simp; omega
  simp only [List.length_nil, Nat.add_zero] at hA
  revert hA i0 i1 hlen
  generalize gs.foldl joinP [] ++ [emI (k : Int), rtI] = P
  intro hA i0 i1 hlen
  refine e40 (hg P 0 [] [] _ hA hlen (by simp; omega) (fun hz => ?_) (fun hne => ?_) 0)
  · subst hz
    rw [Nat.zero_add]
    have e := step_emit x [] ws []
    rw [hk rfl] at e
    have hw' := hw rfl
    simp only [List.nil_append] at e ⊢
    exact run_step (i := emI (k : Int)) i0 rfl rfl rfl e (by omega) (by simp; omega) hlen (fun v => run_ret (i := rtI) i1 rfl _ _ v)
  · rw [show (g == 0) = false from beq_false_of_ne hne]
    rfl
theorem allS_len : ∀ {l : List Ex} {x : Val} {ws : List Val}, allS l x = some (ws, 0) → ws.length = l.length
  | [], x, ws, h => by simp [allS] at h; subst h; rfl
  | e :: r, x, ws, h => by
    simp only [allS] at h
    split at h
    · cases h
    · rename_i v f hf
      split at h
      · split at h
        · cases h
        · rename_i l g hg
          split at h
          · rename_i h1 h2
            simp only [Option.some.injEq, Prod.mk.injEq, and_true] at h
            subst h h2
            simp only [List.length_cons, allS_len hg]
          · rename_i h1 h2
            simp only [Option.some.injEq, Prod.mk.injEq] at h
            exact absurd h.2 h2
      · rename_i h1
        simp only [Option.some.injEq, Prod.mk.injEq] at h
        exact absurd h.2 h1
theorem genOp_len (o : GOp) (hf : FewO o) : (genOp o).length ≤ 20000 := by
  have h1 := hf.es.len
  have h2 := hf.len
  have h3 := getD_le (genEs o.f3) 0
  unfold genOp
  cases o.f0 == 2 || o.f0 == 5 with
  | true => simp only [cond_true, List.length_append, List.length_cons, List.length_nil]; omega
  | false =>
    cases o.f0 == 3 with
    | true => simp only [cond_true, cond_false, List.length_append, List.length_cons, List.length_nil]; omega
    | false =>
      cases o.f0 == 4 with
      | true => simp only [cond_true, cond_false, List.length_append, foldl_length, List.length_cons, List.length_nil]; omega
      | false => simp
theorem genOp_bd (o : GOp) (hf : FewO o) : BdP (genOp o) := by
  have h := gens_bd o.f3 hf.es.bd
  have z : ∀ i : GInst, i.f1 = zeroV → BdV i.f1 := fun i e => by rw [e]; exact bd_zero
  have tl : ∀ k : Int, BdP [emI k, rtI] := fun k i hi => by
    simp only [List.mem_cons, List.not_mem_nil, or_false] at hi
    rcases hi with rfl | rfl <;> exact bd_zero
  unfold genOp
  cases o.f0 == 2 || o.f0 == 5 with
  | true => exact (getD_all h 0).app (tl 1)
  | false =>
    cases o.f0 == 3 with
    | true =>
      refine ((getD_all h 0).app (fun i hi => ?_)).app (tl 1)
      simp only [List.mem_cons, List.not_mem_nil, or_false] at hi
      rcases hi with rfl | rfl <;> exact bd_zero
    | false =>
      cases o.f0 == 4 with
      | true => exact (BdP.fold (fun i hi => by cases hi) h).app (tl _)
      | false =>
        intro i hi
        simp only [cond_false, List.mem_cons, List.not_mem_nil, or_false] at hi
        rcases hi with rfl | rfl | rfl <;> exact bd_zero

/-! ### the law -/
theorem s1000 (o : GOp) (x : Val) : Ev (fun n => s_f1000 n o x) true := by
  unfold s_f1000
  refine Ev.bind e36 (Ev.f rfl ?_)
  rcases e1001 o with ⟨hfe, hf⟩ | hfe
  · refine Ev.bind hfe (Ev.f rfl ?_)
    rcases e18 x with ⟨hbx, hcx, hg⟩ | hg
    · refine Ev.bind hg (Ev.f rfl (Ev.bind (e76 o hf.bd) (Ev.bind (e22 x hbx) ?_)))
      cases hk : (decide (o.f0 < 2)) || (decide (o.f0 > 7)) with
      | true => exact Ev.t rfl (Ev.mk _)
      | false =>
        have k1 := of_decide_eq_false (or_f hk).1
        have k2 := of_decide_eq_false (or_f hk).2
        obtain ⟨l1, l2⟩ := (ckV_lf x 0).1 hcx
        have hx : OKv x (tyV x) := ⟨l1, rfl, l2⟩
        obtain ⟨p, hp, hq⟩ := e1002 o (tyV x) hf ⟨by omega, by omega⟩ l2
        refine Ev.f rfl (Ev.bind (e21 x hbx) (Ev.bind hp ?_))
        cases hz : p.2 != 0 with
        | true => exact Ev.t rfl (Ev.mk _)
        | false =>
          obtain ⟨⟨n1, n2⟩, hkey, hout⟩ := hq (bne_f hz)
          refine Ev.f rfl ?_
          cases hkk : ((o.f0 == 5) || (o.f0 == 6)) || (o.f0 == 7) with
          | true =>
            -- by a key
            have hc := hkey hkk
            have hE := ckX_ckE (e := o.f4) (t := tyV x) (ty := (ckX o.f4 (tyV x)).1) (by rw [← hc])
            obtain ⟨w, f, q1, q2, q3, q4⟩ := sound o.f4 _ 0 _ x hf.key.1 hx hE
            obtain ⟨hwf, w', f', r1, r2, r3⟩ := gens o.f4 _ 0 _ x hf.key.1 hx hE
            rw [q1] at r1
            simp only [Option.some.injEq, Prod.mk.injEq] at r1
            obtain ⟨rfl, rfl⟩ := r1
            have hlen := hf.key.2
            have hgen : Ev (fun n => s_f1004 n o) (genE o.f4 ++ [emI 1, rtI]) := by
              unfold s_f1004
              exact Ev.bind (e52 _ hwf (by omega)) (Ev.g (by omega) (Ev.mk _))
            have hbd : BdP (genE o.f4 ++ [emI 1, rtI]) := (gen_bd _ hf.key.1).app (fun i hi => by
              simp only [List.mem_cons, List.not_mem_nil, or_false] at hi
              rcases hi with rfl | rfl <;> exact bd_zero)
            have hrun := run_whole r3 (gen_fix _ hwf (by omega)) (by omega)
            refine Ev.t rfl (Ev.bind hgen (Ev.bind (e51 _ (by simp; omega) hbd) (Ev.bind hrun (Ev.bind q2 (Ev.t (by simp) ?_)))))
            by_cases hf0 : f = 0
            · subst hf0
              have hw := (q3 rfl).bd
              exact Ev.f rfl (Ev.t rfl (Ev.bindc rfl (Ev.bind (e22 w hw) (Ev.bind (e25 w w hw) ((Ev.mk _).congr (by simp [cmpV_self]))))))
            · rw [show (f == 0) = false from beq_false_of_ne hf0]
              exact Ev.t (by simpa using hf0) (Ev.t rfl (Ev.mk _))
          | false =>
            obtain ⟨ts, hca, hb3⟩ := hout hkk
            obtain ⟨hwf, hR, hG⟩ := ck_all hx hca hf.es.bd
            have hlen := genOp_len o hf
            have n5 : o.f0 ≠ 5 := by have := (or_f (or_f hkk).1).1; simpa using this
            have n6 : o.f0 ≠ 6 := by have := (or_f (or_f hkk).1).2; simpa using this
            have n7 : o.f0 ≠ 7 := by have := (or_f hkk).2; simpa using this
            obtain ⟨vs, g, a1, a2, a3⟩ := e1005l o x hf.len o.f3 ts [] 0 rfl rfl (fun q => by have := n1 (.inr (.inl q)); omega) hR
            rw [List.nil_append] at a3
            have hap : Ev (fun n => s_f1005 n o x) (bif g == 0 then finA o x vs else ([], g)) := by
              unfold s_f1005
              refine Ev.f ?_ a3
              by_cases c2 : o.f0 = 2
              · rw [c2]; rfl
              · by_cases c3 : o.f0 = 3
                · rw [c3]; rfl
                · have c4 : o.f0 = 4 := by omega
                  rw [c4]; rfl
            have key : ∃ R : List Val × Int, Ev (fun n => s_f40 n (genOp o) x) R ∧ (bif g == 0 then finA o x vs else ([], g)) = R ∧ ∀ y ∈ R.1, BdV y := by
              by_cases c4 : o.f0 = 4
              · obtain ⟨ws, g', b1, b2, b3⟩ := hG.go
                rw [a1] at b1
                simp only [Option.some.injEq, Prod.mk.injEq] at b1
                obtain ⟨rfl, rfl⟩ := b1
                have h1 := hf.es.len
                have h2 := hf.len
                have e : genOp o = (genEs o.f3).foldl joinP [] ++ [emI (o.f3.length : Int), rtI] := by unfold genOp; rw [c4]; rfl
                have hvl : g = 0 → vs.length = o.f3.length := fun q => by subst q; exact allS_len a1
                refine ⟨_, e ▸ run_flat b3 o.f3.length hvl (by omega) (fun q => by rw [hvl q]; exact lenL_ge _), ?_, ?_⟩
                · by_cases hg0 : g = 0
                  · subst hg0
                    unfold finA
                    rw [c4]
                    rfl
                  · rw [show (g == 0) = false from beq_false_of_ne hg0]
                    rfl
                · by_cases hg0 : g = 0
                  · subst hg0
                    exact okvs_bd (a2 rfl)
                  · rw [show (g == 0) = false from beq_false_of_ne hg0]
                    simp
              · have n23 : o.f0 = 2 ∨ o.f0 = 3 := by omega
                have hl1 : o.f3.length = 1 := n1 (by rcases n23 with q | q; exact .inl q; exact .inr (.inl q))
                obtain ⟨e, he⟩ : ∃ e, o.f3 = [e] := by
                  match o.f3, hl1 with
                  | [e], _ => exact ⟨e, rfl⟩
                obtain ⟨ty, hts⟩ : ∃ ty, ts = [ty] := by
                  have := hca.len
                  rw [hl1] at this
                  match ts, this with
                  | [ty], _ => exact ⟨ty, rfl⟩
                subst hts
                have hfe : FewE e := hf.es e (by rw [he]; simp)
                rw [he] at hca hG hwf a1
                obtain ⟨w, f, b1, b2, b3⟩ := hG.1
                have hfix := gen_fix e hwf.1 (by have := hfe.2; omega)
                have hel := hfe.2
                have ea : (vs, g) = (bif f == 0 then [w] else [], f) := by
                  by_cases hf0 : f = 0
                  · subst hf0
                    simp [allS, b1] at a1
                    obtain ⟨rfl, rfl⟩ := a1
                    rfl
                  · simp [allS, b1, hf0] at a1
                    obtain ⟨rfl, rfl⟩ := a1
                    rw [show (f == 0) = false from beq_false_of_ne hf0]
                    rfl
                simp only [Prod.mk.injEq] at ea
                obtain ⟨rfl, rfl⟩ := ea
                rcases n23 with c2 | c3
                · have eg : genOp o = genE e ++ [emI 1, rtI] := by unfold genOp; rw [c2, he]; rfl
                  refine ⟨_, eg ▸ run_whole b3 hfix (by omega), ?_, ?_⟩
                  · by_cases hf0 : g = 0
                    · subst hf0; unfold finA; rw [c2]; rfl
                    · rw [show (g == 0) = false from beq_false_of_ne hf0]; rfl
                  · by_cases hf0 : g = 0
                    · subst hf0
                      intro y hy
                      simp only [beq_self_eq_true, cond_true, List.mem_singleton] at hy
                      subst hy
                      exact (b2 rfl).bd
                    · rw [show (g == 0) = false from beq_false_of_ne hf0]
                      simp
                · have eg : genOp o = (genE e ++ [jfI (((genE e).length + 3 : Nat) : Int), xI]) ++ [emI 1, rtI] := by unfold genOp; rw [c3, he]; rfl
                  refine ⟨_, eg ▸ run_filter b3 hfix (by omega), ?_, ?_⟩
                  · by_cases hf0 : g = 0
                    · subst hf0
                      unfold finA
                      rw [c3]
                      show (bif !w.b then ([], (0 : Int)) else ([x], 0)) = (bif w.b then [x] else [], 0)
                      cases w.b <;> rfl
                    · rw [show (g == 0) = false from beq_false_of_ne hf0]; rfl
                  · by_cases hf0 : g = 0
                    · subst hf0
                      intro y hy
                      simp only [beq_self_eq_true, cond_true] at hy
                      cases hwb : w.b with
                      | true =>
                        rw [hwb] at hy
                        simp only [cond_true, List.mem_singleton] at hy
                        subst hy
                        exact hbx
                      | false => rw [hwb] at hy; simp at hy
                    · rw [show (g == 0) = false from beq_false_of_ne hf0]
                      simp
            obtain ⟨R, r1, r2, r3⟩ := key
            rw [r2] at hap
            exact Ev.f rfl (Ev.bind (e75 o hwf (fun q => by have := n1 (by omega); omega) (by omega)) (Ev.bind (e51 _ (by omega) (genOp_bd o hf)) (Ev.bind r1 (Ev.bind hap (Ev.t (by simp) (Ev.bind (e42z R.1 r3) (Ev.mk _)))))))
    · exact Ev.bind hg (Ev.t rfl (Ev.mk _))
  · exact Ev.bind hfe (Ev.t rfl (Ev.mk _))
end Go.Proofs.YtbcjcekoonebiaaGreat.Tl

set_option linter.unusedVariables false
set_option linter.unusedSimpArgs false
namespace Go.Proofs.YtbcjcekoonebiaaGreat.Tl
open Go Go.RowKit
abbrev Pw (w : World) : Cx := Pu (fun _ _ => True) w
def ones (cs : List Value) : Prop := ∀ u ∈ cs, u.oneCell' = true

theorem RdR.of_get {C : Cx} {sz : Nat} : ∀ {rows : List (List AV)} {b off : Nat}, (∀ i r, rows[i]? = some r → r.length = sz ∧ RdC C r b (off + i * sz)) → RdR C sz rows b off
  | [], b, off, _ => by simp [RdR]
  | r :: rs, b, off, h => by
    simp only [RdR]
    have h0 := h 0 r (by simp)
    simp only [Nat.zero_mul, Nat.add_zero] at h0
    refine ⟨h0.1, h0.2, RdR.of_get fun i q hq => ?_⟩
    have := h (i + 1) q (by simpa using hq)
    rw [show off + sz + i * sz = off + (i + 1) * sz by rw [Nat.add_mul]; omega]
    exact this

section
variable {H : Type} {enc : TypeId × Value → H} {P : Program} {w : World} {base : Nat} {sp : Nat → Bool} {hd : Bool}
theorem open_sl {fuel : Nat} {t e : TypeId} {cs : List Value} {x : DataW H × List MemPlace} (ht : P.underlying t = some (.slice e)) {α : Type} (c : α → List AV) (p : α → Prop) (sz : Nat) (hsz : P.cellsOf e = sz) (h0 : 0 < sz) (hc : ∀ a, (c a).length = sz)
    (ih : ∀ n, n < fuel → ∀ cs x, DataW.trod enc P w base sp hd n e cs = some x → ∃ a : α, RdL (Pw w) (c a) cs ∧ ones cs ∧ p a)
    (h : DataW.trod enc P w base sp hd fuel t cs = some x) : ∃ (l : List α) (v : Value), cs = [v] ∧ Rd (Pw w) (.sl .ro sz (l.map c)) v ∧ v.oneCell' = true ∧ ∀ a ∈ l, p a := by
  rcases DataW.trod_slice ht h with ⟨rfl, rfl⟩ | ⟨a, len, cap, elems, rest, n, rfl, rfl, rfl, hb, hl, hm, hlen, hel, _, _⟩
  · exact ⟨[], .slice none 0 0, rfl, by simp only [Rd]; exact ⟨none, 0, rfl, Nat.le_refl _, by simp, .inl rfl, trivial⟩, rfl, by simp⟩
  · rw [hsz] at hel
    have key : ∀ k, k ≤ len → ∃ l : List α, l.length = k ∧ (∀ i y, l[i]? = some y → ∃ cs', w.cells? base (a.add (i * sz)) sz = some cs' ∧ RdL (Pw w) (c y) cs' ∧ ones cs') ∧ ∀ y ∈ l, p y := by
      intro k
      induction k with
      | zero => intro _; exact ⟨[], rfl, by simp, by simp⟩
      | succ k ihk =>
        intro hk
        obtain ⟨l, q1, q2, q3⟩ := ihk (by omega)
        have h1 := hel k (by omega)
        rw [List.getElem?_eq_getElem (by omega)] at h1
        obtain ⟨cs', h2, h3⟩ := Option.bind_eq_some_iff.1 h1
        obtain ⟨y, k1, k2, k3⟩ := ih n (by omega) cs' _ h3
        refine ⟨l ++ [y], by simp [q1], fun i z hz => ?_, fun z hz => ?_⟩
        · by_cases hi : i < k
          · rw [List.getElem?_append_left (by omega)] at hz; exact q2 i z hz
          · have hik : i = k := by
              have := (List.getElem?_eq_some_iff.1 hz).1
              simp [q1] at this
              omega
            subst hik
            rw [List.getElem?_append_right (by omega), q1] at hz
            simp at hz
            subst hz
            exact ⟨cs', h2, k1, k2⟩
        · rcases List.mem_append.1 hz with hz | hz
          · exact q3 z hz
          · simp at hz; subst hz; exact k3
    obtain ⟨l, q1, q2, q3⟩ := key len (Nat.le_refl _)
    refine ⟨l, .slice (some a) len cap, rfl, ?_, rfl, q3⟩
    simp only [Rd, List.length_map]
    refine ⟨some a, cap, by rw [q1], by omega, by simp only [maxLen] at hm; omega, ?_, trivial⟩
    cases l with
    | nil => exact .inl rfl
    | cons y0 l0 =>
      right
      have hsp : a.spot = none := by
        obtain ⟨cs', k1, _, _⟩ := q2 0 y0 rfl
        obtain ⟨_, k2, k3⟩ := World.cells?_some k1
        have k4 := k3 0 h0
        have hn : cs'[0]? = some (cs'[0]'(by omega)) := List.getElem?_eq_getElem (by omega)
        rw [hn] at k4
        simp only [Nat.zero_mul, Addr.add, if_true] at k4
        unfold World.cell? at k4
        split at k4
        · split at k4
          · cases k4
          · rename_i hs; simpa using hs
        · cases k4
      obtain ⟨b, off, spot⟩ := a
      simp only at hsp
      subst hsp
      refine ⟨b, off, rfl, RdR.of_get fun i r hr => ?_⟩
      rw [List.getElem?_map, Option.map_eq_some_iff] at hr
      obtain ⟨y, hy, rfl⟩ := hr
      obtain ⟨cs', k1, k2, k3⟩ := q2 i y hy
      obtain ⟨_, k4, k5⟩ := World.cells?_some k1
      refine ⟨hc y, RdC.mk k2 k3 (fun j u hj => ?_) (fun j hj => pu_ok fun _ => trivial)⟩
      have hjl : j < cs'.length := (List.getElem?_eq_some_iff.1 hj).1
      have := k5 j (by omega)
      rw [add_plain', add_plain'] at this
      exact this.trans hj

theorem open_i {fuel : Nat} {t : TypeId} {k : IntKind} {cs : List Value} {x : DataW H × List MemPlace} (ht : P.underlying t = some (.int k)) (h : DataW.trod enc P w base sp hd fuel t cs = some x) : ∃ n : Int, cs = [.int k n] ∧ (Lit.int k n).wf = true :=
  let ⟨n, h1, _, h2⟩ := DataW.trod_int ht h; ⟨n, h1, h2⟩
theorem open_b {fuel : Nat} {t : TypeId} {cs : List Value} {x : DataW H × List MemPlace} (ht : P.underlying t = some .bool) (h : DataW.trod enc P w base sp hd fuel t cs = some x) : ∃ b : Bool, cs = [.bool b] :=
  let ⟨n, h1, _⟩ := DataW.trod_bool ht h; ⟨n, h1⟩
theorem open_s {fuel : Nat} {t : TypeId} {cs : List Value} {x : DataW H × List MemPlace} (ht : P.underlying t = some .string) (h : DataW.trod enc P w base sp hd fuel t cs = some x) : ∃ s : ByteArray, cs = [.string s] ∧ s.size ≤ maxLen :=
  let ⟨n, h1, _, h2⟩ := DataW.trod_string ht h; ⟨n, h1, h2⟩
theorem open_st {fuel : Nat} {t : TypeId} {fs : Array Field} {cs : List Value} {x : DataW H × List MemPlace} (ht : P.underlying t = some (.struct fs)) (h : DataW.trod enc P w base sp hd fuel t cs = some x) :
    ∃ n, fuel = n + 1 ∧ cs.length = P.cellsOf t ∧ ∀ (i : Nat) (f : Field), fs[i]? = some f → ∃ y, DataW.trod enc P w base sp hd n f.type ((cs.drop f.offset).take (P.cellsOf f.type)) = some y := by
  obtain ⟨xs, n, h1, _, h3, h4, h5⟩ := DataW.trod_struct ht h
  refine ⟨n, h1, h3, fun i f hf => ?_⟩
  have hi : i < fs.size := (Array.getElem?_eq_some_iff.1 hf).1
  have := h5 i f hf
  rw [List.getElem?_eq_getElem (by omega)] at this
  exact ⟨_, this⟩
end
theorem open_fd {H : Type} {enc : TypeId × Value → H} {P : Program} {w : World} {base : Nat} {sp : Nat → Bool} {hd : Bool} {n : Nat} {fs : Array Field} {cs : List Value}
    (hf : ∀ (i : Nat) (f : Field), fs[i]? = some f → ∃ y, DataW.trod enc P w base sp hd n f.type ((cs.drop f.offset).take (P.cellsOf f.type)) = some y) (i : Nat) {f : Field} (h : fs[i]? = some f) (t off sz : Nat) (ht : f.type = t) (ho : f.offset = off) (hs : P.cellsOf t = sz) {cs' : List Value} (hc : (cs.drop off).take sz = cs') :
    ∃ y, DataW.trod enc P w base sp hd n t cs' = some y := by
  subst ht ho hs hc
  exact hf i f h

theorem ok_struct {P : Program} {w : World} {r : Reach} {base : Nat} {t : TypeId} {fs : Array Field} {v : Value} (ht : P.underlying t = some (.struct fs)) (h : Value.okWide P w r base t v) : ∃ cs, v = .agg cs := by
  unfold Value.okWide at h
  rw [ht] at h
  obtain ⟨cs, h, _⟩ := h
  exact ⟨cs, h⟩
theorem rd_struct {w : World} {c : List AV} {v : Value} {cs : Array Value} (hv : v = .agg cs) (h : RdL (Pw w) c v.cells.toList) (h1 : ones v.cells.toList) : Rd (Pw w) (.agg c) v := by
  subst hv
  simp only [Rd]
  exact ⟨cs, rfl, h, h1⟩
abbrev in64 (n : Int) : Prop := -9223372036854775808 ≤ n ∧ n ≤ 9223372036854775807
theorem in64_of {n : Int} (h : (Lit.int .i64 n).wf = true) : in64 n := by
  simp only [Lit.wf, Bool.and_eq_true, decide_eq_true_eq] at h
  exact h
mutual
def RgV : Val → Prop
  | .mk k i b s t => in64 k ∧ in64 i ∧ RgVs t
def RgVs : List Val → Prop
  | [] => True
  | x :: r => RgV x ∧ RgVs r
end
mutual
def RgE : Ex → Prop
  | .mk o v m a => RgV v ∧ in64 m ∧ RgEs a
def RgEs : List Ex → Prop
  | [] => True
  | x :: r => RgE x ∧ RgEs r
end
theorem RgVs_of : ∀ {l : List Val}, (∀ a ∈ l, RgV a) → RgVs l
  | [], _ => trivial
  | x :: r, h => ⟨h x (by simp), RgVs_of fun a ha => h a (by simp [ha])⟩
theorem RgEs_of : ∀ {l : List Ex}, (∀ a ∈ l, RgE a) → RgEs l
  | [], _ => trivial
  | x :: r, h => ⟨h x (by simp), RgEs_of fun a ha => h a (by simp [ha])⟩
end Go.Proofs.YtbcjcekoonebiaaGreat.Tl

set_option linter.unusedVariables false
namespace Go.Proofs.YtbcjcekoonebiaaGreat.Tl
open Go Go.RowKit
section
variable {H : Type} {enc : TypeId × Value → H} {w : World} {base : Nat} {sp : Nat → Bool} {hd : Bool}
theorem open_V : ∀ (fuel : Nat) (cs : List Value) (x : DataW H × List MemPlace), DataW.trod enc Tryz.prog w base sp hd fuel 28 cs = some x → ∃ v : Val, RdL (Pw w) (valC v) cs ∧ ones cs ∧ RgV v := by
  intro fuel
  induction fuel using Nat.strongRecOn with
  | _ fuel ih =>
    intro cs x h
    obtain ⟨n, rfl, hl, hf⟩ := open_st Tryz.underlying28 h
    rw [show Tryz.prog.cellsOf 28 = 5 by kernel_rfl] at hl
    rcases cs with _ | ⟨c0, _ | ⟨c1, _ | ⟨c2, _ | ⟨c3, _ | ⟨c4, _ | ⟨c5, cs⟩⟩⟩⟩⟩⟩ <;> simp at hl
    obtain ⟨y0, g0⟩ := open_fd hf 0 rfl 3 0 1 rfl rfl (by kernel_rfl) (cs' := [c0]) rfl
    obtain ⟨y1, g1⟩ := open_fd hf 1 rfl 2 1 1 rfl rfl (by kernel_rfl) (cs' := [c1]) rfl
    obtain ⟨y2, g2⟩ := open_fd hf 2 rfl 4 2 1 rfl rfl (by kernel_rfl) (cs' := [c2]) rfl
    obtain ⟨y3, g3⟩ := open_fd hf 3 rfl 9 3 1 rfl rfl (by kernel_rfl) (cs' := [c3]) rfl
    obtain ⟨y4, g4⟩ := open_fd hf 4 rfl 26 4 1 rfl rfl (by kernel_rfl) (cs' := [c4]) rfl
    obtain ⟨k, e0, w0⟩ := open_i Tryz.underlying3 g0
    obtain ⟨i, e1, w1⟩ := open_i Tryz.underlying2 g1
    obtain ⟨b, e2⟩ := open_b Tryz.underlying4 g2
    obtain ⟨s, e3, _⟩ := open_s Tryz.underlying9 g3
    obtain ⟨l, u, e4, r4, o4, p4⟩ := open_sl Tryz.underlying26 valC RgV 5 (by kernel_rfl) (by decide) (fun _ => rfl) (fun m hm cs x hx => ih m (by omega) cs x hx) g4
    simp only [List.cons.injEq, and_true] at e0 e1 e2 e3 e4
    subst e0 e1 e2 e3 e4
    refine ⟨.mk k i b s l, ?_, ?_, in64_of w0, in64_of w1, RgVs_of p4⟩
    · rw [← encs_map] at r4
      simp only [RdL, Val.kind, Val.i, Val.b, Val.s, Val.t]
      exact ⟨by simp [Rd], by simp [Rd], by simp [Rd], by simp [Rd], r4, trivial⟩
    · intro u hu
      simp only [List.mem_cons, List.not_mem_nil, or_false] at hu
      rcases hu with rfl | rfl | rfl | rfl | rfl <;> first | rfl | exact o4
theorem open_X : ∀ (fuel : Nat) (cs : List Value) (x : DataW H × List MemPlace), DataW.trod enc Tryz.prog w base sp hd fuel 30 cs = some x → ∃ v : Ex, RdL (Pw w) (exC v) cs ∧ ones cs ∧ RgE v := by
  intro fuel
  induction fuel using Nat.strongRecOn with
  | _ fuel ih =>
    intro cs x h
    obtain ⟨n, rfl, hl, hf⟩ := open_st Tryz.underlying30 h
    rw [show Tryz.prog.cellsOf 30 = 8 by kernel_rfl] at hl
    rcases cs with _ | ⟨c0, _ | ⟨c1, _ | ⟨c2, _ | ⟨c3, _ | ⟨c4, _ | ⟨c5, _ | ⟨c6, _ | ⟨c7, _ | ⟨c8, cs⟩⟩⟩⟩⟩⟩⟩⟩⟩ <;> simp at hl
    obtain ⟨y0, g0⟩ := open_fd hf 0 rfl 9 0 1 rfl rfl (by kernel_rfl) (cs' := [c0]) rfl
    obtain ⟨y1, g1⟩ := open_fd hf 1 rfl 28 1 5 rfl rfl (by kernel_rfl) (cs' := [c1, c2, c3, c4, c5]) rfl
    obtain ⟨y2, g2⟩ := open_fd hf 2 rfl 3 6 1 rfl rfl (by kernel_rfl) (cs' := [c6]) rfl
    obtain ⟨y3, g3⟩ := open_fd hf 3 rfl 25 7 1 rfl rfl (by kernel_rfl) (cs' := [c7]) rfl
    obtain ⟨s, e0, _⟩ := open_s Tryz.underlying9 g0
    obtain ⟨v, r1, o1, p1⟩ := open_V _ _ _ g1
    obtain ⟨i, e2, w2⟩ := open_i Tryz.underlying3 g2
    obtain ⟨l, u, e3, r3, o3, p3⟩ := open_sl Tryz.underlying25 exC RgE 8 (by kernel_rfl) (by decide) (fun _ => rfl) (fun m hm cs x hx => ih m (by omega) cs x hx) g3
    simp only [List.cons.injEq, and_true] at e0 e2 e3
    subst e0 e2 e3
    refine ⟨.mk s v i l, ?_, ?_, p1, in64_of w2, RgEs_of p3⟩
    · rw [← enxs_map] at r3
      simp only [RdL] at r1
      simp only [RdL, Ex.op, Ex.v, Ex.n, Ex.a]
      exact ⟨by simp [Rd], r1.1, r1.2.1, r1.2.2.1, r1.2.2.2.1, r1.2.2.2.2.1, by simp [Rd], r3, trivial⟩
    · intro u hu
      simp only [List.mem_cons, List.not_mem_nil, or_false] at hu
      rcases hu with rfl | rfl | rfl | rfl | rfl | rfl | rfl | rfl <;> first | rfl | exact o3 | (exact o1 _ (by simp))
end
end Go.Proofs.YtbcjcekoonebiaaGreat.Tl

set_option linter.unusedVariables false
namespace Go.Proofs.YtbcjcekoonebiaaGreat.Tl
open Go Go.RowKit
section
variable {H : Type} {enc : TypeId × Value → H} {w : World} {base : Nat} {sp : Nat → Bool} {hd : Bool}
theorem open_T : ∀ (fuel : Nat) (cs : List Value) (x : DataW H × List MemPlace), DataW.trod enc Tryz.prog w base sp hd fuel 24 cs = some x → ∃ v : Ty, RdL (Pw w) (tyC v) cs ∧ ones cs ∧ True := by
  intro fuel
  induction fuel using Nat.strongRecOn with
  | _ fuel ih =>
    intro cs x h
    obtain ⟨n, rfl, hl, hf⟩ := open_st Tryz.underlying24 h
    rw [show Tryz.prog.cellsOf 24 = 2 by kernel_rfl] at hl
    rcases cs with _ | ⟨c0, _ | ⟨c1, _ | ⟨c2, cs⟩⟩⟩ <;> simp at hl
    obtain ⟨y0, g0⟩ := open_fd hf 0 rfl 3 0 1 rfl rfl (by kernel_rfl) (cs' := [c0]) rfl
    obtain ⟨y1, g1⟩ := open_fd hf 1 rfl 22 1 1 rfl rfl (by kernel_rfl) (cs' := [c1]) rfl
    obtain ⟨k, e0, w0⟩ := open_i Tryz.underlying3 g0
    obtain ⟨l, u, e1, r1, o1, p1⟩ := open_sl Tryz.underlying22 tyC (fun _ => True) 2 (by kernel_rfl) (by decide) (fun _ => rfl) (fun m hm cs x hx => ih m (by omega) cs x hx) g1
    simp only [List.cons.injEq, and_true] at e0 e1
    subst e0 e1
    refine ⟨.mk k l, ?_, ?_, trivial⟩
    · rw [← enys_map] at r1
      simp only [RdL, Ty.kind, Ty.of]
      exact ⟨by simp [Rd], r1, trivial⟩
    · intro u hu
      simp only [List.mem_cons, List.not_mem_nil, or_false] at hu
      rcases hu with rfl | rfl <;> first | rfl | exact o1
abbrev opC (o : GOp) : List AV := [.int .i64 o.f0, .str o.f1, .int .i64 o.f2.kind, .sl .ro 2 (enys o.f2.of), .sl .ro 8 (enxs o.f3), .str o.f4.op, .int .i64 o.f4.v.kind, .int .i64 o.f4.v.i, .bool o.f4.v.b, .str o.f4.v.s, .sl .ro 5 (encs o.f4.v.t), .int .i64 o.f4.n, .sl .ro 8 (enxs o.f4.a), .int .i64 o.f5, .int .i64 o.f6]
theorem open_O (fuel : Nat) (cs : List Value) (x : DataW H × List MemPlace) (h : DataW.trod enc Tryz.prog w base sp hd fuel 32 cs = some x) : ∃ v : GOp, RdL (Pw w) (opC v) cs ∧ ones cs ∧ True := by
  obtain ⟨n, rfl, hl, hf⟩ := open_st Tryz.underlying32 h
  rw [show Tryz.prog.cellsOf 32 = 15 by kernel_rfl] at hl
  rcases cs with _ | ⟨c0, _ | ⟨c1, _ | ⟨c2, _ | ⟨c3, _ | ⟨c4, _ | ⟨c5, _ | ⟨c6, _ | ⟨c7, _ | ⟨c8, _ | ⟨c9, _ | ⟨c10, _ | ⟨c11, _ | ⟨c12, _ | ⟨c13, _ | ⟨c14, _ | ⟨c15, cs⟩⟩⟩⟩⟩⟩⟩⟩⟩⟩⟩⟩⟩⟩⟩⟩ <;> simp at hl
  obtain ⟨y0, g0⟩ := open_fd hf 0 rfl 3 0 1 rfl rfl (by kernel_rfl) (cs' := [c0]) rfl
  obtain ⟨y1, g1⟩ := open_fd hf 1 rfl 9 1 1 rfl rfl (by kernel_rfl) (cs' := [c1]) rfl
  obtain ⟨y2, g2⟩ := open_fd hf 2 rfl 24 2 2 rfl rfl (by kernel_rfl) (cs' := [c2, c3]) rfl
  obtain ⟨y3, g3⟩ := open_fd hf 3 rfl 25 4 1 rfl rfl (by kernel_rfl) (cs' := [c4]) rfl
  obtain ⟨y4, g4⟩ := open_fd hf 4 rfl 30 5 8 rfl rfl (by kernel_rfl) (cs' := [c5, c6, c7, c8, c9, c10, c11, c12]) rfl
  obtain ⟨y5, g5⟩ := open_fd hf 5 rfl 3 13 1 rfl rfl (by kernel_rfl) (cs' := [c13]) rfl
  obtain ⟨y6, g6⟩ := open_fd hf 6 rfl 3 14 1 rfl rfl (by kernel_rfl) (cs' := [c14]) rfl
  obtain ⟨k, e0, _⟩ := open_i Tryz.underlying3 g0
  obtain ⟨s, e1, _⟩ := open_s Tryz.underlying9 g1
  obtain ⟨t, r2, o2, _⟩ := open_T _ _ _ g2
  obtain ⟨l, u, e3, r3, o3, _⟩ := open_sl Tryz.underlying25 exC RgE 8 (by kernel_rfl) (by decide) (fun _ => rfl) (fun m hm cs x hx => open_X m cs x hx) g3
  obtain ⟨ky, r4, o4, _⟩ := open_X _ _ _ g4
  obtain ⟨fo, e5, _⟩ := open_i Tryz.underlying3 g5
  obtain ⟨nn, e6, _⟩ := open_i Tryz.underlying3 g6
  simp only [List.cons.injEq, and_true] at e0 e1 e3 e5 e6
  subst e0 e1 e3 e5 e6
  refine ⟨⟨k, s, t, l, ky, fo, nn⟩, ?_, ?_, trivial⟩
  · rw [← enxs_map] at r3
    simp only [RdL] at r2 r4
    simp only [RdL]
    exact ⟨by simp [Rd], by simp [Rd], r2.1, r2.2.1, r3, r4.1, r4.2.1, r4.2.2.1, r4.2.2.2.1, r4.2.2.2.2.1, r4.2.2.2.2.2.1, r4.2.2.2.2.2.2.1, r4.2.2.2.2.2.2.2.1, by simp [Rd], by simp [Rd], trivial⟩
  · intro u hu
    simp only [List.mem_cons, List.not_mem_nil, or_false] at hu
    rcases hu with rfl | rfl | rfl | rfl | rfl | rfl | rfl | rfl | rfl | rfl | rfl | rfl | rfl | rfl | rfl
    · rfl
    · rfl
    · exact o2 _ (by simp)
    · exact o2 _ (by simp)
    · exact o3
    · exact o4 _ (by simp)
    · exact o4 _ (by simp)
    · exact o4 _ (by simp)
    · exact o4 _ (by simp)
    · exact o4 _ (by simp)
    · exact o4 _ (by simp)
    · exact o4 _ (by simp)
    · exact o4 _ (by simp)
    · rfl
    · rfl
end
end Go.Proofs.YtbcjcekoonebiaaGreat.Tl

set_option linter.unusedVariables false
namespace Go.Proofs.YtbcjcekoonebiaaGreat.Tl
open Go Go.RowKit
theorem vmApply_walk (a0 : GOp) (a1 : Val) (w : World) (v0 v1 : Value) (r0 : Rd (Pw w) (.agg (opC a0)) v0) (r1 : Rd (Pw w) (.agg (valC a1)) v1) : Calls Tryz.prog 3 #[v0, v1] w fun e w' => e = .returned (.bool true) ∧ Below w.heap.size w w' := by
  obtain ⟨n, hn⟩ := (s1000 a0 a1).get
  exact (w_f1000 n a0 a1 true hn).law w _ ⟨r0, r1, trivial⟩
end Go.Proofs.YtbcjcekoonebiaaGreat.Tl
