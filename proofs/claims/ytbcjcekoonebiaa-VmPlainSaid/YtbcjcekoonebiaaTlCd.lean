/- VmPlain, as a plain law. Conditions: none. -/
import Derived.Test.YtbcjcekoonebiaaTlCc
import Derived.Test.YtbcjcekoonebiaaTlMg
import Derived.Test.YtbcjcekoonebiaaTlPk
set_option linter.unusedVariables false
set_option linter.unusedSimpArgs false
namespace Go.Proofs.Ytbcjcekoonebiaa.Tl
open Go Go.RowKit

theorem e50 (v : Val) (h : v.t.length ≤ 0) : ∃ c, Ev (fun n => s_f50 n v) c := by
  have ht : v.t = [] := List.eq_nil_of_length_eq_zero (by omega)
  have h118 : ∃ c, Ev (fun n => s_f118 n (v.t.length : Int) 0) c := by
    unfold s_f118
    rw [ht]
    exact ⟨1, Ev.t rfl (Ev.mk _)⟩
  obtain ⟨c8, h8⟩ := h118
  have h84 : ∃ c, Ev (fun n => s_f84 n v 0) c := by
    cases c1 : (decide (v.kind < 1)) || (decide (v.kind > 4)) with
    | true => exact ⟨5, Ev.succ (by simp only [s_f84]; exact Ev.t c1 (Ev.mk _))⟩
    | false =>
      have h119 : Ev (fun n => s_f119 n v) (((((v.kind != 1) && (v.i != 0)) || ((v.kind != 2) && v.b)) || ((v.kind != 3) && (v.s.data.toList != []))) || ((v.kind != 4) && (decide ((v.t.length : Int) > 0)))) := by unfold s_f119; exact Ev.mk _
      cases c2 : ((((v.kind != 1) && (v.i != 0)) || ((v.kind != 2) && v.b)) || ((v.kind != 3) && (v.s.data.toList != []))) || ((v.kind != 4) && (decide ((v.t.length : Int) > 0))) with
      | true => rw [c2] at h119; exact ⟨2, Ev.succ (by simp only [s_f84]; exact Ev.f c1 (Ev.bind h119 (Ev.t rfl (Ev.mk _))))⟩
      | false =>
        rw [c2] at h119
        cases c3 : decide ((v.s.size : Int) > 255) with
        | true => exact ⟨4, Ev.succ (by simp only [s_f84]; exact Ev.f c1 (Ev.bind h119 (Ev.f rfl (Ev.t c3 (Ev.mk _)))))⟩
        | false =>
          cases c4 : v.kind != 4 with
          | true => exact ⟨0, Ev.succ (by simp only [s_f84]; exact Ev.f c1 (Ev.bind h119 (Ev.f rfl (Ev.f c3 (Ev.t c4 (Ev.mk _))))))⟩
          | false => exact ⟨c8, Ev.succ (by simp only [s_f84]; exact Ev.f c1 (Ev.bind h119 (Ev.f rfl (Ev.f c3 (Ev.f c4 (Ev.bind h8 (Ev.succ (by simp only [s_f84_l1]; exact Ev.f (by rw [ht]; rfl) (Ev.mk _)))))))))⟩
  obtain ⟨c, hc⟩ := h84
  exact ⟨c, by unfold s_f50; exact Ev.ret (g := id) hc⟩
/-- What a program's front comes to. -/
def Pre (x : Val) (P : List GInst) (st out : List Val) : Prop :=
  ∀ (s : List GInst) (R : List Val × Int), (P ++ s).length ≤ 1000000 → (∀ v, Ev (RunF (P ++ s) x P.length st out v) R) → ∀ v, Ev (RunF (P ++ s) x 0 [] [] v) R
theorem Pre.nil (x : Val) : Pre x [] [] [] := fun s R _ h => h
theorem Pre.step {x : Val} {P : List GInst} {st out st' out' : List Val} {i : GInst} (h : Pre x P st out) (c1 : (i.f0.data.toList == [114, 101, 116]) = false) (c2 : (i.f0.data.toList == [106, 109, 112]) = false) (c3 : (i.f0.data.toList == [106, 102]) = false) (hs : stepM i x st out = some (st', out', 0)) (h1 : st.length + 1 ≤ 1000000) (h2 : out.length + st.length ≤ 1000000) :
    Pre x (P ++ [i]) st' out' := fun s R hl hk => by
  rw [List.append_assoc] at hl hk ⊢
  refine h ([i] ++ s) R hl (run_step (i := i) (by simp) c1 c2 c3 hs h1 h2 hl fun v => ?_)
  have := hk v
  simpa using this
theorem Pre.run {x : Val} {P : List GInst} {st out : List Val} (h : Pre x P st out) (hl : P.length + 1 ≤ 1000000) : Ev (fun n => s_f40 n (P ++ [iRet]) x) (out, 0) :=
  e40 (h [iRet] (out, 0) (by simpa using hl) (run_ret (i := iRet) (by simp) rfl st out) 0)
theorem e14_6 (l : List Val) (k : Nat) (hk : k ≤ l.length) (hl : l.length ≤ 30) : ∀ (m i : Nat), i + m = k → Ev (fun n => s_f14_l6 n l (k : Int) (l.take k, 0) (i : Int)) true
  | 0, i, h => by
    refine Ev.succ ?_
    simp only [s_f14_l6]
    exact Ev.f (decide_eq_false (by omega)) (Ev.mk _)
  | m + 1, i, h => by
    refine Ev.succ ?_
    simp only [s_f14_l6, Int.toNat_natCast]
    have hlt : i < l.length := by omega
    have e1 : l[i]? = some l[i] := List.getElem?_eq_getElem hlt
    refine Ev.t (decide_eq_true (by omega)) (Ev.g (Int.natCast_nonneg i) (Ev.bindc (a := l[i]) (by rw [List.getElem?_take, if_pos (by omega)]; exact e1) (Ev.g (Int.natCast_nonneg i) (Ev.bindc e1 (Ev.f (by rw [cmpV_self]; rfl) ?_)))))
    rw [wrap64 (by omega) (by omega)]
    exact e14_6 l k hk hl m (i + 1) (by omega)
theorem e14_l4 (l : List Val) (ps : List Int) (q : Bool) (k0 i c : Nat) (hc : IntKind.i64.wrap ((l.length : Int) - (k0 : Int)) = (c : Int)) (hcl : k0 + c ≤ l.length) (hl : l.length ≤ 30) (hi : i ≤ 40)
    (O : ∀ P', Pre (iV 0) P' [] (l.take (k0 + c)) → P'.length ≤ 2 * (k0 + c) + 2 * (i + 1) → Ev (fun n => s_f14_l1 n l ps q P' ((k0 + c : Nat) : Int) ((i + 1 : Nat) : Int)) true) :
    ∀ (m j : Nat) (P : List GInst), j + m = c → Pre (iV 0) P ((l.drop k0).take j) (l.take k0) → P.length ≤ 2 * (k0 + j) + 2 * i → Ev (fun n => s_f14_l4 n l ps q (k0 : Int) (i : Int) P ((k0 + j : Nat) : Int) (j : Int)) true
  | 0, j, P, h, hP, hPl => by
    have hj : j = c := by omega
    subst hj
    have hst : ((l.drop k0).take j).length = j := by rw [List.length_take, List.length_drop]; omega
    refine Ev.succ ?_
    simp only [s_f14_l4]
    rw [hc]
    refine Ev.f (decide_eq_false (by omega)) (Ev.g (by omega) ?_)
    rw [wrap64 (by omega) (by omega)]
    refine O _ ?_ (by simp; omega)
    refine (hP.step (i := iEmit (j : Int)) (st' := []) (out' := l.take (k0 + j)) rfl rfl rfl ?_ (by omega) (by rw [hst, List.length_take]; omega))
    have e1 : stepM (iEmit (j : Int)) (iV 0) ((l.drop k0).take j) (l.take k0) = (if 0 ≤ (j : Int) ∧ (j : Int).toNat ≤ ((l.drop k0).take j).length then some (((l.drop k0).take j).take (((l.drop k0).take j).length - (j : Int).toNat), l.take k0 ++ ((l.drop k0).take j).drop (((l.drop k0).take j).length - (j : Int).toNat), 0) else none) := rfl
    rw [e1, if_pos ⟨by omega, by rw [hst]; omega⟩, hst, Int.toNat_natCast, Nat.sub_self, List.take_zero, List.drop_zero, ← List.take_add]
  | m + 1, j, P, h, hP, hPl => by
    have hlt : k0 + j < l.length := by omega
    have e1 : l[k0 + j]? = some l[k0 + j] := List.getElem?_eq_getElem hlt
    have e0 : l[0]? = some l[0] := List.getElem?_eq_getElem (by omega)
    have hst : ((l.drop k0).take j).length = j := by rw [List.length_take, List.length_drop]; omega
    refine Ev.succ ?_
    simp only [s_f14_l4]
    rw [hc]
    simp only [Int.toNat_natCast]
    refine Ev.t (decide_eq_true (by omega)) (Ev.g (Int.natCast_nonneg _) (Ev.bindc e1 ?_))
    cases c1 : decide ((l[k0 + j].t.length : Int) > 0) with
    | true => exact Ev.t rfl (Ev.mk _)
    | false =>
      obtain ⟨c, hck⟩ := e50 l[k0 + j] (by have := of_decide_eq_false c1; omega)
      refine Ev.f rfl (Ev.g (Int.natCast_nonneg _) (Ev.bindc e1 (Ev.bind hck ?_)))
      cases c2 : c != 0 with
      | true => exact Ev.t rfl (Ev.mk _)
      | false =>
        refine Ev.f rfl (Ev.g (Int.natCast_nonneg _) (Ev.bindc e1 (Ev.bindc e0 ?_)))
        cases c3 : l[k0 + j].kind != l[0].kind with
        | true => exact Ev.t rfl (Ev.mk _)
        | false =>
          refine Ev.f rfl (Ev.g (Int.natCast_nonneg _) (Ev.bindc e1 (Ev.g (by omega) ?_)))
          rw [wrap64 (by omega) (by omega), wrap64 (by omega) (by omega)]
          refine e14_l4 l ps q k0 i _ hc hcl hl hi O m (j + 1) _ (by omega) ?_ (by simp; omega)
          refine hP.step (i := iPush l[k0 + j]) rfl rfl rfl ?_ (by omega) (by rw [hst, List.length_take]; omega)
          have e2 : (l.drop k0).take (j + 1) = (l.drop k0).take j ++ [l[k0 + j]] := by
            rw [List.take_add_one, List.getElem?_drop, e1]; rfl
          rw [e2]
          rfl
theorem e14_l5 (l : List Val) (ps : List Int) (q : Bool) (k0 i c : Nat) (x : Int) (hc : IntKind.i64.wrap (1 + (IntKind.i64.wrap (x.tmod 4))) = (c : Int)) (hcl : k0 + c ≤ l.length) (hl : l.length ≤ 30) (hi : i ≤ 40)
    (O : ∀ P', Pre (iV 0) P' [] (l.take (k0 + c)) → P'.length ≤ 2 * (k0 + c) + 2 * (i + 1) → Ev (fun n => s_f14_l1 n l ps q P' ((k0 + c : Nat) : Int) ((i + 1 : Nat) : Int)) true) :
    ∀ (m j : Nat) (P : List GInst), j + m = c → Pre (iV 0) P ((l.drop k0).take j) (l.take k0) → P.length ≤ 2 * (k0 + j) + 2 * i → Ev (fun n => s_f14_l5 n l ps q (i : Int) x P ((k0 + j : Nat) : Int) (j : Int)) true
  | 0, j, P, h, hP, hPl => by
    have hj : j = c := by omega
    subst hj
    have hst : ((l.drop k0).take j).length = j := by rw [List.length_take, List.length_drop]; omega
    refine Ev.succ ?_
    simp only [s_f14_l5]
    rw [hc]
    refine Ev.f (decide_eq_false (by omega)) (Ev.g (by omega) ?_)
    rw [wrap64 (by omega) (by omega)]
    refine O _ ?_ (by simp; omega)
    refine (hP.step (i := iEmit (j : Int)) (st' := []) (out' := l.take (k0 + j)) rfl rfl rfl ?_ (by omega) (by rw [hst, List.length_take]; omega))
    have e1 : stepM (iEmit (j : Int)) (iV 0) ((l.drop k0).take j) (l.take k0) = (if 0 ≤ (j : Int) ∧ (j : Int).toNat ≤ ((l.drop k0).take j).length then some (((l.drop k0).take j).take (((l.drop k0).take j).length - (j : Int).toNat), l.take k0 ++ ((l.drop k0).take j).drop (((l.drop k0).take j).length - (j : Int).toNat), 0) else none) := rfl
    rw [e1, if_pos ⟨by omega, by rw [hst]; omega⟩, hst, Int.toNat_natCast, Nat.sub_self, List.take_zero, List.drop_zero, ← List.take_add]
  | m + 1, j, P, h, hP, hPl => by
    have hlt : k0 + j < l.length := by omega
    have e1 : l[k0 + j]? = some l[k0 + j] := List.getElem?_eq_getElem hlt
    have e0 : l[0]? = some l[0] := List.getElem?_eq_getElem (by omega)
    have hst : ((l.drop k0).take j).length = j := by rw [List.length_take, List.length_drop]; omega
    refine Ev.succ ?_
    simp only [s_f14_l5]
    rw [hc]
    simp only [Int.toNat_natCast]
    refine Ev.t (decide_eq_true (by omega)) (Ev.g (Int.natCast_nonneg _) (Ev.bindc e1 ?_))
    cases c1 : decide ((l[k0 + j].t.length : Int) > 0) with
    | true => exact Ev.t rfl (Ev.mk _)
    | false =>
      obtain ⟨c, hck⟩ := e50 l[k0 + j] (by have := of_decide_eq_false c1; omega)
      refine Ev.f rfl (Ev.g (Int.natCast_nonneg _) (Ev.bindc e1 (Ev.bind hck ?_)))
      cases c2 : c != 0 with
      | true => exact Ev.t rfl (Ev.mk _)
      | false =>
        refine Ev.f rfl (Ev.g (Int.natCast_nonneg _) (Ev.bindc e1 (Ev.bindc e0 ?_)))
        cases c3 : l[k0 + j].kind != l[0].kind with
        | true => exact Ev.t rfl (Ev.mk _)
        | false =>
          refine Ev.f rfl (Ev.g (Int.natCast_nonneg _) (Ev.bindc e1 (Ev.g (by omega) ?_)))
          rw [wrap64 (by omega) (by omega), wrap64 (by omega) (by omega)]
          refine e14_l5 l ps q k0 i _ x hc hcl hl hi O m (j + 1) _ (by omega) ?_ (by simp; omega)
          refine hP.step (i := iPush l[k0 + j]) rfl rfl rfl ?_ (by omega) (by rw [hst, List.length_take]; omega)
          have e2 : (l.drop k0).take (j + 1) = (l.drop k0).take j ++ [l[k0 + j]] := by
            rw [List.take_add_one, List.getElem?_drop, e1]; rfl
          rw [e2]
          rfl
theorem e14_1 (l : List Val) (ps : List Int) (q : Bool) (hl : l.length ≤ 30) (hps : ps.length ≤ 40) (hr : ∀ x ∈ ps, 0 ≤ x ∧ x ≤ 255) : ∀ (m i k : Nat) (P : List GInst), i + m = ps.length → Pre (iV 0) P [] (l.take k) → k ≤ l.length → P.length ≤ 2 * k + 2 * i → Ev (fun n => s_f14_l1 n l ps q P (k : Int) (i : Int)) true := by
  intro m
  induction m with
  | zero =>
    intro i k P h hP hk hPl
    refine Ev.succ ?_
    simp only [s_f14_l1]
    refine Ev.f (by rw [decide_eq_false (by omega : ¬ ((i : Int) < (ps.length : Int)))]; rfl) (Ev.g (by omega) (Ev.bind (hP.run (by omega)) (Ev.f ?_ (e14_6 l k hk hl k 0 (by omega)))))
    simp [List.length_take, Nat.min_eq_left hk]
  | succ m ih =>
    intro i k P h hP hk hPl
    refine Ev.succ ?_
    simp only [s_f14_l1]
    rcases Nat.lt_or_ge k l.length with hlt | hge
    · have hi : i < ps.length := by omega
      have e1 : ps[i]? = some ps[i] := List.getElem?_eq_getElem hi
      obtain ⟨r0, r1⟩ := hr ps[i] (List.getElem_mem hi)
      refine Ev.t (by rw [decide_eq_true (by omega : (i : Int) < (ps.length : Int)), decide_eq_true (by omega : (k : Int) < (l.length : Int))]; rfl) (Ev.g (Int.natCast_nonneg i) (Ev.bindc (by rw [Int.toNat_natCast]; exact e1) ?_))
      have w : IntKind.i64.wrap (1 + IntKind.i64.wrap (ps[i].tmod 4)) = 1 + ps[i] % 4 := by
        rw [Int.tmod_eq_emod_of_nonneg r0, wrap64 (a := ps[i] % 4) (by omega) (by omega), wrap64 (by omega) (by omega)]
      have w2 : IntKind.i64.wrap ((l.length : Int) - (k : Int)) = ((l.length - k : Nat) : Int) := by rw [wrap64 (by omega) (by omega)]; omega
      cases hc : decide (IntKind.i64.wrap (1 + IntKind.i64.wrap (ps[i].tmod 4)) > IntKind.i64.wrap ((l.length : Int) - (k : Int))) with
      | true =>
        refine Ev.t rfl ?_
        have := e14_l4 l ps q k i (l.length - k) w2 (by omega) hl (by omega) (fun P' a b => ih (i + 1) (k + (l.length - k)) P' (by omega) a (by omega) b) (l.length - k) 0 P (by omega) (by simpa using hP) (by omega)
        simpa using this
      | false =>
        refine Ev.f rfl ?_
        have hc2 := of_decide_eq_false hc
        rw [w, w2] at hc2
        have := e14_l5 l ps q k i (1 + ps[i] % 4).toNat ps[i] (by rw [w]; omega) (by omega) hl (by omega) (fun P' a b => ih (i + 1) (k + (1 + ps[i] % 4).toNat) P' (by omega) a (by omega) b) (1 + ps[i] % 4).toNat 0 P (by omega) (by simpa using hP) (by omega)
        simpa using this
    · refine Ev.f (by rw [decide_eq_false (by omega : ¬ ((k : Int) < (l.length : Int))), Bool.and_false]) (Ev.g (by omega) (Ev.bind (hP.run (by omega)) (Ev.f ?_ (e14_6 l k hk hl k 0 (by omega)))))
      simp [List.length_take, Nat.min_eq_left hk]
theorem s14 (l : List Val) (ps : List Int) (hr : ∀ x ∈ ps, 0 ≤ x ∧ x ≤ 255) : Ev (fun n => s_f14 n l ps) true := by
  unfold s_f14
  refine Ev.bind e36 (Ev.f rfl ?_)
  cases hc : (decide ((l.length : Int) > 30)) || (decide ((ps.length : Int) > 40)) with
  | true => exact Ev.t rfl (Ev.mk _)
  | false =>
    have c1 := of_decide_eq_false (or_f hc).1
    have c2 := of_decide_eq_false (or_f hc).2
    exact Ev.f rfl (e14_1 l ps true (by omega) (by omega) hr ps.length 0 0 [] (by omega) (Pre.nil _) (Nat.zero_le _) (by simp))
end Go.Proofs.Ytbcjcekoonebiaa.Tl
