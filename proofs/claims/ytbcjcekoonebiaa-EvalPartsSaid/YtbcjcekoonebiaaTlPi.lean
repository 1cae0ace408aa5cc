/- EvalParts, as a plain law. Conditions: none. -/
import Derived.Test.YtbcjcekoonebiaaTlXp
import Derived.Test.YtbcjcekoonebiaaTlPe
set_option linter.unusedVariables false
set_option linter.unusedSimpArgs false
namespace Go.Proofs.Ytbcjcekoonebiaa.Tl
open Go Go.RowKit

abbrev atK (k : Nat) : Ex := .mk ⟨#[97, 116]⟩ zeroV (k : Int) [.mk ⟨#[120]⟩ zeroV 0 []]
abbrev tupK (l : List Val) : Val := .mk 4 0 false ⟨#[]⟩ l
theorem ev_at {l : List Val} {k : Nat} {x : Val} (h : l[k]? = some x) : evalS (atK k) (tupK l) = some (x, 0) := by
  have h1 : ∀ T : Val, evalS (atK k) T = (if 0 ≤ (k : Int) then (match T.t[(k : Int).toNat]? with | some w => some (w, (0 : Int)) | none => none) else none) := fun T => rfl
  rw [h1, if_pos (Int.natCast_nonneg k), Int.toNat_natCast]
  simp only [Val.t, h]
theorem all_ats (l : List Val) : ∀ (r : List Val) (j : Nat), l.drop j = r → allS ((List.range' j r.length).map atK) (tupK l) = some (r, 0)
  | [], j, h => rfl
  | x :: r, j, h => by
    obtain ⟨_, hx, hr⟩ := drop_c h
    have ih := all_ats l r (j + 1) hr
    simp only [List.length_cons, List.range'_succ, List.map_cons, allS, ev_at hx, if_true, ih]
theorem ev_tup (l : List Val) (h0 : l ≠ []) (hl : l.length ≤ 8) : evalS (.mk ⟨#[116, 117, 112]⟩ zeroV 0 ((List.range l.length).map atK)) (tupK l) = some (tupK l, 0) := by
  have h1 := all_ats l l 0 rfl
  rw [← List.range_eq_range'] at h1
  have e : evalS (.mk ⟨#[116, 117, 112]⟩ zeroV 0 ((List.range l.length).map atK)) (tupK l) = (match if ((List.range l.length).map atK).length ≤ 1000000 then allS ((List.range l.length).map atK) (tupK l) else none with
      | none => none
      | some (l, f) => if f = 0 then applyS ⟨#[116, 117, 112]⟩ 0 l else some (zeroV, f)) := rfl
  rw [e, if_pos (by simp; omega), h1]
  cases l with
  | nil => exact absurd rfl h0
  | cons x r => simp [applyS]; simp at hl; omega
theorem ev_eqx (E : Ex) (T : Val) (h : evalS E T = some (T, 0)) : evalS (.mk ⟨#[101, 113]⟩ zeroV 0 [E, .mk ⟨#[120]⟩ zeroV 0 []]) T = some (.mk 2 0 true ⟨#[]⟩ [], 0) := by
  have hx : evalS (.mk ⟨#[120]⟩ zeroV 0 []) T = some (T, 0) := rfl
  have e : evalS (.mk ⟨#[101, 113]⟩ zeroV 0 [E, .mk ⟨#[120]⟩ zeroV 0 []]) T = (match allS [E, .mk ⟨#[120]⟩ zeroV 0 []] T with
      | none => none
      | some (l, f) => if f = 0 then applyS ⟨#[101, 113]⟩ 0 l else some (zeroV, f)) := rfl
  rw [e]
  simp [allS, h, hx, applyS, bothS, cmpV_self]

theorem e7_2 (l : List Val) (h0 : l ≠ []) (hl : l.length ≤ 8) : ∀ (r : List Val) (k : Nat), l.drop k = r → k ≤ l.length → Ev (fun n => s_f7_l2 n l (tupK l) k ((List.range k).map atK)) true
  | [], k, h, hk => by
    have hle := drop_n h
    have : k = l.length := by omega
    subst this
    refine Ev.succ ?_
    simp only [s_f7_l2]
    refine Ev.f (cj_f (Nat.le_refl _)) (Ev.bindc (ev_tup l h0 hl) (Ev.bindc (ev_eqx _ _ (ev_tup l h0 hl)) ((Ev.mk _).congr ?_)))
    simp [cmpV_self, Val.b]
    rfl
  | x :: r, k, h, hk => by
    obtain ⟨hlt, hx, hr⟩ := drop_c h
    refine Ev.succ ?_
    simp only [s_f7_l2]
    refine Ev.t (cj_t hlt) (Ev.bindc (ev_at hx) (Ev.f rfl (Ev.bindc hx (Ev.f (by simp [cmpV_self]) (Ev.g (by simp; omega) ?_)))))
    have := e7_2 l h0 hl r (k + 1) hr (by omega)
    rw [List.range_succ, List.map_append] at this
    exact this
theorem e7_1 (l : List Val) (h0 : l ≠ []) (hl : l.length ≤ 8) : ∀ (r : List Val) (k : Nat), l.drop k = r → (∀ x ∈ l.take k, BdV x) → Ev (fun n => s_f7_l1 n l k) true
  | [], k, h, hb => by
    refine Ev.succ ?_
    simp only [s_f7_l1]
    have hle := drop_n h
    rw [List.take_of_length_le hle] at hb
    have hbd : BdV (tupK l) := by
      have : ∀ r : List Val, (∀ x ∈ r, BdV x) → BdVs r := by
        intro r
        induction r with
        | nil => intro _; trivial
        | cons x r ih => intro h; exact ⟨h x (by simp), ih fun y hy => h y (by simp [hy])⟩
      exact ⟨by omega, this l hb⟩
    have ht : tupS l = some (tupK l) := by
      cases l with
      | nil => exact absurd rfl h0
      | cons x r => simp [tupS]; simp at hl; omega
    refine Ev.f (cj_f hle) (Ev.bindc ht (Ev.bind (e22 _ hbd) (Ev.bind (e34 _) ?_)))
    cases hc : ckV (tupK l) 0 != 0 with
    | true => exact Ev.t rfl (Ev.mk _)
    | false => exact Ev.f rfl (e7_2 l h0 hl l 0 rfl (Nat.zero_le _))
  | x :: r, k, h, hb => by
    obtain ⟨hlt, hx, hr⟩ := drop_c h
    refine Ev.succ ?_
    simp only [s_f7_l1]
    refine Ev.t (cj_t hlt) (Ev.bindc hx ?_)
    rcases e18 x with ⟨hbx, _, hg⟩ | hg
    · refine Ev.bind hg (Ev.f rfl (e7_1 l h0 hl r (k + 1) hr fun y hy => ?_))
      rw [List.take_add_one, hx] at hy
      rcases List.mem_append.1 hy with hy | hy
      · exact hb y hy
      · simp at hy; subst hy; exact hbx
    · exact Ev.bind hg (Ev.t rfl (Ev.mk _))
theorem s7 (l : List Val) : Ev (fun n => s_f7 n l) true := by
  unfold s_f7
  refine Ev.f rfl ?_
  cases hc : (decide ((l.length : Int) < 1)) || (decide ((l.length : Int) > 8)) with
  | true => exact Ev.t rfl (Ev.mk _)
  | false =>
    have c1 := of_decide_eq_false (or_f hc).1
    have c2 := of_decide_eq_false (or_f hc).2
    exact Ev.f rfl (e7_1 l (by rintro rfl; simp at c1) (by omega) l 0 rfl (by simp))
end Go.Proofs.Ytbcjcekoonebiaa.Tl
