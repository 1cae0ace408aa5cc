/- The tree logic, part I: regions that draw their order: one walk in the text's order serves every order. Conditions: none. -/
import Derived.Test.YtbcjcekoonebiaaTlH
set_option linter.unusedVariables false
set_option linter.unusedSimpArgs false
namespace Go.Proofs.Ytbcjcekoonebiaa.Tl
open Go Go.RowKit

theorem OpS.congr {P : Program} {o : Oper} {ρ ρ' : Operand → Option AV} {rd up : List (Nat × AObj)} {v : AV} (h : OpS P o ρ rd up v) (he : ∀ x ∈ o.op.operands, ρ x = ρ' x) : OpS P o ρ' rd up v :=
  fun C a next Q hI hρ hrd hup hk => h C a next Q hI (fun x hx y hy => hρ x hx y (by rw [← he x hx]; exact hy)) hrd hup hk

theorem ev_step {s : St} {d : Option Tmp} {v : AV} {up : List (Nat × AObj)} {x : Operand} (h : ∀ t, d = some t → x ≠ .tmp t) : (s.step d v up).ev x = s.ev x := by
  cases x with
  | tmp t =>
    simp only [St.ev, St.step, putE]
    cases d with
    | none => rfl
    | some e => exact upd_ne _ _ (fun q => h e rfl (by rw [q]))
  | _ => rfl

def disj (a b : List (Nat × AObj)) : Prop := ∀ p ∈ a, ∀ q ∈ b, p.1 ≠ q.1

theorem updL_other {H : Nat → Option AObj} {up : List (Nat × AObj)} {id : Nat} (h : ∀ p ∈ up, p.1 ≠ id) : updL H up id = H id := updL_ids h

theorem updL_comm {H : Nat → Option AObj} : ∀ {a b : List (Nat × AObj)}, disj a b → updL (updL H a) b = updL (updL H b) a := by
  intro a b hd
  funext id
  by_cases ha : ∃ p ∈ a, p.1 = id
  · obtain ⟨p, hp, rfl⟩ := ha
    rw [updL_ids (fun q hq e => hd p hp q hq e.symm)]
    exact updL_congr (by rw [updL_ids (fun q hq e => hd p hp q hq e.symm)])
  · have ha' : ∀ p ∈ a, p.1 ≠ id := fun p hp e => ha ⟨p, hp, e⟩
    rw [updL_ids ha']
    exact updL_congr (updL_ids ha')

theorem step_comm {s : St} {d e : Option Tmp} {u v : AV} {a b : List (Nat × AObj)} (h : ∀ t, d = some t → e ≠ some t) (hd : disj a b) : (s.step d u a).step e v b = (s.step e v b).step d u a := by
  unfold St.step
  simp only [St.mk.injEq, true_and]
  refine ⟨?_, updL_comm hd⟩
  cases d with
  | none => rfl
  | some d =>
    cases e with
    | none => rfl
    | some e =>
      have hne : d ≠ e := fun q => h d rfl (by rw [q])
      funext i
      simp only [putE, upd]
      by_cases h1 : i = d <;> by_cases h2 : i = e <;> simp_all

def Real (s : St) : Prop := ∃ C a, Rel C s a

theorem Real.ptr {s : St} (h : Real s) {x : Operand} {id : Nat} (hx : Leads (s.ev x) id) : ∃ o, s.H id = some o := by
  obtain ⟨C, a, hr⟩ := h
  rcases hx with ⟨off, hx⟩ | ⟨ver, k, hx⟩
  rotate_left
  · have := hr.ev hx
    simp only [Rd] at this
    obtain ⟨_, e, sz, cur, rows, h1, _⟩ := this
    exact ⟨_, by rw [← hr.H]; exact h1⟩
  have := hr.ev hx
  simp only [Rd] at this
  obtain ⟨b, h1, _⟩ := this
  obtain ⟨o, h2, _⟩ := hr.inv.obj id _ h1
  exact ⟨o, by rw [← hr.H]; exact h2⟩

section
variable {P : Program} {ops : Array Oper} {M : Nat → Mk} {Q : St → Prop}

def qA (P : Program) (ops : Array Oper) (M : Nat → Mk) (i : Nat) (K : St → Prop) (s : St) : Prop :=
  match ops[i]? with
  | none => K s
  | some o => (∀ d, o.dst = some d → d < s.n) ∧ ∃ b, gdec ops s.env o = some b ∧
      (b = true → ∃ rd up v, OpA P M i o s rd up v ∧ K (s.step o.dst v up)) ∧ (b = false → K (s.step o.dst (.tup []) []))

theorem qA_mono {i : Nat} {K K' : St → Prop} {s : St} (h : ∀ s, K s → K' s) (hq : qA P ops M i K s) : qA P ops M i K' s := by
  unfold qA at *
  split
  · rename_i ho; simp only [ho] at hq; exact h _ hq
  · rename_i o ho
    simp only [ho] at hq
    obtain ⟨h1, b, h2, h3, h4⟩ := hq
    exact ⟨h1, b, h2, fun e => let ⟨rd, up, v, k1, k2⟩ := h3 e; ⟨rd, up, v, k1, h _ k2⟩, fun e => h _ (h4 e)⟩

def anyA (P : Program) (ops : Array Oper) (M : Nat → Mk) (Q : St → Prop) : Nat → Array Bool → St → Prop
  | 0, listed, s => Region.ready .any ops listed = [] ∧ Q s
  | fuel + 1, listed, s => (Region.ready .any ops listed = [] → Q s) ∧ ∀ i ∈ Region.ready .any ops listed, qA P ops M i (anyA P ops M Q fuel (listed.setIfInBounds i true)) s

theorem wpAny_of_anyA {S : Nat → Bool} {Q : Exit → St → Prop} : ∀ (fuel : Nat) (listed : Array Bool) (s : St) (C : Cx) (a : Act), anyA P ops M (Q .normal) fuel listed s → Rel C s a → wpAny P .any ops (Lift S C Q) fuel listed a C.w
  | 0, _, s, C, a, h, hr => ⟨h.1, s, C, h.2, hr, rfl, rfl, rfl, LeS.refl S C⟩
  | fuel + 1, listed, s, C, a, h, hr => by
    refine ⟨fun h0 => ⟨s, C, h.1 h0, hr, rfl, rfl, rfl, LeS.refl S C⟩, fun i hi => ?_⟩
    have hq := h.2 i hi
    unfold qA at hq
    unfold wpOp
    split
    · rename_i ho
      simp only [ho] at hq
      exact wpAny_of_anyA (S := S) fuel _ s C a hq hr
    · rename_i o ho
      simp only [ho] at hq
      obtain ⟨hd, b, hg, h1, h0⟩ := hq
      rw [hr.wanted hg]
      cases b with
      | true =>
        simp only [if_true]
        obtain ⟨rd, up, v, hop, hk⟩ := h1 rfl
        left
        refine hop.op C a _ _ hr.inv (fun x _ y hy => hr.ev hy) (fun p hp => ?_) (fun p hp => ?_) (fun C' u hI hle hw0 hok hH hG hup hv => ?_)
        · have := hop.hrd p hp
          exact ⟨by rw [hr.H]; exact this, hr.real _ _ this⟩
        · rw [hr.H]; exact hop.hup p hp
        · have hr' := hr.step hd hI hle hH hG hup hv
          exact wpAny_mono' (fun e a w h => h.later hw0 hok (hle.leS S)) _ _ _ _ (wpAny_of_anyA (S := S) fuel _ _ C' _ hk hr')
      | false =>
        simp only [Bool.false_eq_true, if_false]
        have hr' : Rel C (s.step o.dst (.tup []) []) (a.put o.dst undef) := hr.step hd hr.inv (Le.refl C) rfl (fun id u h => ⟨u, h⟩) (by simp) (by simp only [Rd]; exact ⟨#[], rfl, by simp [RdL]⟩)
        exact wpAny_of_anyA (S := S) fuel _ _ C _ (h0 rfl) hr'
where
  wpAny_mono' {P : Program} {ops : Array Oper} {Q Q' : Exit → Act → World → Prop} (hq : ∀ e a w, Q e a w → Q' e a w) : ∀ (fuel : Nat) (listed : Array Bool) (a : Act) (w : World), wpAny P .any ops Q fuel listed a w → wpAny P .any ops Q' fuel listed a w
    | 0, _, _, _, h => ⟨h.1, hq _ _ _ h.2⟩
    | fuel + 1, listed, a, w, h => by
      refine ⟨fun h0 => hq _ _ _ (h.1 h0), fun i hi => ?_⟩
      have h1 := h.2 i hi
      unfold wpOp at *
      split
      · rename_i ho; simp only [ho] at h1; exact wpAny_mono' hq fuel _ _ _ h1
      · rename_i o ho
        simp only [ho] at h1
        split
        · rename_i hw
          rw [if_pos hw] at h1
          rcases h1 with h1 | ⟨k1, a', w', k2⟩
          · exact .inl (wpList_of_AL.owp_mono (fun a w h => wpAny_mono' hq fuel _ a w h) hq h1)
          · exact .inr ⟨k1, a', w', hq _ _ _ k2⟩
        · rename_i hw
          rw [if_neg hw] at h1
          exact wpAny_mono' hq fuel _ _ _ h1

/-- What an operation yields, in a state. -/
inductive YA (P : Program) (ops : Array Oper) (M : Nat → Mk) (i : Nat) (o : Oper) (s : St) : List (Nat × AObj) → List (Nat × AObj) → AV → Prop
  | run {rd up v} : (∀ d, o.dst = some d → d < s.n) → gdec ops s.env o = some true → OpA P M i o s rd up v → YA P ops M i o s rd up v
  | skip : (∀ d, o.dst = some d → d < s.n) → gdec ops s.env o = some false → YA P ops M i o s [] [] (.tup [])

theorem YA.q {i : Nat} {o : Oper} {s : St} {rd up : List (Nat × AObj)} {v : AV} (hi : ops[i]? = some o) (h : YA P ops M i o s rd up v) {K : St → Prop} (hk : K (s.step o.dst v up)) : qA P ops M i K s := by
  unfold qA
  simp only [hi]
  cases h with
  | run h1 h2 h3 => exact ⟨h1, true, h2, fun _ => ⟨rd, up, v, h3, hk⟩, (fun h => by cases h)⟩
  | skip h1 h2 => exact ⟨h1, false, h2, (fun h => by cases h), fun _ => hk⟩
theorem YA.of_q {i : Nat} {o : Oper} {s : St} (hi : ops[i]? = some o) {K : St → Prop} (h : qA P ops M i K s) : ∃ rd up v, YA P ops M i o s rd up v ∧ K (s.step o.dst v up) := by
  unfold qA at h
  simp only [hi] at h
  obtain ⟨h1, b, h2, h3, h4⟩ := h
  cases b with
  | true => obtain ⟨rd, up, v, k1, k2⟩ := h3 rfl; exact ⟨rd, up, v, .run h1 h2 k1, k2⟩
  | false => exact ⟨[], [], .tup [], .skip h1 h2, h4 rfl⟩

theorem Real.step {i : Nat} {o : Oper} {s : St} {rd up : List (Nat × AObj)} {v : AV} (hr : Real s) (h : YA P ops M i o s rd up v) : Real (s.step o.dst v up) := by
  obtain ⟨C, a, hr⟩ := hr
  cases h with
  | skip h1 h2 => exact ⟨C, _, hr.step h1 hr.inv (Le.refl C) rfl (fun id u h => ⟨u, h⟩) (by simp) (by simp only [Rd]; exact ⟨#[], rfl, by simp [RdL]⟩ : Rd C (.tup []) undef)⟩
  | run h1 h2 hop =>
    have hw := hop.op C a (fun a' w' => ∃ C', Rel C' (s.step o.dst v up) a') (fun _ _ _ => False) hr.inv (fun x _ y hy => hr.ev hy) (fun p hp => by
      have := hop.hrd p hp
      exact ⟨by rw [hr.H]; exact this, hr.real _ _ this⟩) (fun p hp => by rw [hr.H]; exact hop.hup p hp) (fun C' u hI hle hw0 hok hH hG hup hv => ⟨C', hr.step h1 hI hle hH hG hup hv⟩)
    unfold Oper.wp at hw
    generalize (execOp a.eval o).run P C.w = r at hw
    have fin : ∀ a', (∃ C', Rel C' (s.step o.dst v up) a') → Real (s.step o.dst v up) := fun a' ⟨C', h⟩ => ⟨C', a', h⟩
    cases r with
    | ok n w' =>
      cases n <;> simp only [Oper.upon] at hw <;> try (exact fin _ hw)
      case enter f args =>
        obtain ⟨e, w'', fr, k1, _⟩ := hw []
        cases e with
        | returned v => exact fin _ k1
        | panicked c => exact k1.elim
        | outgrown => obtain ⟨_, _, k⟩ := k1; exact k.elim
      case row rw_ args =>
        obtain ⟨v, w'', k1, _⟩ := hw default []
        exact fin _ k1
      all_goals exact hw.elim
    | halt x w' => cases x <;> simp only [Oper.upon] at hw

/-- Two operations that may come up in either order. -/
def indep (ops : Array Oper) (M : Nat → Mk) (i : Nat) (oi : Oper) (j : Nat) (oj : Oper) : Bool :=
  oi.apart ops oj && ((!((M i).b && ((M j).b || isLoad oj.op || isNew oj.op)) && !((M j).b && (isLoad oi.op || isNew oi.op))) || (match (M i).c, (M j).c with | some a, some b => a.ids.all (fun x => !b.ids.contains x) || (match a.lk with | some q => b.kp.contains q | none => false) || (match b.lk with | some q => a.kp.contains q | none => false) | _, _ => false))

def indepO (ops : Array Oper) (M : Nat → Mk) (i : Nat) (oi : Oper) (j : Nat) (oj : Oper) : Bool :=
  oi.apart ops oj && ((!((M i).b && ((M j).b || isLoad oj.op || isNew oj.op)) && !((M j).b && (isLoad oi.op || isNew oi.op))) || (match (M i).c, (M j).c with | some a, some b => a.ids.all (fun x => !b.ids.contains x) | _, _ => false))

theorem gdec_step {o : Oper} {s : St} {d : Option Tmp} {v : AV} {up : List (Nat × AObj)} (h : ∀ t, d = some t → t ∉ o.looksAt ops) : gdec ops (s.step d v up).env o = gdec ops s.env o := by
  unfold gdec
  split
  · rfl
  · rename_i j want hg
    split
    · rfl
    · rename_i t ht
      have : (s.step d v up).env t = s.env t := by
        simp only [St.step, putE]
        cases d with
        | none => rfl
        | some e =>
          refine upd_ne _ _ (fun q => h e rfl ?_)
          simp only [Oper.looksAt, hg, ht]
          simp [q]
      rw [this]

theorem looks_operand {o : Oper} {t : Tmp} (h : Operand.tmp t ∈ o.op.operands) : t ∈ o.looksAt ops := by
  simp only [Oper.looksAt, List.mem_append, List.mem_filterMap]
  left
  exact ⟨.tmp t, by simpa using h, rfl⟩

theorem cellsAt_congr {H H' : Nat → Option AObj} {q : Nat × Nat × Nat} (h : H q.1 = H' q.1) : cellsAt H q = cellsAt H' q := by unfold cellsAt; rw [h]
theorem OpA.colT {i : Nat} {o : Oper} {s s' : St} {rd up : List (Nat × AObj)} {v : AV} (h : OpA P M i o s rd up v) (hev : ∀ x ∈ o.op.operands, s'.ev x = s.ev x) (h1 : ∀ p ∈ rd, s'.H p.1 = s.H p.1) (h2 : ∀ p ∈ up, s'.H p.1 = s.H p.1) :
    ∀ l, (M i).c = some l → (∀ p ∈ rd, p.1 ∈ l.ids) ∧ (∀ p ∈ up, p.1 ∈ l.ids) ∧
    (∀ q, l.lk = some q → up = [] ∧ (∃ p ∈ rd, p.1 = q.1) ∧ ∀ H', cellsAt H' q = cellsAt s'.H q → ∃ rd', rd'.map (·.1) = rd.map (·.1) ∧ OpS P o s'.ev rd' [] v ∧ ∀ p ∈ rd', H' p.1 = some p.2) ∧
    (∀ q ∈ l.kp, cellsAt (updL s'.H up) q = cellsAt s'.H q) := fun l hl => by
  obtain ⟨k1, k2, k3, k4⟩ := h.col l hl
  refine ⟨k1, k2, fun q hq => ?_, fun q hq => ?_⟩
  · obtain ⟨m1, ⟨p, m2, m3⟩, m4⟩ := k3 q hq
    refine ⟨m1, ⟨p, m2, m3⟩, fun H' hH' => ?_⟩
    obtain ⟨rd', n1, n2, n3⟩ := m4 H' (hH'.trans (cellsAt_congr (by rw [← m3]; exact h1 p m2)))
    exact ⟨rd', n1, n2.congr fun x hx => (hev x hx).symm, n3⟩
  · by_cases hu : ∃ p ∈ up, p.1 = q.1
    · obtain ⟨p, hp, e⟩ := hu
      have e1 := h2 p hp
      rw [e] at e1
      rw [cellsAt_congr (H := s'.H) (H' := s.H) e1, ← k4 q hq]
      exact cellsAt_congr (updL_congr e1)
    · exact cellsAt_congr (updL_ids fun p hp e => hu ⟨p, hp, e⟩)
/-- An operation that only looks at cells which stay. -/
theorem OpA.look {i : Nat} {o : Oper} {s s' : St} {rd up : List (Nat × AObj)} {v : AV} (h : OpA P M i o s rd up v) {l : Col} (hl : (M i).c = some l) {q : Nat × Nat × Nat} (hq : l.lk = some q) (hev : ∀ x ∈ o.op.operands, s'.ev x = s.ev x) (hk : cellsAt s'.H q = cellsAt s.H q) :
    up = [] ∧ ∃ rd', OpA P M i o s' rd' [] v := by
  obtain ⟨k1, k2, k3, k4⟩ := h.col l hl
  obtain ⟨rfl, ⟨p, m2, m3⟩, m4⟩ := k3 q hq
  obtain ⟨rd', n1, n2, n3⟩ := m4 s'.H hk
  have ids : ∀ p' ∈ rd', ∃ p ∈ rd, p.1 = p'.1 := fun p' hp' => by
    have : p'.1 ∈ rd'.map (·.1) := List.mem_map.2 ⟨p', hp', rfl⟩
    rw [n1] at this
    obtain ⟨p, hp, e⟩ := List.mem_map.1 this
    exact ⟨p, hp, e⟩
  refine ⟨rfl, rd', n2.congr fun x hx => (hev x hx).symm, n3, by simp, ?_, fun l' hl' => ?_⟩
  · rcases h.m with h3 | ⟨h3, h4⟩
    · exact .inl h3
    · refine .inr ⟨?_, .inl rfl⟩
      rcases h3 with h3 | ⟨h3, h5⟩
      · left; subst h3; simp at n1; exact n1
      · refine .inr ⟨h3, fun p' hp' => ?_⟩
        obtain ⟨p, hp, e⟩ := ids p' hp'
        obtain ⟨x, hx, k⟩ := h5 p hp
        exact ⟨x, hx, by rw [hev x hx, ← e]; exact k⟩
  · rw [hl] at hl'
    injection hl' with hl'
    subst hl'
    refine ⟨fun p' hp' => ?_, by simp, fun q' hq' => ?_, fun q' hq' => rfl⟩
    · obtain ⟨p, hp, e⟩ := ids p' hp'
      rw [← e]; exact k1 p hp
    · rw [hq] at hq'
      injection hq' with hq'
      subst hq'
      refine ⟨rfl, ?_, fun H' hH' => ?_⟩
      · have : q.1 ∈ rd'.map (·.1) := by rw [n1]; exact List.mem_map.2 ⟨p, m2, m3⟩
        obtain ⟨p', hp', e⟩ := List.mem_map.1 this
        exact ⟨p', hp', e⟩
      · obtain ⟨rd2, a1, a2, a3⟩ := m4 H' (hH'.trans hk)
        exact ⟨rd2, a1.trans n1.symm, a2.congr fun x hx => (hev x hx).symm, a3⟩

theorem OpA.step {i : Nat} {o : Oper} {s : St} {rd up up' : List (Nat × AObj)} {v v' : AV} {d : Option Tmp} (h : OpA P M i o s rd up v) (hl : ∀ t, d = some t → t ∉ o.looksAt ops) (h1 : disj up' rd) (h2 : disj up' up) : OpA P M i o (s.step d v' up') rd up v := by
  have hev : ∀ x ∈ o.op.operands, (s.step d v' up').ev x = s.ev x := fun x hx => ev_step (fun t ht e => hl t ht (looks_operand (by rw [← e]; exact hx)))
  have hH : ∀ id, (∀ p ∈ up', p.1 ≠ id) → (s.step d v' up').H id = s.H id := fun id hid => updL_ids hid
  refine ⟨h.op.congr (fun x hx => (hev x hx).symm), fun p hp => ?_, fun p hp => ?_, ?_, h.colT hev (fun p hp => hH _ (fun q hq => h1 q hq p hp)) (fun p hp => hH _ (fun q hq => h2 q hq p hp))⟩
  · rw [hH _ (fun q hq => h1 q hq p hp)]; exact h.hrd p hp
  · rw [hH _ (fun q hq => h2 q hq p hp)]; exact h.hup p hp
  · rcases h.m with h3 | ⟨h3, h4⟩
    · exact .inl h3
    · refine .inr ⟨?_, ?_⟩
      · rcases h3 with h3 | ⟨h3, h5⟩
        · exact .inl h3
        · refine .inr ⟨h3, fun p hp => ?_⟩
          obtain ⟨x, hx, k⟩ := h5 p hp
          exact ⟨x, hx, by rw [hev x hx]; exact k⟩
      · rcases h4 with h4 | ⟨h4, h5⟩
        · exact .inl h4
        · exact .inr ⟨h4, fun p hp => by rw [hH _ (fun q hq => h2 q hq p hp)]; exact h5 p hp⟩

theorem OpA.back {i : Nat} {o : Oper} {s : St} {rd up up' : List (Nat × AObj)} {v v' : AV} {d : Option Tmp} (h : OpA P M i o (s.step d v' up') rd up v) (hl : ∀ t, d = some t → t ∉ o.looksAt ops) (h1 : disj up' rd) (h2 : disj up' up) : OpA P M i o s rd up v := by
  have hev : ∀ x ∈ o.op.operands, (s.step d v' up').ev x = s.ev x := fun x hx => ev_step (fun t ht e => hl t ht (looks_operand (by rw [← e]; exact hx)))
  have hH : ∀ id, (∀ p ∈ up', p.1 ≠ id) → (s.step d v' up').H id = s.H id := fun id hid => updL_ids hid
  refine ⟨h.op.congr hev, fun p hp => ?_, fun p hp => ?_, ?_, h.colT (fun x hx => (hev x hx).symm) (fun p hp => (hH _ (fun q hq => h1 q hq p hp)).symm) (fun p hp => (hH _ (fun q hq => h2 q hq p hp)).symm)⟩
  · rw [← hH _ (fun q hq => h1 q hq p hp)]; exact h.hrd p hp
  · rw [← hH _ (fun q hq => h2 q hq p hp)]; exact h.hup p hp
  · rcases h.m with h3 | ⟨h3, h4⟩
    · exact .inl h3
    · refine .inr ⟨?_, ?_⟩
      · rcases h3 with h3 | ⟨h3, h5⟩
        · exact .inl h3
        · refine .inr ⟨h3, fun p hp => ?_⟩
          obtain ⟨x, hx, k⟩ := h5 p hp
          exact ⟨x, hx, by rw [← hev x hx]; exact k⟩
      · rcases h4 with h4 | ⟨h4, h5⟩
        · exact .inl h4
        · exact .inr ⟨h4, fun p hp => by rw [← hH _ (fun q hq => h2 q hq p hp)]; exact h5 p hp⟩

theorem YA.step {i : Nat} {o : Oper} {s : St} {rd up up' : List (Nat × AObj)} {v v' : AV} {d : Option Tmp} (h : YA P ops M i o s rd up v) (hl : ∀ t, d = some t → t ∉ o.looksAt ops) (h1 : disj up' rd) (h2 : disj up' up) : YA P ops M i o (s.step d v' up') rd up v := by
  cases h with
  | run k1 k2 k3 => exact .run k1 (by rw [gdec_step hl]; exact k2) (k3.step hl h1 h2)
  | skip k1 k2 => exact .skip k1 (by rw [gdec_step hl]; exact k2)
theorem YA.back {i : Nat} {o : Oper} {s : St} {rd up up' : List (Nat × AObj)} {v v' : AV} {d : Option Tmp} (h : YA P ops M i o (s.step d v' up') rd up v) (hl : ∀ t, d = some t → t ∉ o.looksAt ops) (h1 : disj up' rd) (h2 : disj up' up) : YA P ops M i o s rd up v := by
  cases h with
  | run k1 k2 k3 => exact .run k1 (by rw [← gdec_step hl]; exact k2) (k3.back hl h1 h2)
  | skip k1 k2 => exact .skip k1 (by rw [← gdec_step hl]; exact k2)

theorem updL_mem {H : Nat → Option AObj} : ∀ {up : List (Nat × AObj)} {p : Nat × AObj}, p ∈ up → ∃ o, updL H up p.1 = some o
  | [], _, h => by cases h
  | q :: r, p, h => by
    simp only [updL]
    by_cases hr : ∃ x ∈ r, x.1 = p.1
    · obtain ⟨x, hx, e⟩ := hr
      obtain ⟨o, ho⟩ := updL_mem (H := upd H q.1 q.2) hx
      exact ⟨o, by rw [← e]; exact ho⟩
    · rw [updL_ids (fun x hx e => hr ⟨x, hx, e⟩)]
      rcases List.mem_cons.1 h with rfl | h
      · exact ⟨_, upd_same _ _ _⟩
      · exact absurd ⟨p, h, rfl⟩ hr
theorem updL_stays {H : Nat → Option AObj} {id : Nat} {o : AObj} (h : H id = some o) : ∀ {up : List (Nat × AObj)}, ∃ o', updL H up id = some o' := by
  intro up
  by_cases hr : ∃ x ∈ up, x.1 = id
  · obtain ⟨x, hx, rfl⟩ := hr
    exact updL_mem hx
  · exact ⟨o, by rw [updL_ids (fun x hx e => hr ⟨x, hx, e⟩)]; exact h⟩

/-- The objects of two such operations. -/
theorem indep_disj {i j : Nat} {oi oj : Oper} {s : St} {rdi upi rdj upj : List (Nat × AObj)} {vi vj : AV} (hind : indepO ops M i oi j oj = true) (hr : Real s) (hi : YA P ops M i oi s rdi upi vi) (hj : YA P ops M j oj (s.step oi.dst vi upi) rdj upj vj) :
    disj upi rdj ∧ disj upi upj ∧ disj upj rdi := by
  unfold indepO at hind
  rw [Bool.and_eq_true] at hind
  obtain ⟨hap, hind⟩ := hind
  rw [Bool.or_eq_true] at hind
  rcases hind with hind | hcol
  rotate_left
  · split at hcol
    · rename_i a b ha hb
      have hd : ∀ x ∈ a.ids, x ∉ b.ids := fun x hx => by
        have := List.all_eq_true.1 hcol x hx
        simpa using this
      have ci : (∀ p ∈ rdi, p.1 ∈ a.ids) ∧ (∀ p ∈ upi, p.1 ∈ a.ids) := by
        cases hi with
        | run _ _ k => exact ⟨(k.col a ha).1, (k.col a ha).2.1⟩
        | skip => exact ⟨by simp, by simp⟩
      have cj : (∀ p ∈ rdj, p.1 ∈ b.ids) ∧ (∀ p ∈ upj, p.1 ∈ b.ids) := by
        cases hj with
        | run _ _ k => exact ⟨(k.col b hb).1, (k.col b hb).2.1⟩
        | skip => exact ⟨by simp, by simp⟩
      exact ⟨fun p hp q hq e => hd p.1 (ci.2 p hp) (by rw [e]; exact cj.1 q hq), fun p hp q hq e => hd p.1 (ci.2 p hp) (by rw [e]; exact cj.2 q hq), fun p hp q hq e => hd q.1 (ci.1 q hq) (by rw [← e]; exact cj.2 p hp)⟩
    · cases hcol
  simp only [Bool.and_eq_true, Bool.not_eq_true', Bool.and_eq_false_iff, Bool.or_eq_false_iff] at hind
  obtain ⟨h1, h2⟩ := hind
  obtain ⟨a1, a2, a3⟩ := Oper.apart_spec hap
  cases hi with
  | skip => exact ⟨by simp [disj], by simp [disj], fun p _ q hq => by cases hq⟩
  | run _ _ ki =>
    cases hj with
    | skip => exact ⟨(fun p _ q hq => by cases hq), (fun p _ q hq => by cases hq), by simp [disj]⟩
    | run _ _ kj =>
      rcases ki.m with mi | ⟨mi1, mi2⟩
      · rcases h1 with h1 | ⟨⟨h1, h3⟩, h4⟩
        · rw [mi] at h1; cases h1
        · rcases kj.m with mj | ⟨mj1, mj2⟩
          · rw [mj] at h1; cases h1
          · have e1 : rdj = [] := by rcases mj1 with e | ⟨e, _⟩; · exact e
                                     · rw [h3] at e; cases e
            have e2 : upj = [] := by rcases mj2 with e | ⟨e, _⟩; · exact e
                                     · rw [h4] at e; cases e
            subst e1 e2
            exact ⟨(fun p _ q hq => by cases hq), (fun p _ q hq => by cases hq), by simp [disj]⟩
      · rcases kj.m with mj | ⟨mj1, mj2⟩
        · rcases h2 with h2 | ⟨h2, h3⟩
          · rw [mj] at h2; cases h2
          · have e1 : rdi = [] := by rcases mi1 with e | ⟨e, _⟩; · exact e
                                     · rw [h2] at e; cases e
            have e2 : upi = [] := by rcases mi2 with e | ⟨e, _⟩; · exact e
                                     · rw [h3] at e; cases e
            subst e1 e2
            exact ⟨by simp [disj], by simp [disj], fun p _ q hq => by cases hq⟩
        · have newi : ∀ p ∈ upi, s.H p.1 = none := fun p hp => by rcases mi2 with e | ⟨_, e⟩; · subst e; cases hp
                                                                  · exact e p hp
          have newj : ∀ p ∈ upj, (s.step oi.dst vi upi).H p.1 = none := fun p hp => by rcases mj2 with e | ⟨_, e⟩; · subst e; cases hp
                                                                                       · exact e p hp
          refine ⟨fun p hp q hq e => ?_, fun p hp q hq e => ?_, fun p hp q hq e => ?_⟩
          · rcases mj1 with e' | ⟨_, e'⟩
            · subst e'; cases hq
            · obtain ⟨x, hx, k⟩ := e' q hq
              rw [ev_step (fun t ht e2 => a1 t ht (looks_operand (by rw [← e2]; exact hx)))] at k
              obtain ⟨o, ho⟩ := hr.ptr k
              rw [← e, newi p hp] at ho
              cases ho
          · obtain ⟨o, ho⟩ := updL_mem (H := s.H) hp
            have := newj q hq
            rw [← e] at this
            simp only [St.step] at this
            rw [this] at ho
            cases ho
          · have h5 := ki.hrd q hq
            obtain ⟨o, ho⟩ := updL_stays h5 (up := upi)
            have := newj p hp
            rw [e] at this
            simp only [St.step] at this
            rw [this] at ho
            cases ho

theorem YA.look {i : Nat} {o : Oper} {s s' : St} {rd up : List (Nat × AObj)} {v : AV} (h : YA P ops M i o s rd up v) {l : Col} (hl : (M i).c = some l) {q : Nat × Nat × Nat} (hq : l.lk = some q) (hn : s'.n = s.n) (hg : gdec ops s'.env o = gdec ops s.env o) (hev : ∀ x ∈ o.op.operands, s'.ev x = s.ev x) (hk : cellsAt s'.H q = cellsAt s.H q) :
    up = [] ∧ ∃ rd', YA P ops M i o s' rd' [] v := by
  cases h with
  | run k1 k2 k3 =>
    obtain ⟨e, rd', k4⟩ := k3.look hl hq hev hk
    exact ⟨e, rd', .run (by rw [hn]; exact k1) (by rw [hg]; exact k2) k4⟩
  | skip k1 k2 => exact ⟨rfl, [], .skip (by rw [hn]; exact k1) (by rw [hg]; exact k2)⟩
theorem YA.keep {i : Nat} {o : Oper} {s : St} {rd up : List (Nat × AObj)} {v : AV} (h : YA P ops M i o s rd up v) {l : Col} (hl : (M i).c = some l) {q : Nat × Nat × Nat} (hq : q ∈ l.kp) : cellsAt (updL s.H up) q = cellsAt s.H q := by
  cases h with
  | run k1 k2 k3 => exact (k3.col l hl).2.2.2 q hq
  | skip k1 k2 => rfl

/-- Two operations that may come up in either order change places. -/
theorem YA.swap {i j : Nat} {oi oj : Oper} {s : St} {rdi upi rdj upj : List (Nat × AObj)} {vi vj : AV} (hind : indep ops M i oi j oj = true) (hr : Real s) (hi : YA P ops M i oi s rdi upi vi) (hj : YA P ops M j oj (s.step oi.dst vi upi) rdj upj vj) :
    disj upj upi ∧ (∃ rdj', YA P ops M j oj s rdj' upj vj) ∧ ∃ rdi', YA P ops M i oi (s.step oj.dst vj upj) rdi' upi vi := by
  have hap : oi.apart ops oj = true := by
    unfold indep at hind
    rw [Bool.and_eq_true] at hind
    exact hind.1
  obtain ⟨a1, a2, a3⟩ := Oper.apart_spec hap
  have evj : ∀ x ∈ oj.op.operands, s.ev x = (s.step oi.dst vi upi).ev x := fun x hx => (ev_step (fun t ht e => a1 t ht (looks_operand (by rw [← e]; exact hx)))).symm
  have evi : ∀ x ∈ oi.op.operands, (s.step oj.dst vj upj).ev x = s.ev x := fun x hx => ev_step (fun t ht e => a3 t ht (looks_operand (by rw [← e]; exact hx)))
  by_cases hO : indepO ops M i oi j oj = true
  · obtain ⟨d1, d2, d3⟩ := indep_disj hO hr hi hj
    have d2' : disj upj upi := fun p hp q hq e => d2 q hq p hp e.symm
    exact ⟨d2', ⟨_, hj.back (fun t ht => a1 t ht) d1 d2⟩, ⟨_, hi.step (fun t ht => a3 t ht) d3 d2'⟩⟩
  · unfold indep at hind
    rw [Bool.and_eq_true, Bool.or_eq_true] at hind
    obtain ⟨_, hind⟩ := hind
    rcases hind with hind | hind
    · exact absurd (by unfold indepO; rw [Bool.and_eq_true, Bool.or_eq_true]; exact ⟨hap, .inl hind⟩) hO
    · split at hind
      · rename_i a b ha hb
        rw [Bool.or_eq_true, Bool.or_eq_true] at hind
        rcases hind with (hind | hind) | hind
        · exact absurd (by unfold indepO; rw [Bool.and_eq_true, Bool.or_eq_true]; exact ⟨hap, .inr (by simp only [ha, hb]; exact hind)⟩) hO
        · split at hind
          · rename_i q hq
            have hq2 : q ∈ b.kp := by simpa using hind
            have e0 : upi = [] := (hi.look (s' := s) ha hq rfl rfl (fun _ _ => rfl) rfl).1
            subst e0
            have hj' : YA P ops M j oj s rdj upj vj := hj.back (fun t ht => a1 t ht) (by simp [disj]) (by simp [disj])
            exact ⟨by simp [disj], ⟨_, hj'⟩, (hi.look (s' := s.step oj.dst vj upj) ha hq rfl (gdec_step fun t ht => a3 t ht) evi (hj'.keep hb hq2)).2⟩
          · cases hind
        · split at hind
          · rename_i q hq
            have hq2 : q ∈ a.kp := by simpa using hind
            obtain ⟨e0, rd', k⟩ := hj.look (s' := s) hb hq rfl (gdec_step fun t ht => a1 t ht).symm evj (hi.keep ha hq2).symm
            subst e0
            exact ⟨by simp [disj], ⟨_, k⟩, ⟨_, hi.step (fun t ht => a3 t ht) (by simp [disj]) (by simp [disj])⟩⟩
          · cases hind
      · cases hind

/-! ### who waits for whom -/
def msk (ops : Array Oper) : Nat → List Nat
  | 0 => []
  | k + 1 => let acc := msk ops k
    acc ++ [match ops[k]? with
      | some o => o.after.toList.foldl (fun m e => if Region.binds .any e then m ||| 2 ^ e.on ||| acc.getD e.on 0 else m) 0
      | none => 0]
def waits (ops : Array Oper) (j i : Nat) : Bool := ((msk ops ops.size).getD j 0).testBit i

theorem msk_length (ops : Array Oper) : ∀ k, (msk ops k).length = k
  | 0 => rfl
  | k + 1 => by simp [msk, msk_length ops k]
theorem msk_get (ops : Array Oper) : ∀ (k m j : Nat), j < k → k ≤ m → (msk ops m).getD j 0 = (msk ops k).getD j 0
  | k, 0, j, h, hm => by omega
  | k, m + 1, j, h, hm => by
    by_cases e : k = m + 1
    · rw [e]
    · have := msk_get ops k m j h (by omega)
      rw [← this]
      simp only [msk, List.getD_eq_getElem?_getD]
      rw [List.getElem?_append_left (by rw [msk_length]; omega)]
theorem fold_bit {acc : List Nat} {i : Nat} : ∀ (l : List Edge) (m : Nat), (l.foldl (fun m e => if Region.binds .any e then m ||| 2 ^ e.on ||| acc.getD e.on 0 else m) m).testBit i = true → m.testBit i = true ∨ ∃ e ∈ l, Region.binds .any e = true ∧ (e.on = i ∨ (acc.getD e.on 0).testBit i = true)
  | [], m, h => .inl h
  | e :: l, m, h => by
    simp only [List.foldl_cons] at h
    rcases fold_bit l _ h with h | ⟨e', h1, h2⟩
    · split at h
      · rename_i hb
        simp only [Nat.testBit_or, Bool.or_eq_true] at h
        rcases h with (h | h) | h
        · exact .inl h
        · right
          refine ⟨e, by simp, hb, .inl ?_⟩
          rw [Nat.testBit_two_pow] at h
          simpa using h
        · exact .inr ⟨e, by simp, hb, .inr h⟩
      · exact .inl h
    · exact .inr ⟨e', by simp [h1], h2⟩

theorem waits_spec {j i : Nat} (h : waits ops j i = true) : ∃ o, ops[j]? = some o ∧ ∃ e ∈ o.after, Region.binds .any e = true ∧ (e.on = i ∨ waits ops e.on i = true) := by
  unfold waits at h
  have hj : j < ops.size := by
    rcases Nat.lt_or_ge j ops.size with h' | h'
    · exact h'
    · rw [List.getD_eq_getElem?_getD, List.getElem?_eq_none (by rw [msk_length]; exact h')] at h
      simp at h
  rw [msk_get ops (j + 1) ops.size j (by omega) hj] at h
  have hg : (msk ops (j + 1)).getD j 0 = (match ops[j]? with
      | some o => o.after.toList.foldl (fun m e => if Region.binds .any e then m ||| 2 ^ e.on ||| (msk ops j).getD e.on 0 else m) 0
      | none => 0) := by
    simp only [msk, List.getD_eq_getElem?_getD]
    rw [List.getElem?_append_right (by rw [msk_length]; exact Nat.le_refl _), msk_length, Nat.sub_self]
    rfl
  rw [hg] at h
  have ho : ops[j]? = some ops[j] := Array.getElem?_eq_getElem hj
  rw [ho] at h
  simp only at h
  refine ⟨_, ho, ?_⟩
  rcases fold_bit _ _ h with h | ⟨e, h1, h2, h3⟩
  · simp at h
  · refine ⟨e, by simpa using h1, h2, h3.imp id (fun h4 => ?_)⟩
    unfold waits
    rcases Nat.lt_or_ge e.on j with h' | h'
    · rw [msk_get ops j ops.size e.on h' (by omega)]; exact h4
    · rw [List.getD_eq_getElem?_getD, List.getElem?_eq_none (by rw [msk_length]; exact h')] at h4
      simp at h4

def closed (ops : Array Oper) (listed : Array Bool) : Prop := ∀ j i, listed.getD j false = true → waits ops j i = true → listed.getD i false = true

theorem ready_waits {listed : Array Bool} (hc : closed ops listed) {j : Nat} (hj : j ∈ Region.ready .any ops listed) {i : Nat} (hw : waits ops j i = true) : listed.getD i false = true := by
  obtain ⟨_, oj, hoj, hall⟩ := mem_ready.1 hj
  obtain ⟨o, ho, e, he, hb, h⟩ := waits_spec hw
  rw [hoj] at ho
  injection ho with ho
  subst ho
  have := hall e he hb
  rcases h with h | h
  · rw [← h]; exact this
  · exact hc _ _ this h

theorem closed_set {listed : Array Bool} (hc : closed ops listed) {j : Nat} (hj : j ∈ Region.ready .any ops listed) : closed ops (listed.setIfInBounds j true) := by
  intro k i hk hw
  have hmono : listed.getD i false = true → (listed.setIfInBounds j true).getD i false = true := fun h => by
    by_cases e : j = i
    · subst e
      have hlt : j < listed.size := by
        rcases Nat.lt_or_ge j listed.size with h' | h'
        · exact h'
        · simp [Array.getElem?_eq_none h'] at h
      simp [hlt]
    · rw [getD_set_ne false e]; exact h
  by_cases e : j = k
  · subst e; exact hmono (ready_waits hc hj hw)
  · rw [getD_set_ne false e] at hk; exact hmono (hc k i hk hw)

/-- An operation that may come up now may be taken first. -/
theorem anyA_first {i : Nat} {oi : Oper} {up : List (Nat × AObj)} {v : AV} (hi : ops[i]? = some oi) :
    ∀ (fuel : Nat) (listed : Array Bool) (s : St) (rd : List (Nat × AObj)), closed ops listed → Real s →
      (∀ j oj, ops[j]? = some oj → j ≠ i → listed.getD j true = false → waits ops j i = false → indep ops M i oi j oj = true) →
      i ∈ Region.ready .any ops listed → YA P ops M i oi s rd up v →
      anyA P ops M Q fuel (listed.setIfInBounds i true) (s.step oi.dst v up) → anyA P ops M Q (fuel + 1) listed s := by
  intro fuel
  induction fuel with
  | zero =>
    intro listed s rd hc hreal _ hr hy H
    refine ⟨fun h => (by rw [h] at hr; cases hr), fun j hj => ?_⟩
    by_cases hji : j = i
    · subst hji; exact hy.q hi H
    · have := ready_mono hj hji
      rw [H.1] at this
      cases this
  | succ fuel ih =>
    intro listed s rd hc hreal hfree hr hy H
    refine ⟨fun h => (by rw [h] at hr; cases hr), fun j hj => ?_⟩
    by_cases hji : j = i
    · subst hji; exact hy.q hi H
    · have h1 := H.2 j (ready_mono hj hji)
      obtain ⟨hjun, oj, hoj, hall⟩ := mem_ready.1 hj
      have hun : listed.getD i false = false := by
        have h0 := (mem_ready.1 hr).1
        rcases Nat.lt_or_ge i listed.size with h' | h'
        · simp [h'] at h0 ⊢; exact h0
        · simp [Array.getElem?_eq_none h'] at h0
      have hnw : waits ops j i = false := by
        cases hw : waits ops j i with
        | false => rfl
        | true => have := ready_waits hc hj hw; rw [hun] at this; cases this
      have hind := hfree j oj hoj hji hjun hnw
      obtain ⟨rdj, upj, vj, hyj, hK⟩ := YA.of_q hoj h1
      have hap : oi.apart ops oj = true := by
        unfold indep at hind
        rw [Bool.and_eq_true] at hind
        exact hind.1
      obtain ⟨_, a2, _⟩ := Oper.apart_spec hap
      obtain ⟨d2', ⟨rdj', hyj'⟩, ⟨rdi', hyi'⟩⟩ := YA.swap hind hreal hy hyj
      refine hyj'.q hoj ?_
      refine ih (listed.setIfInBounds j true) _ _ (closed_set hc hj) (hreal.step hyj') (fun k ok hk hki hunk hw => ?_) (ready_mono hr (Ne.symm hji)) hyi' ?_
      · refine hfree k ok hk hki ?_ hw
        by_cases hjk : j = k
        · subst hjk; exact hjun
        · rw [getD_set_ne true hjk] at hunk; exact hunk
      · rw [Array.setIfInBounds_comm _ _ hji, ← step_comm (fun t ht => a2 t ht) (fun p hp q hq e => d2' q hq p hp e.symm)]
        exact hK

def pref (n k : Nat) : Array Bool := ((List.replicate k true) ++ (List.replicate (n - k) false)).toArray

def drawK (ops : Array Oper) (M : Nat → Mk) (k : Nat) : Bool :=
  decide (k ∈ Region.ready .any ops (pref ops.size k)) && (List.range ops.size).all (fun j => decide (j ≤ k) || waits ops j k || (match ops[k]?, ops[j]? with | some a, some b => indep ops M k a j b | _, _ => true))
def drawB (ops : Array Oper) (M : Nat → Mk) : Bool := (List.range ops.size).all (drawK ops M) && decide (Region.ready .any ops (pref ops.size ops.size) = []) && (List.range ops.size).all (fun j => (List.range ops.size).all fun i => !waits ops j i || decide (i < j))

theorem pref_get (n k j : Nat) (hk : k ≤ n) (d : Bool) : (pref n k).getD j d = if j < k then true else if j < n then false else d := by
  simp only [pref, Array.getD_eq_getD_getElem?, List.getElem?_toArray]
  by_cases h : j < k
  · rw [List.getElem?_append_left (by simpa using h), if_pos h]; simp [h]
  · rw [List.getElem?_append_right (by simp; omega), if_neg h]
    by_cases h2 : j < n
    · rw [if_pos h2]; simp [List.getElem?_replicate]; rw [if_pos (by omega)]; rfl
    · rw [if_neg h2]; simp [List.getElem?_replicate]; rw [if_neg (by omega)]; rfl
theorem pref_set (n k : Nat) (hk : k < n) : (pref n k).setIfInBounds k true = pref n (k + 1) := by
  apply Array.ext'
  simp only [pref, Array.toList_setIfInBounds]
  apply List.ext_getElem?
  intro j
  rw [List.getElem?_set]
  by_cases h : k = j
  · subst h
    rw [if_pos rfl, List.getElem?_append_left (by simp)]
    simp; omega
  · rw [if_neg h]
    by_cases h1 : j < k
    · rw [List.getElem?_append_left (by simpa using h1), List.getElem?_append_left (by simp; omega)]
      simp [List.getElem?_replicate, h1]; omega
    · rw [List.getElem?_append_right (by simp; omega), List.getElem?_append_right (by simp; omega)]
      simp [List.getElem?_replicate]
      congr 1
      apply propext
      omega

theorem anyA_lex (hB : drawB ops M = true) : ∀ (l : List Oper) (k : Nat) (s : St), k + l.length = ops.size → (∀ j, l[j]? = ops[k + j]?) → Real s → AL P ops M l k s Q → anyA P ops M Q l.length (pref ops.size k) s
  | [], k, s, hn, _, _, h => by
    simp only [drawB, Bool.and_eq_true, decide_eq_true_eq] at hB
    simp only [List.length_nil, Nat.add_zero] at hn
    subst hn
    exact ⟨hB.1.2, h⟩
  | o :: l, k, s, hn, hl, hr, h => by
    have hB0 := hB
    simp only [drawB, Bool.and_eq_true, List.all_eq_true, List.mem_range, decide_eq_true_eq] at hB
    obtain ⟨⟨hB1, _⟩, hB3⟩ := hB
    have h0 : ops[k]? = some o := by simpa using (hl 0).symm
    have hk : k < ops.size := by simp at hn; omega
    have hq : qA P ops M k (AL P ops M l (k + 1) · Q) s := by
      unfold qA; simp only [h0]; exact h
    obtain ⟨rd, up, v, hy, hK⟩ := YA.of_q h0 hq
    have hd := hB1 k hk
    simp only [drawK, Bool.and_eq_true, decide_eq_true_eq, List.all_eq_true, List.mem_range, Bool.or_eq_true] at hd
    refine anyA_first h0 l.length (pref ops.size k) s _ (fun j i hj hw => ?_) hr (fun j oj hoj hjk hun hw => ?_) hd.1 hy ?_
    · rw [pref_get _ _ _ (by omega)] at hj ⊢
      by_cases h1 : j < k
      · have := hB3 j (by omega)
        have hi : i < ops.size := by
          rcases Nat.lt_or_ge i ops.size with h' | h'
          · exact h'
          · obtain ⟨o', ho', e, he, hb, h⟩ := waits_spec hw
            exact absurd hw (by
              have : waits ops j i = false := by
                cases hq : waits ops j i with
                | false => rfl
                | true => exact (waits_lt hB0 hq h').elim
              rw [this]; simp)
        have := this i hi
        rw [hw] at this
        simp at this
        rw [if_pos (by omega)]
      · rw [if_neg h1] at hj
        split at hj <;> cases hj
    · rw [pref_get _ _ _ (by omega)] at hun
      have hj1 : ¬ j < k := fun h => by rw [if_pos h] at hun; cases hun
      have hj2 : j < ops.size := (Array.getElem?_eq_some_iff.1 hoj).1
      rcases hd.2 j hj2 with (h1 | h1) | h1
      · omega
      · rw [hw] at h1; cases h1
      · simp only [h0, hoj] at h1; exact h1
    · rw [pref_set _ _ hk]
      exact anyA_lex hB0 l (k + 1) _ (by simp at hn; omega) (fun j => by have := hl (j + 1); simpa [Nat.add_assoc, Nat.add_comm 1 j] using this) (hr.step hy) hK
where
  waits_lt {ops : Array Oper} {M : Nat → Mk} {j i : Nat} (hB : drawB ops M = true) (hw : waits ops j i = true) (hi : ops.size ≤ i) : False := by
    have hready : ∀ k, k < ops.size → k ∈ Region.ready .any ops (pref ops.size k) := fun k hk => by
      simp only [drawB, Bool.and_eq_true, List.all_eq_true, List.mem_range, decide_eq_true_eq] at hB
      have := hB.1.1 k hk
      simp only [drawK, Bool.and_eq_true, decide_eq_true_eq] at this
      exact this.1
    have key : ∀ j i, waits ops j i = true → i < j := by
      intro j
      induction j using Nat.strongRecOn with
      | _ j ih =>
        intro i hw
        obtain ⟨o, ho, e, he, hb, h⟩ := waits_spec hw
        have hj : j < ops.size := (Array.getElem?_eq_some_iff.1 ho).1
        obtain ⟨_, o', ho', hall⟩ := mem_ready.1 (hready j hj)
        rw [ho] at ho'
        injection ho' with ho'
        subst ho'
        have hlt : e.on < j := by
          have := hall e he hb
          rw [pref_get _ _ _ (by omega)] at this
          by_cases h1 : e.on < j
          · exact h1
          · rw [if_neg h1] at this; split at this <;> cases this
        rcases h with h | h
        · omega
        · have := ih e.on hlt i h; omega
    have h1 := key j i hw
    obtain ⟨o, ho, _⟩ := waits_spec hw
    have := (Array.getElem?_eq_some_iff.1 ho).1
    omega

/-- A region that draws its order, in the text's order. -/
theorem AW.drawc {S : Nat → Bool} {Q : Exit → St → Prop} {s : St} {id : Nat} {l : List Oper} (hm : P.follows .mixedOrders = true) (hB : drawB l.toArray M = true) (h : AL P l.toArray M l 0 s (Q .normal)) : AW P S (.region id l.toArray true) Q s := fun C a hr => by
  have hb : Below C.w.heap.size C.w { C.w with drawn := C.w.drawn + 1 } := (Below.refl _ _).drew
  obtain ⟨hI, hle⟩ := hr.inv.moved hb
  have hr' : Rel { C with w := { C.w with drawn := C.w.drawn + 1 } } s a := ⟨hI, hr.H, hr.real, fun d v hd => (hr.env d v hd).le hle, hr.size, hr.defers⟩
  have hany := anyA_lex (P := P) (Q := Q .normal) hB l 0 s (by simp) (by simp) ⟨C, a, hr⟩ h
  have h0 : pref l.toArray.size 0 = Array.replicate l.toArray.size false := by
    apply Array.ext'
    simp [pref]
  rw [h0] at hany
  refine wp_region_any hm ?_
  have := wpAny_of_anyA (S := S) (Q := Q) l.length _ s _ a hany hr'
  exact wpAny_of_anyA.wpAny_mono' (fun e a w (h : Lift S { C with w := { C.w with drawn := C.w.drawn + 1 } } Q e a w) => Lift.later (C := C) h rfl rfl (hle.leS S)) _ _ _ _ (by simpa using this)
end
theorem AW.draw {P : Program} {M : Nat → Bool} {S : Nat → Bool} {Q : Exit → St → Prop} {s : St} {id : Nat} {l : List Oper} (hm : P.follows .mixedOrders = true) (hB : drawB l.toArray (fun i => ⟨M i, none⟩) = true) (h : AL P l.toArray (fun i => ⟨M i, none⟩) l 0 s (Q .normal)) : AW P S (.region id l.toArray true) Q s := AW.drawc hm hB h

end Go.Proofs.Ytbcjcekoonebiaa.Tl
