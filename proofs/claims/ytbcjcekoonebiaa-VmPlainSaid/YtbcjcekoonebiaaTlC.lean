/- The tree logic, part C: states, operations, regions in the text's order, code, contracts. Conditions: none. -/
import Derived.Test.YtbcjcekoonebiaaTlB
import Derived.Deep.LoopGhost
set_option linter.unusedVariables false
set_option linter.unusedSimpArgs false
namespace Go.Proofs.Ytbcjcekoonebiaa.Tl
open Go Go.RowKit

structure St where
  n : Nat
  env : Nat → Option AV
  H : Nat → Option AObj

def ofVal1 : Value → Option AV
  | .bool b => some (.bool b)
  | .int k n => some (.int k n)
  | .string s => some (.str s)
  | .pointer none => some .nilp
  | .slice none 0 0 => some (.sl .nil 0 [])
  | .nilFunc => some .nilf
  | _ => none
def ofVals : List Value → Option (List AV)
  | [] => some []
  | v :: r => match ofVal1 v, ofVals r with
    | some x, some l => some (x :: l)
    | _, _ => none
def ofVal : Value → Option AV
  | .agg vs => (ofVals vs.toList).map .agg
  | v => ofVal1 v

def St.ev (s : St) : Operand → Option AV
  | .tmp t => s.env t
  | .const v => ofVal v
  | .func f => some (.func f [] [])
  | .global _ => none

def updL {β : Type} (H : Nat → Option β) : List (Nat × β) → Nat → Option β
  | [] => H
  | p :: r => updL (upd H p.1 p.2) r

def putE (env : Nat → Option AV) (d : Option Tmp) (v : AV) : Nat → Option AV :=
  match d with | some d => upd env d v | none => env

structure Rel (C : Cx) (s : St) (a : Act) : Prop where
  inv : Inv C
  H : C.H = s.H
  real : ∀ id o, s.H id = some o → ∃ v, C.G id = some v
  env : ∀ d v, s.env d = some v → Rd C v (a.tmps.getD d undef)
  size : a.tmps.size = s.n
  defers : a.defers = []

theorem Rd.ofVal1 {C : Cx} {v : Value} {x : AV} (h : ofVal1 v = some x) : Rd C x v ∧ v.oneCell' = true := by
  unfold Tl.ofVal1 at h
  split at h <;> simp at h <;> subst h <;> simp [Rd] <;> rfl
theorem Rd.ofVals {C : Cx} : ∀ {vs : List Value} {l : List AV}, ofVals vs = some l → RdL C l vs ∧ ∀ u ∈ vs, u.oneCell' = true
  | [], l, h => by simp [Tl.ofVals] at h; subst h; exact ⟨by simp [RdL], by simp⟩
  | v :: vs, l, h => by
    simp only [Tl.ofVals] at h
    split at h
    · rename_i x l' h1 h2
      injection h with h
      subst h
      obtain ⟨a1, a2⟩ := Rd.ofVal1 (C := C) h1
      obtain ⟨b1, b2⟩ := Rd.ofVals (C := C) h2
      exact ⟨by simp only [RdL]; exact ⟨a1, b1⟩, fun u hu => by rcases List.mem_cons.1 hu with rfl | hu; exact a2; exact b2 u hu⟩
    · cases h
theorem Rd.ofVal {C : Cx} {v : Value} {x : AV} (h : ofVal v = some x) : Rd C x v := by
  unfold Tl.ofVal at h
  split at h
  · simp only [Option.map_eq_some_iff] at h
    obtain ⟨l, h1, rfl⟩ := h
    obtain ⟨a1, a2⟩ := Rd.ofVals (C := C) h1
    simp only [Rd]
    exact ⟨_, rfl, a1, a2⟩
  · exact (Rd.ofVal1 h).1

theorem Rel.ev {C : Cx} {s : St} {a : Act} (h : Rel C s a) {x : Operand} {v : AV} (hx : s.ev x = some v) : Rd C v (a.eval x) := by
  cases x with
  | tmp t => exact h.env t v hx
  | const c => exact Rd.ofVal hx
  | func f =>
    simp only [St.ev] at hx
    injection hx with hx
    subst hx
    simp only [Rd, Act.eval]
    exact ⟨#[], #[], rfl, by simp [RdL], by simp [RdL]⟩
  | global g => cases hx

/-- What an operation comes to: it hands back v; of the objects it needs 'rd', and leaves 'up'. -/
def OpS (P : Program) (o : Oper) (ρ : Operand → Option AV) (rd up : List (Nat × AObj)) (v : AV) : Prop :=
  ∀ (C : Cx) (a : Act) (next : Act → World → Prop) (Q : Exit → Act → World → Prop), Inv C →
    (∀ x ∈ o.op.operands, ∀ y, ρ x = some y → Rd C y (a.eval x)) →
    (∀ p ∈ rd, C.H p.1 = some p.2 ∧ ∃ u, C.G p.1 = some u) →
    (∀ p ∈ up, (∃ ob, (p.1, ob) ∈ rd) ∨ C.H p.1 = none) →
    (∀ (C' : Cx) (u : Value), Inv C' → Le C C' → C'.w0 = C.w0 → C'.ok0 = C.ok0 → C'.H = updL C.H up → (∀ id u, C.G id = some u → ∃ u', C'.G id = some u') → (∀ p ∈ up, ∃ u, C'.G p.1 = some u) → Rd C' v u → next (a.put o.dst u) C'.w) →
    o.wp P a C.w next Q

def gdec (ops : Array Oper) (env : Nat → Option AV) (o : Oper) : Option Bool :=
  match o.guard with
  | none => some true
  | some (j, want) =>
    match (ops[j]?).bind (·.dst) with
    | none => none
    | some d => match env d with | some (.bool b) => some (b == want) | some (.tup []) => some false | _ => none

def isLoad : Op → Bool
  | .load _ _ => true
  | .call c => match c.callee with | .builtin .len => true | _ => false
  | _ => false
/-- A value that leads to an object. -/
def Leads (v : Option AV) (id : Nat) : Prop := (∃ off, v = some (.ptr id off)) ∨ ∃ ver k, v = some (.mv id ver k)

def St.step (s : St) (d : Option Tmp) (v : AV) (up : List (Nat × AObj)) : St := ⟨s.n, putE s.env d v, updL s.H up⟩

def isNew : Op → Bool
  | .alloc _ => true
  | .box _ _ => true
  | .buildSlice _ _ _ => true
  | .makeSlice _ _ _ => true
  | .convert _ _ _ => true
  | .call c => match c.callee with | .builtin _ => true | _ => false
  | _ => false

/-- Of an operation: may it change what was there; the only objects that it touches, if that is told. -/
structure Col where
  ids : List Nat
  /-- It only looks at these cells of a box. -/
  lk : Option (Nat × Nat × Nat) := none
  /-- It leaves these cells of boxes as they are. -/
  kp : List (Nat × Nat × Nat) := []
/-- Some cells of a box. -/
def cellsAt (H : Nat → Option AObj) (q : Nat × Nat × Nat) : Option (TypeId × Nat × List AV) :=
  match H q.1 with | some (.box t cells) => some (t, cells.length, (cells.drop q.2.1).take q.2.2) | _ => none
structure Mk where
  b : Bool
  c : Option Col
class NC (M : Nat → Mk) (i : Nat) : Prop where
  h : (M i).c = none
instance {f : Nat → Bool} {i : Nat} : NC (fun i => ⟨f i, none⟩) i := ⟨rfl⟩
theorem NC.no {M : Nat → Mk} {i : Nat} [nc : NC M i] {p : Col → Prop} : ∀ l, (M i).c = some l → p l := fun l q => by rw [nc.h] at q; cases q

/-- One operation, in a state. M: the operations that may change what was there. -/
structure OpA (P : Program) (M : Nat → Mk) (i : Nat) (o : Oper) (s : St) (rd up : List (Nat × AObj)) (v : AV) : Prop where
  op : OpS P o s.ev rd up v
  hrd : ∀ p ∈ rd, s.H p.1 = some p.2
  hup : ∀ p ∈ up, (∃ ob, (p.1, ob) ∈ rd) ∨ s.H p.1 = none
  m : (M i).b = true ∨ ((rd = [] ∨ (isLoad o.op = true ∧ ∀ p ∈ rd, ∃ x ∈ o.op.operands, Leads (s.ev x) p.1)) ∧ (up = [] ∨ (isNew o.op = true ∧ ∀ p ∈ up, s.H p.1 = none)))
  col : ∀ l, (M i).c = some l → (∀ p ∈ rd, p.1 ∈ l.ids) ∧ (∀ p ∈ up, p.1 ∈ l.ids) ∧
    (∀ q, l.lk = some q → up = [] ∧ (∃ p ∈ rd, p.1 = q.1) ∧ ∀ H', cellsAt H' q = cellsAt s.H q → ∃ rd', rd'.map (·.1) = rd.map (·.1) ∧ OpS P o s.ev rd' [] v ∧ ∀ p ∈ rd', H' p.1 = some p.2) ∧
    (∀ q ∈ l.kp, cellsAt (updL s.H up) q = cellsAt s.H q)

def AL (P : Program) (ops : Array Oper) (M : Nat → Mk) : List Oper → Nat → St → (St → Prop) → Prop
  | [], _, s, Q => Q s
  | o :: rest, i, s, Q =>
    (∀ d, o.dst = some d → d < s.n) ∧
    ∃ b, gdec ops s.env o = some b ∧
      (b = true → ∃ rd up v, OpA P M i o s rd up v ∧ AL P ops M rest (i + 1) (s.step o.dst v up) Q) ∧
      (b = false → AL P ops M rest (i + 1) (s.step o.dst (.tup []) []) Q)

theorem AL.op {P : Program} {ops : Array Oper} {M : Nat → Mk} {o : Oper} {rest : List Oper} {i : Nat} {s : St} {Q : St → Prop} (hd : ∀ d, o.dst = some d → d < s.n) (hg : gdec ops s.env o = some true)
    {rd up : List (Nat × AObj)} {v : AV} (h : OpA P M i o s rd up v) (k : AL P ops M rest (i + 1) (s.step o.dst v up) Q) : AL P ops M (o :: rest) i s Q :=
  ⟨hd, true, hg, fun _ => ⟨rd, up, v, h, k⟩, (fun h => by cases h)⟩
theorem AL.skip {P : Program} {ops : Array Oper} {M : Nat → Mk} {o : Oper} {rest : List Oper} {i : Nat} {s : St} {Q : St → Prop} (hd : ∀ d, o.dst = some d → d < s.n) (hg : gdec ops s.env o = some false)
    (k : AL P ops M rest (i + 1) (s.step o.dst (.tup []) []) Q) : AL P ops M (o :: rest) i s Q :=
  ⟨hd, false, hg, (fun h => by cases h), fun _ => k⟩
theorem AL.guard {P : Program} {ops : Array Oper} {M : Nat → Mk} {o : Oper} {rest : List Oper} {i : Nat} {s : St} {Q : St → Prop} (hd : ∀ d, o.dst = some d → d < s.n) {b : Bool} (hg : gdec ops s.env o = some b)
    (h1 : b = true → AL P ops M (o :: rest) i s Q) (h0 : b = false → AL P ops M (o :: rest) i s Q) : AL P ops M (o :: rest) i s Q := by
  cases b
  · exact h0 rfl
  · exact h1 rfl

theorem getD_put {a : Act} {dst : Option Tmp} {u : Value} {d : Nat} : (a.put dst u).tmps.getD d undef = if dst = some d ∧ d < a.tmps.size then u else a.tmps.getD d undef := by
  cases dst with
  | none => simp [Act.put]
  | some e =>
    simp only [Act.put, Array.getD_eq_getD_getElem?, Array.getElem?_setIfInBounds]
    by_cases h : e = d
    · subst h
      by_cases h2 : e < a.tmps.size
      · simp [h2]
      · simp [h2, Array.getElem?_eq_none (Nat.le_of_not_lt h2)]
    · simp [h]

theorem put_size (a : Act) (dst : Option Tmp) (u : Value) : (a.put dst u).tmps.size = a.tmps.size := by
  cases dst <;> simp [Act.put]
theorem put_defers (a : Act) (dst : Option Tmp) (u : Value) : (a.put dst u).defers = a.defers := by
  cases dst <;> simp [Act.put]

theorem updL_some {β : Type} {H : Nat → Option β} : ∀ {up : List (Nat × β)} {id : Nat} {o : β}, updL H up id = some o → H id = some o ∨ ∃ ob, (id, ob) ∈ up
  | [], _, _, h => .inl h
  | p :: r, id, o, h => by
    simp only [updL] at h
    rcases updL_some h with h | ⟨ob, h⟩
    · by_cases e : id = p.1
      · exact .inr ⟨p.2, by rw [e]; simp⟩
      · rw [upd_ne _ _ e] at h; exact .inl h
    · exact .inr ⟨ob, by simp [h]⟩

theorem Rel.step {C C' : Cx} {s : St} {a : Act} (h : Rel C s a) {o : Oper} (hd : ∀ d, o.dst = some d → d < s.n) {v : AV} {u : Value} {up : List (Nat × AObj)} (hI : Inv C') (hle : Le C C') (hH : C'.H = updL C.H up)
    (hG : ∀ id u, C.G id = some u → ∃ u', C'.G id = some u') (hup : ∀ p ∈ up, ∃ u, C'.G p.1 = some u) (hv : Rd C' v u) : Rel C' (s.step o.dst v up) (a.put o.dst u) := by
  refine ⟨hI, by rw [hH, h.H]; rfl, fun id ob hob => ?_, fun d x hx => ?_, by rw [put_size]; exact h.size, by rw [put_defers]; exact h.defers⟩
  · simp only [St.step] at hob
    rcases updL_some hob with h1 | ⟨ob', h1⟩
    · obtain ⟨u', h2⟩ := h.real id ob h1
      exact hG id u' h2
    · exact hup _ h1
  · simp only [St.step] at hx
    rw [getD_put]
    split
    · rename_i hc
      rw [hc.1] at hx
      simp only [putE, upd_same] at hx
      injection hx with hx
      subst hx
      exact hv
    · rename_i hc
      have : s.env d = some x := by
        cases hdst : o.dst with
        | none => rw [hdst] at hx; exact hx
        | some e =>
          rw [hdst] at hx
          by_cases e2 : d = e
          · subst e2
            exact absurd ⟨hdst, by rw [h.size]; exact hd d hdst⟩ hc
          · simpa only [putE, upd_ne _ _ e2] using hx
      exact (h.env d x this).le hle

theorem Rel.wanted {C : Cx} {s : St} {a : Act} (h : Rel C s a) {ops : Array Oper} {o : Oper} {b : Bool} (hg : gdec ops s.env o = some b) : Region.wanted o (yielded ops a.tmps) = b := by
  unfold gdec at hg
  unfold Region.wanted
  split at hg
  · rename_i h1; rw [h1]; injection hg
  · rename_i j want h1
    rw [h1]
    simp only
    split at hg
    · cases hg
    · rename_i d hd
      split at hg
      · rename_i c hc
        injection hg with hg
        have h2 := h.env d _ hc
        simp only [Rd] at h2
        have h3 : a.tmps[d]? = some (.bool c) := by
          rw [Array.getD_eq_getD_getElem?] at h2
          cases h4 : a.tmps[d]? with
          | none => rw [h4] at h2; simp [undef] at h2
          | some u => rw [h4] at h2; simp at h2; rw [h2]
        simp only [yielded, hd, Option.bind_some, h3]
        rw [← hg]
        cases c <;> cases want <;> rfl
      · rename_i hc
        injection hg with hg
        have h2 := h.env d _ hc
        simp only [Rd] at h2
        obtain ⟨us, h2, h3⟩ := h2
        have hy : yielded ops a.tmps j = none := by
          simp only [yielded, hd, Option.bind_some]
          cases h4 : a.tmps[d]? with
          | none => rfl
          | some u =>
            rw [Array.getD_eq_getD_getElem?, h4] at h2
            simp at h2
            subst h2
            rfl
        rw [hy, ← hg]
        rfl
      · cases hg

/-- What a state's relation leaves, of a later state. -/
def Lift (S : Nat → Bool) (C : Cx) (Q : Exit → St → Prop) : Exit → Act → World → Prop := fun e a w =>
  ∃ s' C', Q e s' ∧ Rel C' s' a ∧ C'.w = w ∧ C'.w0 = C.w0 ∧ C'.ok0 = C.ok0 ∧ LeS S C C'

theorem Lift.later {S : Nat → Bool} {C C1 : Cx} {Q : Exit → St → Prop} {e : Exit} {a : Act} {w : World} (h : Lift S C1 Q e a w) (h0 : C1.w0 = C.w0) (h1 : C1.ok0 = C.ok0) (hle : LeS S C C1) : Lift S C Q e a w := by
  obtain ⟨s', C', q, r, e1, e2, e3, l⟩ := h
  exact ⟨s', C', q, r, e1, e2.trans h0, e3.trans h1, hle.trans l⟩

theorem wpList_of_AL {P : Program} {ops : Array Oper} {M : Nat → Mk} {S : Nat → Bool} {Q : Exit → St → Prop} : ∀ (l : List Oper) (i : Nat) (s : St) (C : Cx) (a : Act), AL P ops M l i s (Q .normal) → Rel C s a → wpList P ops (Lift S C Q) l a C.w
  | [], i, s, C, a, h, hr => by simp only [AL] at h; exact ⟨s, C, h, hr, rfl, rfl, rfl, LeS.refl S C⟩
  | o :: rest, i, s, C, a, h, hr => by
    obtain ⟨hd, b, hg, h1, h0⟩ := h
    unfold wpList
    rw [hr.wanted hg]
    cases b with
    | true =>
      simp only [if_true]
      obtain ⟨rd, up, v, hop, hk⟩ := h1 rfl
      left
      refine hop.op C a _ _ hr.inv (fun x _ y hy => hr.ev hy) (fun p hp => ?_) (fun p hp => ?_) (fun C' u hI hle hw0 hok hH hG hup hv => ?_)
      · have := hop.hrd p hp
        exact ⟨by rw [hr.H]; exact this, hr.real _ _ this⟩
      · rw [hr.H]; exact hop.hup p hp
      · have hr' := hr.step hd hI hle hH hG hup hv
        have := wpList_of_AL (S := S) rest (i + 1) _ C' _ hk hr'
        exact wpList_mono' (fun e a w h => h.later hw0 hok (hle.leS S)) _ _ _ this
    | false =>
      simp only [Bool.false_eq_true, if_false]
      have hr' : Rel C (s.step o.dst (.tup []) []) (a.put o.dst undef) := hr.step hd hr.inv (Le.refl C) rfl (fun id u h => ⟨u, h⟩) (by simp) (by simp only [Rd]; exact ⟨#[], rfl, by simp [RdL]⟩)
      exact wpList_of_AL (S := S) rest (i + 1) _ C _ (h0 rfl) hr'
where
  wpList_mono' {P : Program} {ops : Array Oper} {Q Q' : Exit → Act → World → Prop} (hq : ∀ e a w, Q e a w → Q' e a w) : ∀ (l : List Oper) (a : Act) (w : World), wpList P ops Q l a w → wpList P ops Q' l a w
    | [], a, w, h => hq _ _ _ h
    | o :: rest, a, w, h => by
      unfold wpList at h ⊢
      split
      · rename_i hw
        rw [if_pos hw] at h
        rcases h with h | ⟨h1, a', w', h2⟩
        · left
          exact owp_mono (fun a w h => wpList_mono' hq rest a w h) hq h
        · right
          exact ⟨h1, a', w', hq _ _ _ h2⟩
      · rename_i hw
        rw [if_neg hw] at h
        exact wpList_mono' hq rest _ _ h
  owp_mono {P : Program} {o : Oper} {a : Act} {w : World} {K K' : Act → World → Prop} {Q Q' : Exit → Act → World → Prop} (h : ∀ a w, K a w → K' a w) (hq : ∀ e a w, Q e a w → Q' e a w) (hh : o.wp P a w K Q) : o.wp P a w K' Q' := by
    unfold Oper.wp at *
    generalize (execOp a.eval o).run P w = r at *
    cases r with
    | ok n w' =>
      cases n <;> simp only [Oper.upon] at hh ⊢ <;>
        first
          | exact h _ _ hh
          | exact Calls.mono hh (fun e w'' he => by cases e <;> first | exact h _ _ he | exact hq _ _ _ he | exact (let ⟨x, y, z⟩ := he; ⟨x, y, hq _ _ _ z⟩))
          | exact Rows.mono hh (fun _ _ he => h _ _ he)
    | halt x w' => cases x <;> simp only [Oper.upon] at hh ⊢ <;> first | exact hq _ _ _ hh | exact hh

/-- Code, from a state. -/
def AW (P : Program) (S : Nat → Bool) (c : Code) (Q : Exit → St → Prop) (s : St) : Prop := ∀ C a, Rel C s a → c.wp P (Lift S C Q) a C.w

def AThen (K : St → Prop) (Q : Exit → St → Prop) : Exit → St → Prop
  | .normal, s => K s
  | e, s => Q e s
def ABlock (id : Nat) (Q : Exit → St → Prop) : Exit → St → Prop
  | .exit j, s => if j = id then Q .normal s else Q (.exit j) s
  | e, s => Q e s

variable {P : Program} {S : Nat → Bool} {Q : Exit → St → Prop} {s : St}

theorem AW.mono {c : Code} {Q' : Exit → St → Prop} (h : AW P S c Q s) (hq : ∀ e s, Q e s → Q' e s) : AW P S c Q' s :=
  fun C a hr => wp_mono (h C a hr) (fun e a w ⟨s', C', q, r⟩ => ⟨s', C', hq _ _ q, r⟩)
theorem AW.skip (h : Q .normal s) : AW P S .skip Q s := fun C a hr => wp_skip ⟨s, C, h, hr, rfl, rfl, rfl, LeS.refl S C⟩
theorem AW.ret (h : Q .ret s) : AW P S .ret Q s := fun C a hr => wp_ret ⟨s, C, h, hr, rfl, rfl, rfl, LeS.refl S C⟩
theorem AW.exit {id : Nat} (h : Q (.exit id) s) : AW P S (.exit id) Q s := fun C a hr => wp_exit ⟨s, C, h, hr, rfl, rfl, rfl, LeS.refl S C⟩
theorem AW.seq {x y : Code} (h : AW P S x (AThen (AW P S y Q) Q) s) : AW P S (.seq x y) Q s := fun C a hr => wp_seq (wp_mono (h C a hr) (fun e a w ⟨s', C', q, r, e1, e2, e3, l⟩ => by
  cases e with
  | normal => subst e1; exact wp_mono (q C' a r) (fun e a w h => h.later e2 e3 l)
  | _ => exact ⟨s', C', q, r, e1, e2, e3, l⟩))
theorem AW.cond {c : Operand} {x y : Code} {b : Bool} (hc : s.ev c = some (.bool b)) (h1 : b = true → AW P S x Q s) (h0 : b = false → AW P S y Q s) : AW P S (.cond c x y) Q s := fun C a hr => by
  have h := hr.ev hc
  simp only [Rd] at h
  exact wp_cond_split h (fun e => h1 e C a hr) (fun e => h0 e C a hr)
theorem AW.block {id : Nat} {c : Code} (h : AW P S c (ABlock id Q) s) : AW P S (.block id c) Q s := fun C a hr => wp_block (wp_mono (h C a hr) (fun e a w ⟨s', C', q, r⟩ => by
  cases e with
  | exit j =>
    simp only [ABlock] at q
    simp only [Exit.inBlock]
    split
    · rename_i e; rw [if_pos e] at q; exact ⟨s', C', q, r⟩
    · rename_i e; rw [if_neg e] at q; exact ⟨s', C', q, r⟩
  | _ => exact ⟨s', C', q, r⟩))
theorem AW.region {id : Nat} {l : List Oper} {M : Nat → Bool} (h : AL P l.toArray (fun i => ⟨M i, none⟩) l 0 s (Q .normal)) : AW P S (.region id l.toArray false) Q s := fun C a hr => wp_region_lit (wpList_of_AL l 0 s C a h hr)

/-- Less may be known. -/
theorem AW.weaken {c : Code} (s' : St) (hn : s'.n = s.n) (he : ∀ d v, s'.env d = some v → s.env d = some v) (hH : s'.H = s.H) (h : AW P S c Q s') : AW P S c Q s := fun C a hr =>
  h C a ⟨hr.inv, by rw [hr.H, hH], fun id o q => hr.real id o (by rw [← hH]; exact q), fun d v q => hr.env d v (he d v q), by rw [hr.size, hn], hr.defers⟩

def inO (S : Nat → Bool) : AObj → Bool
  | .box _ cells => inL S cells
  | .row _ _ _ => true
  | .arr _ _ _ rows => inR S rows

/-- Objects are forgotten: what is left leads to none of them. -/
theorem AW.forget {c : Code} (s' : St) (K : Nat → Bool) (hS : ∀ id, S id = true → K id = true) (hn : s'.n = s.n) (he : ∀ d v, s'.env d = some v → s.env d = some v ∧ inA K v = true)
    (hH : ∀ id, s'.H id = if K id = true then s.H id else none) (hO : ∀ id o, s'.H id = some o → inO K o = true) (h : AW P S c Q s') : AW P S c Q s := fun C a hr => by
  let C' : Cx := ⟨C.w0, C.ok0, s'.H, fun id => if K id = true then C.G id else none, C.w⟩
  have hG : ∀ id v, C'.G id = some v → K id = true ∧ C.G id = some v := fun id v h => by
    simp only [C'] at h
    split at h
    · rename_i q; exact ⟨q, h⟩
    · cases h
  have hHt : ∀ id, K id = true → s'.H id = C.H id := fun id hk => by rw [hH id, if_pos hk, hr.H]
  have hok : ∀ b j, C.ok b j → C'.ok b j := fun b j k => ⟨k.1, fun id v q1 q2 => by
    obtain ⟨k1, k2⟩ := hG id v q1
    obtain ⟨e, sz, n, k3, k4⟩ := k.2 id v k2 q2
    exact ⟨e, sz, n, by show s'.H id = _; rw [hHt id k1]; exact k3, k4⟩⟩
  have hptr : ∀ id, K id = true → ∀ b, C.G id = some (.pointer (some ⟨b, 0, none⟩)) → C'.G id = some (.pointer (some ⟨b, 0, none⟩)) := fun id hk b q => by
    show (if K id = true then C.G id else none) = _; rw [if_pos hk]; exact q
  have htag : ∀ id, K id = true → ∀ n v, TagP C id n v → TagP C' id n v := fun id hk n v ⟨e, sz, m, t1, t2, t3⟩ =>
    ⟨e, sz, m, by show s'.H id = _; rw [hHt id hk]; exact t1, t2, fun q => by show (if K id = true then C.G id else none) = _; rw [if_pos hk]; exact t3 q⟩
  have harr : ∀ id, K id = true → ∀ n z v, ArrP C id n z v → ArrP C' id n z v := fun id hk n z v ⟨sh, e, sz, m, rs, t1, t2, t3⟩ =>
    ⟨sh, e, sz, m, rs, by show s'.H id = _; rw [hHt id hk]; exact t1, t2, fun q => by show ∃ g, (if K id = true then C.G id else none) = _ ∧ _; rw [if_pos hk]; exact t3 q⟩
  have hl : Le0 C C' K := ⟨fun b j u k1 k2 => ⟨hok b j k1, k2⟩, hptr, htag, harr⟩
  have hls : LeS S C C' := ⟨fun b j u k1 k2 => ⟨hok b j k1, k2⟩, fun id q => hptr id (hS id q), fun id q => htag id (hS id q), fun id q => harr id (hS id q), Nat.le_refl _, fun b _ hn => ⟨rfl, fun id v q1 q2 => hn id v (hG id v q1).2 q2⟩⟩
  have hI : Inv C' := by
    refine ⟨hr.inv.below, fun id v q => ?_, fun id id' v v' b q1 q2 => hr.inv.apart id id' v v' b (hG id v q1).2 (hG id' v' q2).2, hr.inv.fresh, fun id v b q1 => hr.inv.okG id v b (hG id v q1).2⟩
    obtain ⟨k1, k2⟩ := hG id v q
    obtain ⟨o, k3, k4⟩ := hr.inv.obj id v k2
    have k5 : s'.H id = some o := by rw [hHt id k1]; exact k3
    refine ⟨o, k5, ?_⟩
    cases o with
    | box t cells =>
      obtain ⟨b, cs, q1, q2, q3, q4, q5⟩ := k4
      exact ⟨b, cs, q1, q2, q3, RdL.mono hl _ _ (hO id _ k5) q4, q5⟩
    | row e sz n => exact k4
    | arr e sz ver rows =>
      obtain ⟨z1, z2, xs, z3, z4, z5⟩ := k4
      refine ⟨z1, z2, xs, z3, RdL.mono hl _ _ ?_ z4, z5⟩
      have := hO id _ k5
      simp only [inO] at this
      rw [inL_all, List.all_flatten]
      rw [inR_all] at this
      exact this
  have hr' : Rel C' s' a := by
    refine ⟨hI, rfl, fun id o q => ?_, fun d v q => ?_, by rw [hr.size, hn], hr.defers⟩
    · have hk : K id = true := by
        cases hk : K id with
        | true => rfl
        | false => rw [hH id, hk] at q; simp at q
      rw [hHt id hk, hr.H] at q
      obtain ⟨v, hv⟩ := hr.real id o q
      exact ⟨v, by show (if K id = true then C.G id else none) = _; rw [if_pos hk]; exact hv⟩
    · obtain ⟨k1, k2⟩ := he d v q
      exact Rd.mono hl _ _ k2 (hr.env d v k1)
  exact wp_mono (h C' a hr') (fun e a w h => Lift.later h rfl rfl hls)

/-- A loop: the states at its head are I x; each round lowers the measure, or leaves. -/
theorem AW.loop {α : Type} {c : Code} (I : α → St → Prop) (μ : α → Nat) (x0 : α) (h0 : I x0 s) (round : ∀ x s, I x s → AW P S c (AThen (fun s' => ∃ y, I y s' ∧ μ y < μ x) Q) s) : AW P S (.loop c) Q s := fun C a hr => by
  refine wp_loop_ghost (I := fun n a w => ∃ x s' C', I x s' ∧ μ x = n ∧ Rel C' s' a ∧ C'.w = w ∧ C'.w0 = C.w0 ∧ C'.ok0 = C.ok0 ∧ LeS S C C') (μ x0) ⟨x0, s, C, h0, rfl, hr, rfl, rfl, rfl, LeS.refl S C⟩ ?_
  rintro n a w ⟨x, s', C', hx, rfl, hr', rfl, e1, e2, l⟩
  refine wp_mono (round x s' hx C' a hr') (fun e a w hl => ?_)
  obtain ⟨s2, C2, q, r, f1, f2, f3, l2⟩ := hl
  cases e with
  | normal =>
    obtain ⟨y, hy, hlt⟩ := q
    exact ⟨μ y, hlt, y, s2, C2, hy, rfl, r, f1, f2.trans e1, f3.trans e2, l.trans l2⟩
  | _ => exact ⟨s2, C2, q, r, f1, f2.trans e1, f3.trans e2, l.trans l2⟩

end Go.Proofs.Ytbcjcekoonebiaa.Tl
