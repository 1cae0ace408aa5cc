/- The tree logic, part J: the rules as they are used, over states that are lists. Conditions: none. -/
import Derived.Test.YtbcjcekoonebiaaTlI
set_option linter.unusedVariables false
set_option linter.unusedSimpArgs false
set_option linter.unusedSectionVars false
namespace Go.Proofs.Ytbcjcekoonebiaa.Tl
open Go Go.RowKit

def lk {β : Type} : List (Nat × β) → Nat → Option β
  | [], _ => none
  | (a, b) :: r, k => bif Nat.beq k a then some b else lk r k
def pt {β : Type} (E : List (Nat × β)) : Option Nat → β → List (Nat × β)
  | some d, v => (d, v) :: E
  | none, _ => E
def dOk : Option Nat → Nat → Bool
  | some d, n => Nat.blt d n
  | none, _ => true
abbrev mkS (n : Nat) (E : List (Nat × AV)) (H : List (Nat × AObj)) : St := ⟨n, lk E, lk H⟩
def evE (E : List (Nat × AV)) : Operand → Option AV
  | .tmp t => lk E t
  | .const v => ofVal v
  | .func f => some (.func f [] [])
  | .global _ => none

theorem lk_cons {β : Type} (d : Nat) (v : β) (E : List (Nat × β)) : lk ((d, v) :: E) = upd (lk E) d v := by
  funext k
  simp only [lk, upd]
  by_cases h : k = d
  · subst h; simp
  · have : Nat.beq k d = false := by
      cases hq : Nat.beq k d with
      | false => rfl
      | true => exact absurd (Nat.eq_of_beq_eq_true hq) h
    simp [this, h]
theorem lk_pt (E : List (Nat × AV)) (d : Option Nat) (v : AV) : putE (lk E) d v = lk (pt E d v) := by
  cases d with
  | none => rfl
  | some d => exact (lk_cons d v E).symm
theorem ev_lk (n : Nat) (E : List (Nat × AV)) (H : List (Nat × AObj)) : (mkS n E H).ev = evE E := by
  funext x; cases x <;> rfl
theorem argE_lk (args : List AV) : argE args = lk ((List.range args.length).zip args) := by
  funext i
  have key : ∀ (l : List AV) (k i : Nat), lk ((List.range' k l.length).zip l) (k + i) = l[i]? := by
    intro l
    induction l with
    | nil => intro k i; rfl
    | cons x l ih =>
      intro k i
      simp only [List.length_cons, List.range'_succ, List.zip_cons_cons, lk]
      cases i with
      | zero => simp
      | succ i =>
        have h : Nat.beq (k + (i + 1)) k = false := by
          cases hq : Nat.beq (k + (i + 1)) k with
          | false => rfl
          | true => have := Nat.eq_of_beq_eq_true hq; omega
        rw [h, cond_false, show k + (i + 1) = k + 1 + i by omega, ih (k + 1) i]
        simp
  have := key args 0 i
  rw [Nat.zero_add] at this
  rw [List.range_eq_range', this]
  rfl
theorem updL_lk (H : List (Nat × AObj)) (id : Nat) (o : AObj) : updL (lk H) [(id, o)] = lk ((id, o) :: H) := by
  simp only [updL, lk_cons]

structure TI.Good (T : TI) (P : Program) : Prop extends T.Ok P where
  zr : ∀ {t r}, gt T.zr t = some r → Tl.zr P t = some r
  plc : ∀ {t r}, gt T.plc t = some r → plcs P t = some r
  byt : ∀ {t r}, gt T.byt t = some r → Tl.byt P t = some r
  fns : ∀ {f}, gt T.fns f = some true → callable P f = true
  wide : P.follows .mixedOrders = true

theorem aval_rd {T : TI} {H : Nat → Option AObj} {ρ : Operand → Option AV} {op : Op} {v : AV} {rd : List (Nat × AObj)} (h : aval T H ρ op = some (v, rd)) :
    (rd = [] ∨ (isLoad op = true ∧ ∀ p ∈ rd, ∃ x ∈ op.operands, Leads (ρ x) p.1)) ∧ ∀ p ∈ rd, H p.1 = some p.2 := by
  by_cases hld : ∃ ty x, op = .load ty x
  · obtain ⟨ty, x, rfl⟩ := hld
    simp only [aval] at h
    split at h
    · rename_i g n id off h1 h2
      split at h
      · rename_i t cells h3
        simp only [Option.map_eq_some_iff, Prod.mk.injEq] at h
        obtain ⟨y, hy, rfl, rfl⟩ := h
        refine ⟨.inr ⟨rfl, fun p hp => ?_⟩, fun p hp => ?_⟩
        · simp only [List.mem_singleton] at hp; subst hp; exact ⟨x, by simp [Op.operands], .inl ⟨off, h2⟩⟩
        · simp only [List.mem_singleton] at hp; subst hp; exact h3
      · cases h
    · simp only [Option.map_eq_some_iff, Prod.mk.injEq] at h
      obtain ⟨y, hy, rfl, rfl⟩ := h
      exact ⟨.inl rfl, by simp⟩
    · cases h
  · have : rd = [] := by
      cases op <;> simp only [aval] at h <;> first
        | (cases h; done)
        | (exact absurd ⟨_, _, rfl⟩ hld)
        | (repeat' (split at h)
           all_goals first
             | (cases h; done)
             | (simp only [Option.map_eq_some_iff, Prod.mk.injEq] at h; obtain ⟨_, _, _, h⟩ := h; exact h.symm)
             | (injection h with h; injection h with _ h; exact h.symm))
    subst this
    exact ⟨.inl rfl, by simp⟩

section
variable {P : Program} {T : TI} (hT : T.Good P) {ops : Array Oper} {M : Nat → Mk} {o : Oper} {rest : List Oper} {i n : Nat} [nc : NC M i] {E : List (Nat × AV)} {H : List (Nat × AObj)} {Q : St → Prop}
include hT

theorem dOk_spec {d : Option Nat} {n : Nat} (h : dOk d n = true) : ∀ t, d = some t → t < n := by
  rintro t rfl
  exact Nat.le_of_ble_eq_true h

omit hT in
theorem dOk1 {d : Nat} (hd : o.dst = some d) (hn : Nat.blt d n = true) : ∀ t, o.dst = some t → t < n := fun t h => by
  rw [hd] at h; injection h with h; subst h; exact Nat.le_of_ble_eq_true hn

/-- An operation that only computes or reads. -/
theorem AL.v {d : Nat} (hd : o.dst = some d) (hn : Nat.blt d n = true) (hg : gdec ops (lk E) o = some true) {v : AV} {rd : List (Nat × AObj)} (hv : aval T (lk H) (evE E) o.op = some (v, rd))
    (k : AL P ops M rest (i + 1) (mkS n ((d, v) :: E) H) Q) : AL P ops M (o :: rest) i (mkS n E H) Q := by
  obtain ⟨h1, h2⟩ := aval_rd hv
  refine AL.op (dOk1 hd hn) hg (rd := rd) (up := []) (v := v) ⟨by rw [ev_lk]; exact aval_sound hT.toOk hv, h2, by simp, .inr ⟨by rw [ev_lk]; exact h1, .inl rfl⟩, NC.no⟩ ?_
  unfold St.step
  rw [hd, lk_pt]
  exact k

theorem AL.bld {d : Nat} (hd : o.dst = some d) (hn : Nat.blt d n = true) (hg : gdec ops (lk E) o = some true) {ty : TypeId} {parts : Array (Nat × Operand)} (ho : o.op = .build ty parts) {z l : List AV} {pl : List (Nat × Nat)} (hz : gt T.zr ty = some z) (hp : gt T.plc ty = some pl)
    (hf : fillA pl (evE E) z parts.toList = some l) (k : AL P ops M rest (i + 1) (mkS n ((d, (.agg l)) :: E) H) Q) : AL P ops M (o :: rest) i (mkS n E H) Q := by
  refine AL.op (dOk1 hd hn) hg (rd := []) (up := []) (v := .agg l) ⟨by rw [ev_lk]; exact OpS.build ho (hT.zr hz) (hT.plc hp) hf, by simp, by simp, .inr ⟨.inl rfl, .inl rfl⟩, NC.no⟩ ?_
  unfold St.step
  rw [hd, lk_pt]
  exact k

theorem AL.newObj {d : Nat} (hd : o.dst = some d) (hn : Nat.blt d n = true) (hg : gdec ops (lk E) o = some true) (id : Nat) (hid : lk H id = none) {ob : AObj} {v : AV} (hnw : isNew o.op = true) (h : OpS P o (evE E) [] [(id, ob)] v)
    (k : AL P ops M rest (i + 1) (mkS n ((d, v) :: E) ((id, ob) :: H)) Q) : AL P ops M (o :: rest) i (mkS n E H) Q := by
  refine AL.op (dOk1 hd hn) hg (rd := []) (up := [(id, ob)]) (v := v) ⟨by rw [ev_lk]; exact h, by simp, fun p hp => ?_, .inr ⟨.inl rfl, .inr ⟨hnw, fun p hp => ?_⟩⟩, NC.no⟩ ?_
  · simp only [List.mem_singleton] at hp; subst hp; exact .inr hid
  · simp only [List.mem_singleton] at hp; subst hp; exact hid
  · unfold St.step
    rw [hd, lk_pt, updL_lk]
    exact k

theorem AL.alc {d : Nat} (hd : o.dst = some d) (hn : Nat.blt d n = true) (hg : gdec ops (lk E) o = some true) {ty : TypeId} (ho : o.op = .alloc ty) {z : List AV} (hz : gt T.zr ty = some z) (id : Nat) (hid : lk H id = none)
    (k : AL P ops M rest (i + 1) (mkS n ((d, (.ptr id 0)) :: E) ((id, .box ty z) :: H)) Q) : AL P ops M (o :: rest) i (mkS n E H) Q :=
  AL.newObj hT hd hn hg id hid (by rw [ho]; rfl) (OpS.alloc ho (hT.zr hz) id) k
theorem AL.bx {d : Nat} (hd : o.dst = some d) (hn : Nat.blt d n = true) (hg : gdec ops (lk E) o = some true) {ty : TypeId} {x : Operand} (ho : o.op = .box ty x) {y : AV} (hy : evE E x = some y) {l : List AV} (hl : cellsA y = some l) (id : Nat) (hid : lk H id = none)
    (k : AL P ops M rest (i + 1) (mkS n ((d, (.ptr id 0)) :: E) ((id, .box ty l) :: H)) Q) : AL P ops M (o :: rest) i (mkS n E H) Q :=
  AL.newObj hT hd hn hg id hid (by rw [ho]; rfl) (OpS.box ho hy hl id) k
theorem AL.lit {d : Nat} (hd : o.dst = some d) (hn : Nat.blt d n = true) (hg : gdec ops (lk E) o = some true) {ty : TypeId} {len : Nat} {parts : Array (Nat × Operand)} (ho : o.op = .buildSlice ty len parts) {e sz : Nat} (he : gt T.elm ty = some (e, sz + 1))
    {z : List AV} (hz : gt T.zr e = some z) {rows : List (List AV)} (hs : seqA (evE E) (sz + 1) 0 parts.toList = some rows) (hl : Nat.beq rows.length len = true) (hb : Nat.ble (len * (sz + 1)) 16777216 = true) (id : Nat) (hid : lk H id = none)
    (k : AL P ops M rest (i + 1) (mkS n ((d, (.sl (.own id) (sz + 1) rows)) :: E) ((id, .row e (sz + 1) rows.length) :: H)) Q) : AL P ops M (o :: rest) i (mkS n E H) Q :=
  AL.newObj hT hd hn hg id hid (by rw [ho]; rfl) (OpS.lit ho (hT.elm he) (Nat.succ_pos _) (hT.zr hz) hs (Nat.eq_of_beq_eq_true hl) (Nat.le_of_ble_eq_true hb) id) k

theorem AL.st (hd : o.dst = none) (hg : gdec ops (lk E) o = some true) {ty : TypeId} {x y : Operand} (ho : o.op = .store ty x y) {id off : Nat} (hx : evE E x = some (.ptr id off)) {v : AV} (hy : evE E y = some v) {l : List AV} (hl : cellsA v = some l)
    {g : Bool} {m : Nat} (hlay : gt T.lay ty = some (g, m)) (hlm : Nat.beq l.length m = true) {t : TypeId} {cells : List AV} (hH : lk H id = some (.box t cells)) (hb : Nat.ble (off + l.length) cells.length = true) (hm : (M i).b = true)
    (k : AL P ops M rest (i + 1) (mkS n (E) ((id, .box t (spl cells off l)) :: H)) Q) : AL P ops M (o :: rest) i (mkS n E H) Q := by
  have e := Nat.eq_of_beq_eq_true hlm
  refine AL.op (fun d h => by rw [hd] at h; cases h) hg (rd := [(id, .box t cells)]) (up := [(id, .box t (spl cells off l))]) (v := .undef) ⟨by rw [ev_lk]; exact OpS.store ho hx hy hl (by rw [e]; exact hT.lay hlay) (Nat.le_of_ble_eq_true hb), fun p hp => ?_, fun p hp => ?_, .inl hm, NC.no⟩ ?_
  · simp only [List.mem_singleton] at hp; subst hp; exact hH
  · simp only [List.mem_singleton] at hp; subst hp; exact .inl ⟨_, List.mem_singleton.2 rfl⟩
  · unfold St.step
    rw [hd, updL_lk]
    exact k

theorem AL.app {d : Nat} (hd : o.dst = some d) (hn : Nat.blt d n = true) (hg : gdec ops (lk E) o = some true) {ty : TypeId} {s x : Operand} (ho : o.op = .call { callee := .builtin .append, args := #[s, x], argTypes := #[ty, ty] }) {e sz : Nat} (he : gt T.elm ty = some (e, sz + 1)) {z : List AV} (hz : gt T.zr e = some z) (hzl : Nat.beq z.length (sz + 1) = true) {by_ : Nat} (hby : gt T.byt e = some by_)
    {id : Nat} {tagx : Tag} {rows news : List (List AV)} (hs : evE E s = some (.sl (.own id) (sz + 1) rows)) (hx : evE E x = some (.sl tagx (sz + 1) news)) (hH : lk H id = some (.row e (sz + 1) rows.length)) (hm : (M i).b = true) (hne : news ≠ []) (hb : (rows.length + news.length) * by_ ≤ 140737488355328) (hb2 : rows.length + news.length ≤ 9223372036854775807)
    (k : AL P ops M rest (i + 1) (mkS n ((d, (.sl (.own id) (sz + 1) (rows ++ news))) :: E) ((id, .row e (sz + 1) (rows.length + news.length)) :: H)) Q) : AL P ops M (o :: rest) i (mkS n E H) Q := by
  refine AL.op (dOk1 hd hn) hg (rd := [(id, .row e (sz + 1) rows.length)]) (up := [(id, .row e (sz + 1) (rows.length + news.length))]) (v := .sl (.own id) (sz + 1) (rows ++ news)) ⟨by rw [ev_lk]; exact OpS.append ho (hT.elm he) (Nat.succ_pos _) (hT.zr hz) (Nat.eq_of_beq_eq_true hzl) (hT.byt hby) hs hx hne hb hb2, fun p hp => ?_, fun p hp => ?_, .inl hm, NC.no⟩ ?_
  · simp only [List.mem_singleton] at hp; subst hp; exact hH
  · simp only [List.mem_singleton] at hp; subst hp; exact .inl ⟨_, List.mem_singleton.2 rfl⟩
  · unfold St.step
    rw [hd, lk_pt, updL_lk]
    exact k
theorem AL.appN {d : Nat} (hd : o.dst = some d) (hn : Nat.blt d n = true) (hg : gdec ops (lk E) o = some true) {ty : TypeId} {s x : Operand} (ho : o.op = .call { callee := .builtin .append, args := #[s, x], argTypes := #[ty, ty] }) {e sz : Nat} (he : gt T.elm ty = some (e, sz + 1)) {z : List AV} (hz : gt T.zr e = some z) (hzl : Nat.beq z.length (sz + 1) = true) {by_ : Nat} (hby : gt T.byt e = some by_)
    {szs : Nat} {tagx : Tag} {news : List (List AV)} (hs : evE E s = some (.sl .nil szs [])) (hx : evE E x = some (.sl tagx (sz + 1) news)) (hne : news ≠ []) (hb : news.length * by_ ≤ 140737488355328) (hb2 : news.length ≤ 9223372036854775807) (id : Nat) (hid : lk H id = none)
    (k : AL P ops M rest (i + 1) (mkS n ((d, (.sl (.own id) (sz + 1) news)) :: E) ((id, .row e (sz + 1) news.length) :: H)) Q) : AL P ops M (o :: rest) i (mkS n E H) Q :=
  AL.newObj hT hd hn hg id hid (by rw [ho]; rfl) (OpS.appendNil ho (hT.elm he) (Nat.succ_pos _) (hT.zr hz) (Nat.eq_of_beq_eq_true hzl) (hT.byt hby) hs hx hne hb hb2 id) k
theorem AL.app0 {d : Nat} (hd : o.dst = some d) (hn : Nat.blt d n = true) (hg : gdec ops (lk E) o = some true) {ty : TypeId} {s x : Operand} (ho : o.op = .call { callee := .builtin .append, args := #[s, x], argTypes := #[ty, ty] }) {e sz : Nat} (he : gt T.elm ty = some (e, sz))
    {tag tagx : Tag} {szs szx : Nat} {rows : List (List AV)} (hs : evE E s = some (.sl tag szs rows)) (hx : evE E x = some (.sl tagx szx [])) (k : AL P ops M rest (i + 1) (mkS n ((d, (.sl tag szs rows)) :: E) H) Q) : AL P ops M (o :: rest) i (mkS n E H) Q := by
  refine AL.op (dOk1 hd hn) hg (rd := []) (up := []) (v := .sl tag szs rows) ⟨by rw [ev_lk]; exact OpS.append0 ho (hT.elm he) hs hx, by simp, by simp, .inr ⟨.inl rfl, .inl rfl⟩, NC.no⟩ ?_
  unfold St.step
  rw [hd, lk_pt]
  exact k

theorem AL.cl {d : Nat} (hd : o.dst = some d) (hn : Nat.blt d n = true) (hg : gdec ops (lk E) o = some true) {cf : Operand} {args : Array Operand} {tys : Array TypeId} (ho : o.op = .call { callee := .value cf, args := args, argTypes := tys }) {f : FuncId} {first caps : List AV}
    (hf : evE E cf = some (.func f first caps)) (hc : gt T.fns f = some true) {as : List AV} (ha : listA (evE E) args.toList = some as) {xs : List AV} (hx : puL (first ++ as ++ caps) = xs) (hp : pureL xs = true) {res : AV} (h : ACall P f xs res)
    (k : AL P ops M rest (i + 1) (mkS n ((d, res) :: E) H) Q) : AL P ops M (o :: rest) i (mkS n E H) Q := by
  refine AL.op (dOk1 hd hn) hg (rd := []) (up := []) (v := res) ⟨by rw [ev_lk]; exact OpS.call ho hf (hT.fns hc) ha hx hp h, by simp, by simp, .inr ⟨.inl rfl, .inl rfl⟩, NC.no⟩ ?_
  unfold St.step
  rw [hd, lk_pt]
  exact k

theorem AL.clH {d : Nat} (hd : o.dst = some d) (hn : Nat.blt d n = true) (hg : gdec ops (lk E) o = some true) {cf : Operand} {args : Array Operand} {tys : Array TypeId} (ho : o.op = .call { callee := .value cf, args := args, argTypes := tys }) {f : FuncId} {first caps : List AV}
    (hf : evE E cf = some (.func f first caps)) (hc : gt T.fns f = some true) {as : List AV} (ha : listA (evE E) args.toList = some as) {rd up : List (Nat × AObj)} {res : AV} (h : ACallH P f (first ++ as ++ caps) rd up res) (hrd : ∀ p ∈ rd, lk H p.1 = some p.2) (hur : ∀ p ∈ up, ∃ ob, (p.1, ob) ∈ rd) (hm : (M i).b = true)
    (k : AL P ops M rest (i + 1) ⟨n, lk ((d, res) :: E), updL (lk H) up⟩ Q) : AL P ops M (o :: rest) i (mkS n E H) Q := by
  refine AL.op (dOk1 hd hn) hg (rd := rd) (up := up) (v := res) ⟨by rw [ev_lk]; exact OpS.callH ho hf (hT.fns hc) ha h hur, hrd, fun p hp => .inl (hur p hp), .inl hm, NC.no⟩ ?_
  unfold St.step
  rw [hd, lk_pt]
  exact k

theorem AL.sk {d : Nat} (hd : o.dst = some d) (hn : Nat.blt d n = true) (hg : gdec ops (lk E) o = some false) (k : AL P ops M rest (i + 1) (mkS n ((d, .tup []) :: E) H) Q) : AL P ops M (o :: rest) i (mkS n E H) Q := by
  refine AL.skip (dOk1 hd hn) hg ?_
  unfold St.step
  rw [hd, lk_pt]
  exact k
end

/-- Only these slots and objects are kept. -/
theorem AW.trim {P : Program} {S : Nat → Bool} {Q : Exit → St → Prop} {c : Code} {n : Nat} {E : List (Nat × AV)} {H : List (Nat × AObj)} (E' : List (Nat × AV)) (H' : List (Nat × AObj)) (hS : ∀ id, S id = true → idsIn H' id = true)
    (hE : ∀ p ∈ E', lk E p.1 = some p.2 ∧ inA (idsIn H') p.2 = true) (hH : ∀ p ∈ H', lk H p.1 = some p.2 ∧ inO (idsIn H') p.2 = true) (h : AW P S c Q (mkS n E' H')) : AW P S c Q (mkS n E H) := by
  have mem : ∀ {β : Type} {l : List (Nat × β)} {k : Nat} {b : β}, lk l k = some b → (k, b) ∈ l := by
    intro β l
    induction l with
    | nil => intro k b h; cases h
    | cons p r ih =>
      obtain ⟨a, c⟩ := p
      intro k b h
      simp only [lk] at h
      cases hq : Nat.beq k a with
      | true => rw [hq] at h; simp only [cond_true] at h; injection h with h; subst h; have := Nat.eq_of_beq_eq_true hq; subst this; simp
      | false => rw [hq] at h; simp only [cond_false] at h; simp [ih h]
  have some' : ∀ {l : List (Nat × AObj)} {k : Nat} {b : AObj}, (k, b) ∈ l → ∃ b', lk l k = some b' := by
    intro l
    induction l with
    | nil => intro k b h; cases h
    | cons p r ih =>
      obtain ⟨a, c⟩ := p
      intro k b h
      simp only [lk]
      cases hq : Nat.beq k a with
      | true => exact ⟨c, rfl⟩
      | false =>
        rcases List.mem_cons.1 h with h | h
        · injection h with h1 h2; subst h1; simp at hq
        · simpa using ih h
  refine AW.forget (mkS n E' H') (idsIn H') hS rfl (fun d v h => hE (d, v) (mem h)) (fun id => ?_) (fun id o h => (hH (id, o) (mem h)).2) h
  show lk H' id = if idsIn H' id = true then lk H id else none
  cases hq : idsIn H' id with
  | true =>
    obtain ⟨o, ho⟩ := idsIn_iff.1 hq
    obtain ⟨o', ho'⟩ := some' ho
    rw [if_pos rfl, ho', (hH _ (mem ho')).1]
  | false =>
    rw [if_neg (by simp)]
    cases hl : lk H' id with
    | none => rfl
    | some o => have := idsIn_iff.2 ⟨o, mem hl⟩; rw [hq] at this; cases this

end Go.Proofs.Ytbcjcekoonebiaa.Tl
