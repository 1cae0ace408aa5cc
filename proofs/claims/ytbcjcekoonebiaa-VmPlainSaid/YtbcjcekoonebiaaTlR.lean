/- The tree logic, part R: functions that are handed what is the caller's own; texts appended to bytes. Conditions: none. -/
import Derived.Test.YtbcjcekoonebiaaTlO
import Derived.Lib.AppendStr
set_option linter.unusedVariables false
set_option linter.unusedSimpArgs false
set_option linter.unusedSectionVars false
namespace Go.Proofs.Ytbcjcekoonebiaa.Tl
open Go Go.RowKit

theorem updL_rev (H : List (Nat × AObj)) : ∀ l : List (Nat × AObj), updL (lk H) l = lk (l.reverse ++ H) := by
  intro l
  induction l generalizing H with
  | nil => rfl
  | cons p r ih =>
    simp only [updL]
    rw [← lk_cons, ih]
    simp
theorem none_lk : (fun _ => none : Nat → Option AObj) = lk [] := rfl

/-- The body of such a function. -/
theorem ACallH.go {P : Program} {f : FuncId} {fn : Func} {c : Code} {args : List AV} {res : AV} {rd up : List (Nat × AObj)} {n : Nat} (E : List (Nat × AV)) (H : List (Nat × AObj)) (hf : P.funcs[f]? = some fn) (hb : fn.body = some c) (hn : fn.ntmps = n) (hE : (List.range args.length).zip args = E) (hH : rd.reverse = H) (hl : Nat.ble args.length n = true)
    (ha : inL (idsIn rd) args = true) (hrd : ∀ p ∈ rd, inO (idsIn rd) p.2 = true) (hu : ∀ p ∈ up, idsIn rd p.1 = true ∧ inO (idsIn rd) p.2 = true) (hr : inA (idsIn rd) res = true)
    (h : AW P (idsIn rd) c (RetH P fn res rd up) (mkS n E H)) : ACallH P f args rd up res := by
  subst hn hE hH
  refine ACallH.body hf hb (Nat.le_of_ble_eq_true hl) ha hrd hu hr ?_
  rw [argE_lk, none_lk, updL_rev, List.append_nil]
  exact h
theorem RetH.w {P : Program} {T : TI} (hT : T.Good P) {fn : Func} {e : Exit} {rs : List ResultVar} {n : Nat} {E : List (Nat × AV)} {H : List (Nat × AObj)} {xs : List AV} {res : AV} {rd up : List (Nat × AObj)} (he : e = .normal ∨ e = .ret) (hr : fn.results.toList = rs) (h : resL T E H rs = some xs) (hw : Wv (tupA xs) res)
    (ho : ∀ p ∈ rd, lk H p.1 = updL (updL (fun _ => none) rd) up p.1) : RetH P fn res rd up e (mkS n E H) := ⟨he, ⟨_, ResA.of hT hr h, fun C v q => Wv.rd _ _ v hw q⟩, ho⟩

/-- Arguments, of which nil slices are taken for rows of the call's own. -/
def AdL (id sz : Nat) : List AV → List AV → Prop
  | [], [] => True
  | x :: xs, y :: ys => (Wv x y ∨ ((∃ s0, x = .sl .nil s0 []) ∧ y = .sl (.own id) sz [])) ∧ AdL id sz xs ys
  | _, _ => False
theorem AdL.rd {C C' : Cx} (l : Le C C') {id sz : Nat} {e : TypeId} (hH : C'.H id = some (.row e sz 0)) (hG : C'.G id = some (.slice none 0 0)) : ∀ (xs ys : List AV) (vs : List Value), AdL id sz xs ys → RdL C xs vs → RdL C' ys vs
  | [], [], _, _, hr => by cases ‹List Value› <;> simp_all [RdL]
  | [], _ :: _, _, h, _ => by simp [AdL] at h
  | _ :: _, [], _, h, _ => by simp [AdL] at h
  | _ :: _, _ :: _, [], _, hr => by simp [RdL] at hr
  | x :: xs, y :: ys, v :: vs, h, hr => by
    simp only [AdL, RdL] at h hr ⊢
    refine ⟨?_, AdL.rd l hH hG xs ys vs h.2 hr.2⟩
    rcases h.1 with h1 | ⟨⟨s0, rfl⟩, rfl⟩
    · exact Wv.rd _ _ _ h1 (hr.1.le l)
    · have q2 := hr.1
      simp only [Rd] at q2 ⊢
      obtain ⟨A, cp, e0, h1, h2, _, h4⟩ := q2
      rw [h4]
      exact ⟨none, 0, rfl, Nat.le_refl _, by simp, .inl trivial, e, sz, 0, hH, Nat.le_refl _, fun _ => hG⟩

theorem clW_op {P : Program} {T : TI} (hT : T.Good P) {o : Oper} {E : List (Nat × AV)} {cf : Operand} {args : Array Operand} {tys : Array TypeId} (ho : o.op = .call { callee := .value cf, args := args, argTypes := tys }) {f : FuncId} {first caps : List AV}
    (hf : evE E cf = some (.func f first caps)) (hc : gt T.fns f = some true) {aw : List AV} (ha : listA (evE E) args.toList = some aw) {xs : List AV} {rd up : List (Nat × AObj)} {res : AV} (h : ACallH P f xs rd up res) (hx : WvL (first ++ aw ++ caps) xs) (hur : ∀ p ∈ up, ∃ ob, (p.1, ob) ∈ rd) : OpS P o (evE E) rd up res := by
  intro C a next Q hI hρ hrd hup hk
  obtain ⟨m1, m2⟩ := mem_call ho
  have q := hρ cf m1 _ hf
  simp only [Rd] at q
  obtain ⟨vs, us, q0, q1, q2⟩ := q
  have qa := listA_rd (C := C) (a := a) ha (fun x hx => hρ x (m2 x hx))
  unfold Oper.wp
  rw [run_call (C := C) ho q0 (hT.fns hc), Oper.upon_enter]
  have hall : RdL C xs (vs ++ args.map a.eval ++ us).toList := by
    refine WvL.rd _ _ _ hx ?_
    simp only [Array.toList_append, Array.toList_map]
    exact (q1.append qa).append q2
  refine (h C _ hI hrd hall).mono fun e w' hr => ?_
  obtain ⟨v, C', rfl, rfl, hI', hle, e0, e1, e2, hG, hv⟩ := hr
  refine hk C' v hI' hle e0 e1 e2 hG (fun p hp => ?_) hv
  obtain ⟨ob, hob⟩ := hur p hp
  obtain ⟨_, u, hu⟩ := hrd _ hob
  exact hG _ u hu

section
variable {P : Program} {T : TI} (hT : T.Good P) {ops : Array Oper} {M : Nat → Mk} {o : Oper} {rest : List Oper} {i n : Nat} [nc : NC M i] {E : List (Nat × AV)} {H : List (Nat × AObj)} {Q : St → Prop}
include hT

/-- A call of a function that is handed what is the caller's own. -/
theorem AL.clW {d : Nat} (hd : o.dst = some d) (hn : Nat.blt d n = true) (hg : gdec ops (lk E) o = some true) {cf : Operand} {args : Array Operand} {tys : Array TypeId} (ho : o.op = .call { callee := .value cf, args := args, argTypes := tys }) {f : FuncId} {first caps : List AV}
    (hf : evE E cf = some (.func f first caps)) (hc : gt T.fns f = some true) {aw : List AV} (ha : listA (evE E) args.toList = some aw) {xs : List AV} {rd up : List (Nat × AObj)} {res : AV} (h : ACallH P f xs rd up res) (hx : WvL (first ++ aw ++ caps) xs) (hrd : ∀ p ∈ rd, lk H p.1 = some p.2) (hur : ∀ p ∈ up, ∃ ob, (p.1, ob) ∈ rd) (hm : (M i).b = true)
    {H2 : List (Nat × AObj)} (hH2 : up.reverse ++ H = H2) (k : AL P ops M rest (i + 1) (mkS n ((d, res) :: E) H2) Q) : AL P ops M (o :: rest) i (mkS n E H) Q := by
  have hS : OpS P o (evE E) rd up res := clW_op hT ho hf hc ha h hx hur
  refine AL.op (dOk1 hd hn) hg (rd := rd) (up := up) (v := res) ⟨by rw [ev_lk]; exact hS, hrd, fun p hp => .inl (hur p hp), .inl hm, NC.no⟩ ?_
  unfold St.step
  rw [hd, lk_pt, updL_rev, hH2]
  exact k

/-- .. where nil is handed for a row: the row is the caller's own then. -/
theorem AL.clN {d : Nat} (hd : o.dst = some d) (hn : Nat.blt d n = true) (hg : gdec ops (lk E) o = some true) {cf : Operand} {args : Array Operand} {tys : Array TypeId} (ho : o.op = .call { callee := .value cf, args := args, argTypes := tys }) {f : FuncId} {first caps : List AV}
    (hf : evE E cf = some (.func f first caps)) (hc : gt T.fns f = some true) {aw : List AV} (ha : listA (evE E) args.toList = some aw) {xs : List AV} (id sz : Nat) (e : TypeId) (hsz : Nat.blt 0 sz = true) (hid : lk H id = none) {ob : AObj} {res : AV} (h : ACallH P f xs [(id, .row e sz 0)] [(id, ob)] res) (hx : AdL id sz (first ++ aw ++ caps) xs) (hm : (M i).b = true)
    (k : AL P ops M rest (i + 1) (mkS n ((d, res) :: E) ((id, ob) :: H)) Q) : AL P ops M (o :: rest) i (mkS n E H) Q := by
  have hS : OpS P o (evE E) [] [(id, ob)] res := by
    intro C a next Q hI hρ hrd hup hk
    obtain ⟨m1, m2⟩ := mem_call ho
    have q := hρ cf m1 _ hf
    simp only [Rd] at q
    obtain ⟨vs, us, q0, q1, q2⟩ := q
    have qa := listA_rd (C := C) (a := a) ha (fun x hx => hρ x (m2 x hx))
    unfold Oper.wp
    rw [run_call (C := C) ho q0 (hT.fns hc), Oper.upon_enter]
    have hH : C.H id = none := by
      have := hup (id, ob) (by simp)
      simpa using this
    obtain ⟨hI1, hle1⟩ := adopt_cx hI id sz e (Nat.le_of_ble_eq_true hsz) hH
    let C1 : Cx := { C with H := upd C.H id (.row e sz 0), G := upd C.G id (.slice none 0 0) }
    have hH1 : C1.H id = some (.row e sz 0) := upd_same _ _ _
    have hG1 : C1.G id = some (.slice none 0 0) := upd_same _ _ _
    have hall : RdL C1 xs (vs ++ args.map a.eval ++ us).toList := by
      refine AdL.rd hle1 hH1 hG1 _ _ _ hx ?_
      simp only [Array.toList_append, Array.toList_map]
      exact (q1.append qa).append q2
    refine (h C1 _ hI1 (fun p hp => by simp only [List.mem_singleton] at hp; subst hp; exact ⟨hH1, _, hG1⟩) hall).mono fun e w' hr => ?_
    obtain ⟨v, C', rfl, rfl, hI', hle, e0, e1, e2, hG, hv⟩ := hr
    refine hk C' v hI' (hle1.trans hle) e0 e1 ?_ (fun id' u hu => ?_) (fun p hp => ?_) hv
    · rw [e2]
      show updL (upd C.H id _) [(id, ob)] = updL C.H [(id, ob)]
      simp only [updL]
      funext j
      simp only [upd]
      split <;> simp_all
    · by_cases q : id' = id
      · subst q; exact hG _ _ hG1
      · exact hG id' u (by show upd C.G id _ id' = _; rw [upd_ne _ _ q]; exact hu)
    · simp only [List.mem_singleton] at hp; subst hp; exact hG _ _ hG1
  refine AL.op (dOk1 hd hn) hg (rd := []) (up := [(id, ob)]) (v := res) ⟨by rw [ev_lk]; exact hS, by simp, fun p hp => ?_, .inl hm, NC.no⟩ ?_
  · simp only [List.mem_singleton] at hp; subst hp; exact .inr hid
  · unfold St.step
    rw [hd, lk_pt, updL_lk]
    exact k
end

/-- What an operation touches is told. -/
def ColN (M : Nat → Mk) (i : Nat) (H : Nat → Option AObj) (rd up : List (Nat × AObj)) : Prop :=
  ∀ l, (M i).c = some l → l.lk = none ∧ (∀ p ∈ rd, p.1 ∈ l.ids) ∧ (∀ p ∈ up, p.1 ∈ l.ids) ∧ ∀ q ∈ l.kp, cellsAt (updL H up) q = cellsAt H q
theorem ColN.no {M : Nat → Mk} {i : Nat} [nc : NC M i] {H : Nat → Option AObj} {rd up : List (Nat × AObj)} : ColN M i H rd up := NC.no
theorem ColN.mk {M : Nat → Mk} {i : Nat} {H : Nat → Option AObj} {rd up : List (Nat × AObj)} {l : Col} (hl : (M i).c = some l) (h0 : l.lk = none) (h1 : ∀ p ∈ rd, p.1 ∈ l.ids) (h2 : ∀ p ∈ up, p.1 ∈ l.ids) (h3 : ∀ q ∈ l.kp, cellsAt (updL H up) q = cellsAt H q) : ColN M i H rd up := fun l' q => by
  rw [hl] at q; injection q with q; subst q; exact ⟨h0, h1, h2, h3⟩
theorem ColN.col {P : Program} {M : Nat → Mk} {i : Nat} {o : Oper} {s : St} {rd up : List (Nat × AObj)} {v : AV} (h : ColN M i s.H rd up) :
    ∀ l, (M i).c = some l → (∀ p ∈ rd, p.1 ∈ l.ids) ∧ (∀ p ∈ up, p.1 ∈ l.ids) ∧
    (∀ q, l.lk = some q → up = [] ∧ (∃ p ∈ rd, p.1 = q.1) ∧ ∀ H', cellsAt H' q = cellsAt s.H q → ∃ rd', rd'.map (·.1) = rd.map (·.1) ∧ OpS P o s.ev rd' [] v ∧ ∀ p ∈ rd', H' p.1 = some p.2) ∧
    (∀ q ∈ l.kp, cellsAt (updL s.H up) q = cellsAt s.H q) := fun l hl => by
  obtain ⟨h0, h1, h2, h3⟩ := h l hl
  exact ⟨h1, h2, (fun q hq => by rw [h0] at hq; cases hq), h3⟩

/-- .. what it touches is told. -/
theorem AL.clWc {P : Program} {T : TI} (hT : T.Good P) {ops : Array Oper} {M : Nat → Mk} {o : Oper} {rest : List Oper} {i n : Nat} {E : List (Nat × AV)} {H : List (Nat × AObj)} {Q : St → Prop} {d : Nat} (hd : o.dst = some d) (hn : Nat.blt d n = true) (hg : gdec ops (lk E) o = some true) {cf : Operand} {args : Array Operand} {tys : Array TypeId} (ho : o.op = .call { callee := .value cf, args := args, argTypes := tys }) {f : FuncId} {first caps : List AV}
    (hf : evE E cf = some (.func f first caps)) (hc : gt T.fns f = some true) {aw : List AV} (ha : listA (evE E) args.toList = some aw) {xs : List AV} {rd up : List (Nat × AObj)} {res : AV} (h : ACallH P f xs rd up res) (hx : WvL (first ++ aw ++ caps) xs) (hrd : ∀ p ∈ rd, lk H p.1 = some p.2) (hur : ∀ p ∈ up, ∃ ob, (p.1, ob) ∈ rd) (hm : (M i).b = true)
    {H2 : List (Nat × AObj)} (hH2 : up.reverse ++ H = H2) (hcol : ColN M i (lk H) rd up) (k : AL P ops M rest (i + 1) (mkS n ((d, res) :: E) H2) Q) : AL P ops M (o :: rest) i (mkS n E H) Q := by
  have hS : OpS P o (evE E) rd up res := clW_op hT ho hf hc ha h hx hur
  refine AL.op (dOk1 hd hn) hg (rd := rd) (up := up) (v := res) ⟨by rw [ev_lk]; exact hS, hrd, fun p hp => .inl (hur p hp), .inl hm, hcol.col⟩ ?_
  unfold St.step
  rw [hd, lk_pt, updL_rev, hH2]
  exact k
/-- A load, what it touches is told. -/
theorem AL.vc {P : Program} {T : TI} (hT : T.Good P) {ops : Array Oper} {M : Nat → Mk} {o : Oper} {rest : List Oper} {i n : Nat} {E : List (Nat × AV)} {H : List (Nat × AObj)} {Q : St → Prop} {d : Nat} (hd : o.dst = some d) (hn : Nat.blt d n = true) (hg : gdec ops (lk E) o = some true) {v : AV} {rd : List (Nat × AObj)} (hv : aval T (lk H) (evE E) o.op = some (v, rd))
    {l : Col} (hl : (M i).c = some l) (h0 : l.lk = none) (hcol : ∀ p ∈ rd, p.1 ∈ l.ids) (k : AL P ops M rest (i + 1) (mkS n ((d, v) :: E) H) Q) : AL P ops M (o :: rest) i (mkS n E H) Q := by
  obtain ⟨h1, h2⟩ := aval_rd hv
  refine AL.op (dOk1 hd hn) hg (rd := rd) (up := []) (v := v) ⟨by rw [ev_lk]; exact aval_sound hT.toOk hv, h2, by simp, .inr ⟨by rw [ev_lk]; exact h1, .inl rfl⟩, (ColN.mk hl h0 hcol (by simp) (fun _ _ => rfl)).col⟩ ?_
  unfold St.step
  rw [hd, lk_pt]
  exact k

/-- A store, what it touches is told. -/
theorem AL.st2c {P : Program} {T : TI} (hT : T.Good P) {ops : Array Oper} {M : Nat → Mk} {o : Oper} {rest : List Oper} {i n : Nat} {E : List (Nat × AV)} {H : List (Nat × AObj)} {Q : St → Prop} (hd : o.dst = none) (hg : gdec ops (lk E) o = some true) {ty : TypeId} {x y : Operand} (ho : o.op = .store ty x y) {id off : Nat} (hx : evE E x = some (.ptr id off)) {v : AV} (hy : evE E y = some v) {l : List AV} (hl : cellsA v = some l)
    {g : Bool} {m : Nat} (hlay : gt T.lay ty = some (g, m)) (hlm : Nat.beq l.length m = true) {t : TypeId} {cells : List AV} (hH : lk H id = some (.box t cells)) (hb : Nat.ble (off + l.length) cells.length = true) (hm : (M i).b = true) {c2 : List AV} (hc : spl cells off l = c2) (hcl : (M i).c = some { ids := [id] })
    (k : AL P ops M rest (i + 1) (mkS n (E) ((id, .box t c2) :: H)) Q) : AL P ops M (o :: rest) i (mkS n E H) Q := by
  have e := Nat.eq_of_beq_eq_true hlm
  subst hc
  refine AL.op (fun d h => by rw [hd] at h; cases h) hg (rd := [(id, .box t cells)]) (up := [(id, .box t (spl cells off l))]) (v := .undef) ⟨by rw [ev_lk]; exact OpS.store ho hx hy hl (by rw [e]; exact hT.lay hlay) (Nat.le_of_ble_eq_true hb), fun p hp => ?_, fun p hp => ?_, .inl hm, (ColN.mk hcl rfl (by simp) (by simp) (fun _ h => by cases h)).col⟩ ?_
  · simp only [List.mem_singleton] at hp; subst hp; exact hH
  · simp only [List.mem_singleton] at hp; subst hp; exact .inl ⟨_, List.mem_singleton.2 rfl⟩
  · unfold St.step
    rw [hd, updL_lk]
    exact k

/-- append, its row told, what it touches is told. -/
theorem AL.aw2c {P : Program} {T : TI} (hT : T.Good P) {ops : Array Oper} {M : Nat → Mk} {o : Oper} {rest : List Oper} {i n : Nat} {E : List (Nat × AV)} {H : List (Nat × AObj)} {Q : St → Prop} {d : Nat} (hd : o.dst = some d) (hn : Nat.blt d n = true) (hg : gdec ops (lk E) o = some true) {ty : TypeId} {s : Operand} {t : Tmp} (ho : o.op = .call { callee := .builtin .append, args := #[s, .tmp t], argTypes := #[ty, ty] }) {e sz : Nat} (he : gt T.elm ty = some (e, sz + 1)) {z : List AV} (hz : gt T.zr e = some z) (hzl : Nat.beq z.length (sz + 1) = true) {by_ : Nat} (hby : gt T.byt e = some by_)
    {id : Nat} {tagx : Tag} {rows news0 news rows2 : List (List AV)} (hs : evE E s = some (.sl (.own id) (sz + 1) rows)) (hst : s ≠ .tmp t) (hx : lk E t = some (.sl tagx (sz + 1) news0)) (hH : lk H id = some (.row e (sz + 1) rows.length)) (hm : (M i).b = true) (hcl : (M i).c = some { ids := [id] }) (hw : WvR news0 news) (hr : rows ++ news = rows2) (hl : rows2.length ≤ 1000000) (hb : Nat.ble by_ 1000000 = true)
    (k : AL P ops M rest (i + 1) (mkS n ((d, (.sl (.own id) (sz + 1) rows2)) :: E) ((id, .row e (sz + 1) rows2.length) :: H)) Q) : AL P ops M (o :: rest) i (mkS n E H) Q := by
  subst hr
  rw [List.length_append] at hl k
  by_cases hne : news = []
  · subst hne
    have h0 : news0 = [] := List.eq_nil_of_length_eq_zero (by simpa using hw.length)
    subst h0
    simp only [List.append_nil, List.length_nil, Nat.add_zero] at k
    have key : mkS n ((d, .sl (.own id) (sz + 1) rows) :: E) ((id, .row e (sz + 1) rows.length) :: H) = mkS n ((d, .sl (.own id) (sz + 1) rows) :: E) H := by
      unfold mkS
      congr 1
      rw [lk_cons]
      funext j
      simp only [upd]
      split
      · rename_i q; rw [q, hH]
      · rfl
    rw [key] at k
    refine AL.op (dOk1 hd hn) hg (rd := []) (up := []) (v := .sl (.own id) (sz + 1) rows) ⟨by rw [ev_lk]; exact OpS.append0 ho (hT.elm he) hs (by exact hx), by simp, by simp, .inl hm, (ColN.mk hcl rfl (by simp) (by simp) (fun _ h => by cases h)).col⟩ ?_
    unfold St.step
    rw [hd, lk_pt]
    exact k
  · have h1 := Nat.le_of_ble_eq_true hb
    have h2 : (rows.length + news.length) * by_ ≤ 1000000 * 1000000 := Nat.mul_le_mul hl h1
    have hE : WE E ((t, .sl tagx (sz + 1) news) :: E) := (WE.refl E).put t hx ⟨.inl rfl, hw, .inl rfl⟩
    have hs' : evE ((t, .sl tagx (sz + 1) news) :: E) s = some (.sl (.own id) (sz + 1) rows) := by
      cases s with
      | tmp u => 
        show lk ((t, _) :: E) u = _
        rw [lk_cons, upd_ne _ _ (fun q => hst (by rw [q]))]
        exact hs
      | const v => exact hs
      | func f => exact hs
      | global g => exact hs
    have hx' : evE ((t, .sl tagx (sz + 1) news) :: E) (.tmp t) = some (.sl tagx (sz + 1) news) := by
      show lk ((t, _) :: E) t = _
      rw [lk_cons, upd_same]
    refine AL.op (dOk1 hd hn) hg (rd := [(id, .row e (sz + 1) rows.length)]) (up := [(id, .row e (sz + 1) (rows.length + news.length))]) (v := .sl (.own id) (sz + 1) (rows ++ news)) ⟨by rw [ev_lk]; exact (OpS.append ho (hT.elm he) (Nat.succ_pos _) (hT.zr hz) (Nat.eq_of_beq_eq_true hzl) (hT.byt hby) hs' hx' hne (by omega) (by omega)).weak hE.ev, fun p hp => ?_, fun p hp => ?_, .inl hm, (ColN.mk hcl rfl (by simp) (by simp) (fun _ h => by cases h)).col⟩ ?_
    · simp only [List.mem_singleton] at hp; subst hp; exact hH
    · simp only [List.mem_singleton] at hp; subst hp; exact .inl ⟨_, List.mem_singleton.2 rfl⟩
    · unfold St.step
      rw [hd, lk_pt, updL_lk]
      exact k

/-! ### a text appended to bytes -/
def bI8 (s : ByteArray) : List Int := s.data.toList.map fun b => (b.toNat : Int)
def bR8 (s : ByteArray) : List (List AV) := s.data.toList.map fun b => [.int .u8 (b.toNat : Int)]
theorem bR8_length (s : ByteArray) : (bR8 s).length = s.size := by rw [bR8, List.length_map, Array.length_toList]; rfl
theorem bR8_flat {C : Cx} (s : ByteArray) : RdL C (bR8 s).flatten (Lib.strCells s) := by
  unfold bR8 Lib.strCells
  induction s.data.toList with
  | nil => simp [RdL]
  | cons b l ih => simp only [List.map_cons, List.flatten_cons, List.singleton_append, RdL]; exact ⟨by simp [Rd], ih⟩

theorem run_app_str {P : Program} (w : World) (base : Nat) (t u ty e : TypeId) (i : TypeInfo) (ht : P.underlying t = some (.slice e)) (hu : P.underlying u = some .string) (hi : P.info? e = some i) (hz : i.zero = some (.int .u8 0)) (hsize : i.size = 1) (hby : i.bytes = 1)
    (v : Value) (n : Nat) (xs : List Value) (hown : w.ownsRow base e 1 v n xs) (s : ByteArray) (h63 : n + s.size ≤ maxLen) (hbytes : n + s.size ≤ 140737488355328) (hbase : base ≤ w.heap.size) (hpos : 0 < s.size) :
    ∃ v' w', (Builtin.append_ #[t, u] ty #[v, .string s]).run P w = .ok v' w' ∧ w'.ownsRow base e 1 v' (n + s.size) (xs ++ Lib.strCells s) ∧ w.grownBy w' v.ownBlock ∧
      ((v'.ownBlock = v.ownBlock ∧ v.ownBlock ≠ none) ∨ (v'.ownBlock = some w.heap.size ∧ Below w.heap.size w w')) := by
  obtain ⟨v', w', hr, h2, h3, _⟩ := Lib.run_append_own_string (P := P) w base t u ty e i ht hu hi hz hsize hby v n xs hown s h63 hbytes hbase
  refine ⟨v', w', hr, h2, h3, ?_⟩
  rcases hown.2 with ⟨rfl, rfl⟩ | ⟨g, cap, cur, rfl, hbg, hg, hnc, hcm, hcs, htake⟩
  · right
    have hr2 := run_append_nil_string (P := P) w t u ty e i (.int .u8 0) ht hu hi hz s (by omega) (by simp only [maxLen] at h63; omega) (by rw [hby]; omega)
    rw [hr2] at hr
    injection hr with hv hw
    subst hv hw
    exact ⟨rfl, (Below.refl _ _).drew.alloc (Nat.le_refl _) _⟩
  · by_cases hroom : n + s.size ≤ cap
    · left
      have hr2 := Lib.run_append_room_string (P := P) w t u ty e i ht hu hi hsize g n cap cur hg s hroom (by simp at hcs; omega)
      rw [hr2] at hr
      injection hr with hv hw
      subst hv
      exact ⟨rfl, by simp [Value.ownBlock]⟩
    · right
      have holds : ∀ j u, xs[j]? = some u → w.cell? ((⟨g, 0, none⟩ : Addr).add j) = some u := hown.cells (g := g) rfl
      have hr2 := Lib.run_append_grow_string (P := P) w t u ty e i (.int .u8 0) ht hu hi hz ⟨g, 0, none⟩ n cap xs (by rw [hsize]; exact hown.1) holds s (by omega) (by simp only [maxLen] at h63; omega) (by rw [hby]; exact growslice_fits (by omega) (by omega))
      rw [hr2] at hr
      injection hr with hv hw
      subst hv hw
      exact ⟨rfl, (Below.refl _ _).drew.alloc (Nat.le_refl _) _⟩
theorem run_app_str0 {P : Program} (w : World) (base : Nat) (t u ty e : TypeId) (i : TypeInfo) (ht : P.underlying t = some (.slice e)) (hu : P.underlying u = some .string) (hi : P.info? e = some i) (hsize : i.size = 1)
    (v : Value) (n : Nat) (xs : List Value) (hown : w.ownsRow base e 1 v n xs) (s : ByteArray) (hpos : s.size = 0) : (Builtin.append_ #[t, u] ty #[v, .string s]).run P w = .ok v w := by
  have hn : Lib.strCells s = [] := List.eq_nil_of_length_eq_zero (by rw [Lib.strCells_length]; exact hpos)
  rcases hown.2 with ⟨rfl, rfl⟩ | ⟨g, cap, cur, rfl, hbg, hg, hnc, hcm, hcs, htake⟩
  · have hf := Lib.run_firstCells_string (P := P) w 1 s
    rw [hpos] at hf
    simp [Builtin.append_, run_underlying ht, run_underlying hu, sizeOf, typeInfo, hi, hsize, Builtin.lenOf, hpos, hf, hn]
  · have hr2 := Lib.run_append_room_string (P := P) w t u ty e i ht hu hi hsize g n cap cur hg s (by omega) (by simp at hcs; omega)
    rw [hr2, hpos, hn]
    simp only [List.append_nil, Nat.add_zero]
    rw [List.take_append_drop]
    congr 1
    unfold World.setRow
    cases w with
    | mk heap _ _ _ _ =>
      simp only at hg ⊢
      congr 1
      apply Array.ext
      · simp
      · intro k h1 h2
        rw [Array.getElem_modify]
        split
        · rename_i q
          subst q
          have h3 : heap[g] = .cells cur e (0, 0) := (Array.getElem?_eq_some_iff.1 hg).2
          rw [h3]
        · rfl
def u8ok (P : Program) (e : TypeId) : Bool :=
  match P.info? e with
  | some i => (match i.zero with | some (.int .u8 0) => i.size == 1 && i.bytes == 1 | _ => false)
  | none => false
theorem u8ok_spec {P : Program} {e : TypeId} (h : u8ok P e = true) : ∃ i, P.info? e = some i ∧ i.zero = some (.int .u8 0) ∧ i.size = 1 ∧ i.bytes = 1 := by
  unfold u8ok at h
  split at h
  · rename_i i hi
    split at h
    · rename_i hz
      simp only [Bool.and_eq_true, beq_iff_eq] at h
      exact ⟨i, hi, hz, h.1, h.2⟩
    · cases h
  · cases h

theorem OpS.appStr {P : Program} {o : Oper} {ρ : Operand → Option AV} {t u : TypeId} {s x : Operand} (ho : o.op = .call { callee := .builtin .append, args := #[s, x], argTypes := #[t, u] })
    {e : TypeId} {sz : Nat} (he : elm P t = some (e, sz)) (h8 : u8ok P e = true) (hu : sort0 P u = .string) {id : Nat} {rows : List (List AV)} {str : ByteArray}
    (hs : ρ s = some (.sl (.own id) 1 rows)) (hx : ρ x = some (.str str)) (hpos : 0 < str.size) (hb : rows.length + str.size ≤ 1000000) :
    OpS P o ρ [(id, .row e 1 rows.length)] [(id, .row e 1 (rows.length + str.size))] (.sl (.own id) 1 (rows ++ bR8 str)) := by
  intro C a next Q hI hρ hrd hup hk
  obtain ⟨m1, m2⟩ := operands_append t u s x ho
  have q := hρ s m1 _ hs
  have q' := hρ x m2 _ hx
  simp only [Rd] at q'
  obtain ⟨e1, _⟩ := elm_spec he
  obtain ⟨i, e2, e3, e4, e5⟩ := u8ok_spec h8
  obtain ⟨k1, kG⟩ := hrd (id, .row e 1 rows.length) (by simp)
  simp only at k1 kG
  obtain ⟨gv, kG⟩ := kG
  obtain ⟨ob, k3, k4⟩ := hI.obj id _ kG
  rw [k1] at k3
  injection k3 with k3
  subst k3
  obtain ⟨_, xs, hown⟩ := k4
  have hGs : C.G id = some (a.eval s) := by
    have q2 := q
    simp only [Rd] at q2
    obtain ⟨A, c, _, _, _, _, e4, sz4, m, t1, t2, t3⟩ := q2
    rw [k1] at t1
    injection t1 with t1
    injection t1 with _ _ t1
    exact t3 t1
  rw [kG] at hGs
  injection hGs with hGs
  subst hGs
  obtain ⟨_, r1, r2, r3⟩ := own_flat q k1 rfl hown
  obtain ⟨v', w', hr, h2, h3, h4⟩ := run_app_str (P := P) C.w C.w0.heap.size t u o.type e i e1 (sort0_string hu) e2 e3 e4 e5 (a.eval s) rows.length xs hown str (by simp only [maxLen]; omega) (by omega) hI.below.size hpos
  have hn := hI.appended kG k1 hpos w' xs (Lib.strCells str) hown h2 h3 h4
  have hrun : (execOp a.eval o).run P C.w = .ok (.value v') w' := by
    unfold execOp
    simp only [ho, resolve, invoke, builtin, Sem.run_bind, Sem.run_pure, Result.andThen_ok, List.map_toArray, List.map_cons, List.map_nil, q', hr]
  unfold Oper.wp
  rw [hrun, Oper.upon_value]
  refine hk _ v' hn.1 hn.2 rfl rfl rfl (fun id' u h => ?_) (fun p hp => ?_) ?_
  · by_cases e' : id' = id
    · subst e'; exact ⟨_, upd_same _ _ _⟩
    · exact ⟨u, by simpa only [upd_ne _ _ e'] using h⟩
  · simp only [List.mem_singleton] at hp
    subst hp
    exact ⟨_, upd_same _ _ _⟩
  · refine own_rd hn.1 (e := e) (n := rows.length + str.size) (ys := xs ++ Lib.strCells str) (upd_same _ _ _) (upd_same _ _ _) (by simp [bR8_length]) (fun r hr => ?_) h2 ?_ (fun u hu => ?_)
    · rcases List.mem_append.1 hr with h | h
      · exact r3 r h
      · simp only [bR8, List.mem_map] at h
        obtain ⟨b, _, rfl⟩ := h
        rfl
    · rw [List.flatten_append]
      exact (r1.le hn.2).append (bR8_flat str)
    · rcases List.mem_append.1 hu with h | h
      · exact r2 u h
      · exact Lib.strCells_oneCell str u h
theorem OpS.appStr0 {P : Program} {o : Oper} {ρ : Operand → Option AV} {t u : TypeId} {s x : Operand} (ho : o.op = .call { callee := .builtin .append, args := #[s, x], argTypes := #[t, u] })
    {e : TypeId} {sz : Nat} (he : elm P t = some (e, sz)) (h8 : u8ok P e = true) (hu : sort0 P u = .string) {id : Nat} {rows : List (List AV)} {str : ByteArray}
    (hs : ρ s = some (.sl (.own id) 1 rows)) (hx : ρ x = some (.str str)) (hpos : str.size = 0) :
    OpS P o ρ [(id, .row e 1 rows.length)] [] (.sl (.own id) 1 rows) := by
  refine OpS.val fun C a hI hρ hrd => ?_
  obtain ⟨m1, m2⟩ := operands_append t u s x ho
  have q := hρ s m1 _ hs
  have q' := hρ x m2 _ hx
  simp only [Rd] at q'
  obtain ⟨e1, _⟩ := elm_spec he
  obtain ⟨i, e2, e3, e4, e5⟩ := u8ok_spec h8
  obtain ⟨k1, kG⟩ := hrd (id, .row e 1 rows.length) (by simp)
  simp only at k1 kG
  obtain ⟨gv, kG⟩ := kG
  obtain ⟨ob, k3, k4⟩ := hI.obj id _ kG
  rw [k1] at k3
  injection k3 with k3
  subst k3
  obtain ⟨_, xs, hown⟩ := k4
  have hGs : C.G id = some (a.eval s) := by
    have q2 := q
    simp only [Rd] at q2
    obtain ⟨A, c, _, _, _, _, e4, sz4, m, t1, t2, t3⟩ := q2
    rw [k1] at t1
    injection t1 with t1
    injection t1 with _ _ t1
    exact t3 t1
  rw [kG] at hGs
  injection hGs with hGs
  subst hGs
  have hr := run_app_str0 (P := P) C.w C.w0.heap.size t u o.type e i e1 (sort0_string hu) e2 e4 (a.eval s) rows.length xs hown str hpos
  refine ⟨a.eval s, ?_, q⟩
  unfold execOp
  simp only [ho, resolve, invoke, builtin, Sem.run_bind, Sem.run_pure, Result.andThen_ok, List.map_toArray, List.map_cons, List.map_nil, q', hr]

section
variable {P : Program} {T : TI} (hT : T.Good P) {ops : Array Oper} {M : Nat → Mk} {o : Oper} {rest : List Oper} {i n : Nat} [nc : NC M i] {E : List (Nat × AV)} {H : List (Nat × AObj)} {Q : St → Prop}
include hT
theorem AL.apS {d : Nat} (hd : o.dst = some d) (hn : Nat.blt d n = true) (hg : gdec ops (lk E) o = some true) {ty u : TypeId} {s x : Operand} (ho : o.op = .call { callee := .builtin .append, args := #[s, x], argTypes := #[ty, u] }) {e sz : Nat} (he : gt T.elm ty = some (e, sz)) (h8 : u8ok P e = true) (hu : gt T.srt u = some .string)
    {id : Nat} {rows rows2 : List (List AV)} {str : ByteArray} (hs : evE E s = some (.sl (.own id) 1 rows)) (hx : evE E x = some (.str str)) (hH : lk H id = some (.row e 1 rows.length)) (hm : (M i).b = true) (hr : rows ++ bR8 str = rows2) (hl : rows2.length ≤ 1000000)
    (k : AL P ops M rest (i + 1) (mkS n ((d, (.sl (.own id) 1 rows2)) :: E) ((id, .row e 1 rows2.length) :: H)) Q) : AL P ops M (o :: rest) i (mkS n E H) Q := by
  subst hr
  rw [List.length_append, bR8_length] at hl k
  by_cases hz : str.size = 0
  · have hn0 : bR8 str = [] := List.eq_nil_of_length_eq_zero (by rw [bR8_length]; exact hz)
    rw [hn0, List.append_nil, hz, Nat.add_zero] at k
    refine AL.op (dOk1 hd hn) hg (rd := [(id, .row e 1 rows.length)]) (up := []) (v := .sl (.own id) 1 rows) ⟨by rw [ev_lk]; exact OpS.appStr0 ho (hT.elm he) h8 (hT.srt hu) hs hx hz, fun p hp => ?_, by simp, .inl hm, NC.no⟩ ?_
    · simp only [List.mem_singleton] at hp; subst hp; exact hH
    · have key : (mkS n E H).step o.dst (.sl (.own id) 1 rows) [] = mkS n ((d, .sl (.own id) 1 rows) :: E) ((id, .row e 1 rows.length) :: H) := by
        unfold St.step mkS
        rw [hd, lk_pt]
        congr 1
        simp only [updL]
        rw [lk_cons]
        funext j
        simp only [upd]
        split
        · rename_i q; rw [q, hH]
        · rfl
      rw [key]
      exact k
  · refine AL.op (dOk1 hd hn) hg (rd := [(id, .row e 1 rows.length)]) (up := [(id, .row e 1 (rows.length + str.size))]) (v := .sl (.own id) 1 (rows ++ bR8 str)) ⟨by rw [ev_lk]; exact OpS.appStr ho (hT.elm he) h8 (hT.srt hu) hs hx (by omega) hl, fun p hp => ?_, fun p hp => ?_, .inl hm, NC.no⟩ ?_
    · simp only [List.mem_singleton] at hp; subst hp; exact hH
    · simp only [List.mem_singleton] at hp; subst hp; exact .inl ⟨_, List.mem_singleton.2 rfl⟩
    · unfold St.step
      rw [hd, lk_pt, updL_lk]
      exact k
end

end Go.Proofs.Ytbcjcekoonebiaa.Tl
