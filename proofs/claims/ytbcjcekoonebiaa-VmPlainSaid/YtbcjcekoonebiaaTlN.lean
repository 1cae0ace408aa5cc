/- The tree logic, part N: weaker values at any depth; calls, appends, results with them. Conditions: none. -/
import Derived.Test.YtbcjcekoonebiaaTlM
set_option linter.unusedVariables false
set_option linter.unusedSimpArgs false
set_option linter.unusedSectionVars false
namespace Go.Proofs.Ytbcjcekoonebiaa.Tl
open Go Go.RowKit

mutual
/-- The second says no more than the first. -/
def Wv : AV → AV → Prop
  | .sl tag sz rows, .sl tag' sz' rows' => (tag' = tag ∨ tag' = .ro) ∧ WvR rows rows' ∧ (sz = sz' ∨ rows = [])
  | .agg l, .agg l' => WvL l l'
  | .tup l, .tup l' => WvL l l'
  | .ep l, .ep l' => WvL l l'
  | .func f a b, .func f' a' b' => f = f' ∧ WvL a a' ∧ WvL b b'
  | x, y => x = y
def WvL : List AV → List AV → Prop
  | [], [] => True
  | x :: xs, y :: ys => Wv x y ∧ WvL xs ys
  | _, _ => False
def WvR : List (List AV) → List (List AV) → Prop
  | [], [] => True
  | x :: xs, y :: ys => WvL x y ∧ WvR xs ys
  | _, _ => False
end
mutual
theorem Wv.refl : ∀ x : AV, Wv x x
  | .int _ _ => rfl
  | .bool _ => rfl
  | .str _ => rfl
  | .undef => rfl
  | .nilp => rfl
  | .nilf => rfl
  | .ptr _ _ => rfl
  | .mv _ _ _ => rfl
  | .ep l => WvL.refl l
  | .func _ a b => ⟨rfl, WvL.refl a, WvL.refl b⟩
  | .sl _ _ r => ⟨.inl rfl, WvR.refl r, .inl rfl⟩
  | .agg l => WvL.refl l
  | .tup l => WvL.refl l
theorem WvL.refl : ∀ l : List AV, WvL l l
  | [] => trivial
  | x :: xs => ⟨Wv.refl x, WvL.refl xs⟩
theorem WvR.refl : ∀ l : List (List AV), WvR l l
  | [] => trivial
  | x :: xs => ⟨WvL.refl x, WvR.refl xs⟩
end
theorem WvL.length : ∀ {xs ys : List AV}, WvL xs ys → xs.length = ys.length
  | [], [], _ => rfl
  | [], _ :: _, h => by simp [WvL] at h
  | _ :: _, [], h => by simp [WvL] at h
  | x :: xs, y :: ys, h => by simp only [WvL] at h; simp only [List.length_cons, WvL.length h.2]
theorem WvR.length : ∀ {xs ys : List (List AV)}, WvR xs ys → xs.length = ys.length
  | [], [], _ => rfl
  | [], _ :: _, h => by simp [WvR] at h
  | _ :: _, [], h => by simp [WvR] at h
  | x :: xs, y :: ys, h => by simp only [WvR] at h; simp only [List.length_cons, WvR.length h.2]
mutual
theorem Wv.rd {C : Cx} : ∀ (x y : AV) (v : Value), Wv x y → Rd C x v → Rd C y v
  | .sl tag sz rows, y, v, h, hr => by
    cases y <;> simp only [Wv] at h <;> first | (cases h; done) | skip
    rename_i tag' sz' rows'
    obtain ⟨h1, h2, h3⟩ := h
    have hl := h2.length
    simp only [Rd] at hr ⊢
    obtain ⟨A, c, e, k1, k2, k3, k4⟩ := hr
    refine ⟨A, c, by rw [← hl]; exact e, by omega, by omega, ?_, ?_⟩
    · rcases k3 with rfl | ⟨b, off, q1, q2⟩
      · left; exact List.eq_nil_of_length_eq_zero (by simpa using hl.symm)
      · rcases h3 with rfl | rfl
        · exact .inr ⟨b, off, q1, WvR.rd sz _ _ b off h2 q2⟩
        · left; exact List.eq_nil_of_length_eq_zero (by simpa using hl.symm)
    · rcases h1 with rfl | rfl
      · cases tag' with
        | ro => trivial
        | nil => exact k4
        | own id => rw [← hl]; exact k4
      · trivial
  | .agg l, y, v, h, hr => by
    cases y <;> simp only [Wv] at h <;> first | (cases h; done) | skip
    simp only [Rd] at hr ⊢
    obtain ⟨vs, e, k1, k2⟩ := hr
    exact ⟨vs, e, WvL.rd l _ _ h k1, k2⟩
  | .tup l, y, v, h, hr => by
    cases y <;> simp only [Wv] at h <;> first | (cases h; done) | skip
    simp only [Rd] at hr ⊢
    obtain ⟨vs, e, k1⟩ := hr
    exact ⟨vs, e, WvL.rd l _ _ h k1⟩
  | .ep l, y, v, h, hr => by
    cases y <;> simp only [Wv] at h <;> first | (cases h; done) | skip
    simp only [Rd] at hr ⊢
    obtain ⟨b, off, e, k1⟩ := hr
    exact ⟨b, off, e, WvC.rd l _ b off h k1⟩
  | .func f a c, y, v, h, hr => by
    cases y <;> simp only [Wv] at h <;> first | (cases h; done) | skip
    obtain ⟨rfl, h1, h2⟩ := h
    simp only [Rd] at hr ⊢
    obtain ⟨vs, us, e, k1, k2⟩ := hr
    exact ⟨vs, us, e, WvL.rd a _ _ h1 k1, WvL.rd c _ _ h2 k2⟩
  | .int _ _, y, v, h, hr => by cases y <;> simp only [Wv] at h <;> first | (rw [← h]; exact hr) | cases h
  | .bool _, y, v, h, hr => by cases y <;> simp only [Wv] at h <;> first | (rw [← h]; exact hr) | cases h
  | .str _, y, v, h, hr => by cases y <;> simp only [Wv] at h <;> first | (rw [← h]; exact hr) | cases h
  | .undef, y, v, h, hr => by cases y <;> simp only [Wv] at h <;> first | exact hr | cases h
  | .nilp, y, v, h, hr => by cases y <;> simp only [Wv] at h <;> first | exact hr | cases h
  | .nilf, y, v, h, hr => by cases y <;> simp only [Wv] at h <;> first | exact hr | cases h
  | .ptr _ _, y, v, h, hr => by cases y <;> simp only [Wv] at h <;> first | (rw [← h]; exact hr) | cases h
  | .mv _ _ _, y, v, h, hr => by cases y <;> simp only [Wv] at h <;> first | (rw [← h]; exact hr) | cases h
theorem WvL.rd {C : Cx} : ∀ (xs ys : List AV) (vs : List Value), WvL xs ys → RdL C xs vs → RdL C ys vs
  | [], [], _, _, hr => hr
  | [], _ :: _, _, h, _ => by simp [WvL] at h
  | _ :: _, [], _, h, _ => by simp [WvL] at h
  | _ :: _, _ :: _, [], _, hr => by simp [RdL] at hr
  | x :: xs, y :: ys, v :: vs, h, hr => by
    simp only [WvL, RdL] at h hr ⊢
    exact ⟨Wv.rd x y v h.1 hr.1, WvL.rd xs ys vs h.2 hr.2⟩
theorem WvC.rd {C : Cx} : ∀ (xs ys : List AV) (b off : Nat), WvL xs ys → RdC C xs b off → RdC C ys b off
  | [], [], _, _, _, hr => hr
  | [], _ :: _, _, _, h, _ => by simp [WvL] at h
  | _ :: _, [], _, _, h, _ => by simp [WvL] at h
  | x :: xs, y :: ys, b, off, h, hr => by
    simp only [WvL, RdC] at h hr ⊢
    obtain ⟨h1, ⟨u, h2, h3, h4⟩, h5⟩ := hr
    exact ⟨h1, ⟨u, h2, h3, Wv.rd x y u h.1 h4⟩, WvC.rd xs ys b (off + 1) h.2 h5⟩
theorem WvR.rd {C : Cx} (sz : Nat) : ∀ (xs ys : List (List AV)) (b off : Nat), WvR xs ys → RdR C sz xs b off → RdR C sz ys b off
  | [], [], _, _, _, hr => hr
  | [], _ :: _, _, _, h, _ => by simp [WvR] at h
  | _ :: _, [], _, _, h, _ => by simp [WvR] at h
  | x :: xs, y :: ys, b, off, h, hr => by
    simp only [WvR, RdR] at h hr ⊢
    exact ⟨by rw [← h.1.length]; exact hr.1, WvC.rd x y b off h.1 hr.2.1, WvR.rd sz xs ys b (off + sz) h.2 hr.2.2⟩
end
theorem WvL.append : ∀ {a b c d : List AV}, WvL a b → WvL c d → WvL (a ++ c) (b ++ d)
  | [], [], _, _, _, h => h
  | [], _ :: _, _, _, h, _ => by simp [WvL] at h
  | _ :: _, [], _, _, h, _ => by simp [WvL] at h
  | _ :: _, _ :: _, _, _, h, k => ⟨h.1, WvL.append h.2 k⟩
theorem WvR.append : ∀ {a b c d : List (List AV)}, WvR a b → WvR c d → WvR (a ++ c) (b ++ d)
  | [], [], _, _, _, h => h
  | [], _ :: _, _, _, h, _ => by simp [WvR] at h
  | _ :: _, [], _, _, h, _ => by simp [WvR] at h
  | _ :: _, _ :: _, _, _, h, k => ⟨h.1, WvR.append h.2 k⟩

/-- The environment may be taken as weaker for one operation. -/
def WE (E E' : List (Nat × AV)) : Prop := ∀ d y, lk E' d = some y → ∃ x, lk E d = some x ∧ Wv x y
theorem WE.refl (E : List (Nat × AV)) : WE E E := fun d y h => ⟨y, h, Wv.refl y⟩
theorem WE.put {E E' : List (Nat × AV)} (h : WE E E') (d : Nat) {x y : AV} (hx : lk E d = some x) (hw : Wv x y) : WE E ((d, y) :: E') := fun e z hz => by
  rw [lk_cons] at hz
  by_cases q : e = d
  · subst q; rw [upd_same] at hz; injection hz with hz; subst hz; exact ⟨x, hx, hw⟩
  · rw [upd_ne _ _ q] at hz; exact h e z hz

theorem OpS.weak {P : Program} {o : Oper} {ρ ρ' : Operand → Option AV} {rd up : List (Nat × AObj)} {v : AV} (h : OpS P o ρ' rd up v) (hw : ∀ x y', ρ' x = some y' → ∃ y, ρ x = some y ∧ Wv y y') : OpS P o ρ rd up v :=
  fun C a next Q hI hρ hrd hup hk => h C a next Q hI (fun x hx y' hy => let ⟨y, h1, h2⟩ := hw x y' hy; Wv.rd y y' _ h2 (hρ x hx y h1)) hrd hup hk
theorem WE.ev {E E' : List (Nat × AV)} (h : WE E E') : ∀ x y', evE E' x = some y' → ∃ y, evE E x = some y ∧ Wv y y'
  | .tmp t, y', q => h t y' q
  | .const v, y', q => ⟨y', q, Wv.refl y'⟩
  | .func f, y', q => ⟨y', q, Wv.refl y'⟩
  | .global _, y', q => by cases q

/-- A result, weakened. -/
theorem ResA.weak {P : Program} {fn : Func} {s : St} {x y : AV} (h : ResA P fn s x) (hw : Wv x y) : ResA P fn s y := fun C a hr =>
  let ⟨u, h1, h2⟩ := h C a hr; ⟨u, h1, Wv.rd x y u hw h2⟩
theorem RetQ.w {P : Program} {T : TI} (hT : T.Good P) {fn : Func} {e : Exit} {rs : List ResultVar} {n : Nat} {E : List (Nat × AV)} {H : List (Nat × AObj)} {xs : List AV} {res : AV} (he : e = .normal ∨ e = .ret) (hr : fn.results.toList = rs) (h : resL T E H rs = some xs) (hw : Wv (tupA xs) res) (hp : pureA res = true) :
    RetQ P fn res e (mkS n E H) := ⟨he, res, (ResA.of hT hr h).weak hw, by rw [fz_pure _ _ hp]; exact Wk.refl res⟩

section
variable {P : Program} {T : TI} (hT : T.Good P) {ops : Array Oper} {M : Nat → Mk} {o : Oper} {rest : List Oper} {i n : Nat} [nc : NC M i] {E : List (Nat × AV)} {H : List (Nat × AObj)} {Q : St → Prop}
include hT
/-- A call with weakened pure arguments. -/
theorem AL.cw {d : Nat} (hd : o.dst = some d) (hn : Nat.blt d n = true) (hg : gdec ops (lk E) o = some true) {cf : Operand} {args : Array Operand} {tys : Array TypeId} (ho : o.op = .call { callee := .value cf, args := args, argTypes := tys }) {f : FuncId} {first caps : List AV}
    (hf : evE E cf = some (.func f first caps)) (hc : gt T.fns f = some true) {as : List AV} (ha : listA (evE E) args.toList = some as) {xs : List AV} {res : AV} (h : ACall P f xs res) (hx : WvL (first ++ as ++ caps) xs) (hp : pureL xs = true)
    (k : AL P ops M rest (i + 1) (mkS n ((d, res) :: E) H) Q) : AL P ops M (o :: rest) i (mkS n E H) Q := by
  have hS : OpS P o (evE E) [] [] res := by
    intro C a next Q hI hρ hrd hup hk
    obtain ⟨m1, m2⟩ := mem_call ho
    have q := hρ cf m1 _ hf
    simp only [Rd] at q
    obtain ⟨vs, us, q0, q1, q2⟩ := q
    have qa := listA_rd (C := C) (a := a) ha (fun x hx => hρ x (m2 x hx))
    unfold Oper.wp
    rw [run_call (C := C) ho q0 (hT.fns hc), Oper.upon_enter]
    have hall : RdL (Pu C.ok C.w) xs (vs ++ args.map a.eval ++ us).toList := by
      refine pureL_in hp (WvL.rd _ _ _ hx ?_)
      simp only [Array.toList_append, Array.toList_map]
      exact (q1.append qa).append q2
    refine (h.2 C.ok C.w _ hall).mono fun e w' hr => ?_
    obtain ⟨v, rfl, hv, hb⟩ := hr
    obtain ⟨hI', hle⟩ := hI.moved hb
    exact hk { C with w := w' } v hI' hle rfl rfl rfl (fun id u h => ⟨u, h⟩) (by simp) (pure_out hI hb h.1 hv)
  exact AL.val hT hd hn hg hS k

/-- .. under a guard. -/
theorem AL.gcw {d : Nat} (hd : o.dst = some d) (hn : Nat.blt d n = true) {c : Bool} (hg : gdec ops (lk E) o = some c) {f : FuncId} {args : Array Operand} {tys : Array TypeId} (ho : o.op = .call { callee := .value (.func f), args := args, argTypes := tys })
    (hc : gt T.fns f = some true) {aw : List AV} (hc2 : aw = aw) (ha : c = true → listA (evE E) args.toList = some aw) {xs : List AV} {res : AV} (h : ACall P f xs res) (hx : WvL aw xs) (hp : pureL xs = true)
    (k : AL P ops M rest (i + 1) (mkS n ((d, bif c then res else .tup []) :: E) H) Q) : AL P ops M (o :: rest) i (mkS n E H) Q := by
  cases c
  · exact AL.sk hT hd hn hg k
  · exact AL.cw hT hd hn hg ho (first := []) (caps := []) rfl hc (ha rfl) h (by simpa using hx) hp k
/-- append, what is put behind weakened. -/
theorem AL.aw {d : Nat} (hd : o.dst = some d) (hn : Nat.blt d n = true) (hg : gdec ops (lk E) o = some true) {ty : TypeId} {s : Operand} {t : Tmp} (ho : o.op = .call { callee := .builtin .append, args := #[s, .tmp t], argTypes := #[ty, ty] }) {e sz : Nat} (he : gt T.elm ty = some (e, sz + 1)) {z : List AV} (hz : gt T.zr e = some z) (hzl : Nat.beq z.length (sz + 1) = true) {by_ : Nat} (hby : gt T.byt e = some by_)
    {id : Nat} {tagx : Tag} {rows news0 news : List (List AV)} (hs : evE E s = some (.sl (.own id) (sz + 1) rows)) (hst : s ≠ .tmp t) (hx : lk E t = some (.sl tagx (sz + 1) news0)) (hH : lk H id = some (.row e (sz + 1) rows.length)) (hm : (M i).b = true) (hne : news ≠ []) (hw : WvR news0 news) (hb : (rows.length + news.length) * by_ ≤ 140737488355328) (hb2 : rows.length + news.length ≤ 9223372036854775807)
    (k : AL P ops M rest (i + 1) (mkS n ((d, (.sl (.own id) (sz + 1) (rows ++ news))) :: E) ((id, .row e (sz + 1) (rows.length + news.length)) :: H)) Q) : AL P ops M (o :: rest) i (mkS n E H) Q := by
  have hE : WE E ((t, .sl tagx (sz + 1) news) :: E) := (WE.refl E).put t hx ⟨.inl rfl, hw, .inl rfl⟩
  have hs' : evE ((t, .sl tagx (sz + 1) news) :: E) s = some (.sl (.own id) (sz + 1) rows) := by
    cases s with
    | tmp u => 
      show lk ((t, _) :: E) u = _
      rw [lk_cons, upd_ne _ _ (fun q => hst (by rw [q]))]
      exact hs
    | const v => exact hs
    | func f => exact hs
    | global g => exact hs
  have hx' : evE ((t, .sl tagx (sz + 1) news) :: E) (.tmp t) = some (.sl tagx (sz + 1) news) := by
    show lk ((t, _) :: E) t = _
    rw [lk_cons, upd_same]
  refine AL.op (dOk1 hd hn) hg (rd := [(id, .row e (sz + 1) rows.length)]) (up := [(id, .row e (sz + 1) (rows.length + news.length))]) (v := .sl (.own id) (sz + 1) (rows ++ news)) ⟨by rw [ev_lk]; exact (OpS.append ho (hT.elm he) (Nat.succ_pos _) (hT.zr hz) (Nat.eq_of_beq_eq_true hzl) (hT.byt hby) hs' hx' hne hb hb2).weak hE.ev, fun p hp => ?_, fun p hp => ?_, .inl hm, NC.no⟩ ?_
  · simp only [List.mem_singleton] at hp; subst hp; exact hH
  · simp only [List.mem_singleton] at hp; subst hp; exact .inl ⟨_, List.mem_singleton.2 rfl⟩
  · unfold St.step
    rw [hd, lk_pt, updL_lk]
    exact k

/-- An operation with a guard: its value, where the guard holds. -/
theorem AL.gv {d : Nat} (hd : o.dst = some d) (hn : Nat.blt d n = true) {c : Bool} (hg : gdec ops (lk E) o = some c) {v : AV} {rd : List (Nat × AObj)} (hv : c = true → aval T (lk H) (evE E) o.op = some (v, rd))
    (k : AL P ops M rest (i + 1) (mkS n ((d, bif c then v else .tup []) :: E) H) Q) : AL P ops M (o :: rest) i (mkS n E H) Q := by
  cases c
  · exact AL.sk hT hd hn hg k
  · exact AL.v hT hd hn hg (hv rfl) k
/-- .. a truth, that gets a name. -/
theorem AL.gvb {d : Nat} (hd : o.dst = some d) (hn : Nat.blt d n = true) {c : Bool} (hg : gdec ops (lk E) o = some c) {r : Bool} {rd : List (Nat × AObj)} (hv : c = true → aval T (lk H) (evE E) o.op = some (.bool r, rd))
    (k : ∀ q, q = r → AL P ops M rest (i + 1) (mkS n ((d, bif c then .bool q else .tup []) :: E) H) Q) : AL P ops M (o :: rest) i (mkS n E H) Q :=
  AL.gv hT hd hn hg hv (k r rfl)
/-- A truth gets a name. -/
theorem AL.vb {d : Nat} (hd : o.dst = some d) (hn : Nat.blt d n = true) (hg : gdec ops (lk E) o = some true) {b : Bool} {rd : List (Nat × AObj)} (hv : aval T (lk H) (evE E) o.op = some (.bool b, rd))
    (k : ∀ c, c = b → AL P ops M rest (i + 1) (mkS n ((d, .bool c) :: E) H) Q) : AL P ops M (o :: rest) i (mkS n E H) Q :=
  AL.v hT hd hn hg hv (k b rfl)
end

/-! ### less is kept of a state -/
def WvO : AObj → AObj → Prop
  | .box t c, .box t' c' => t = t' ∧ WvL c c'
  | .row e s n, .row e' s' n' => e = e' ∧ s = s' ∧ n = n'
  | .arr e s v r, .arr e' s' v' r' => e = e' ∧ s = s' ∧ v = v' ∧ WvR r r'
  | _, _ => False
theorem WvO.row {o : AObj} {e sz n : Nat} (h : WvO (.row e sz n) o) : o = .row e sz n := by
  cases o with
  | box t c => simp [WvO] at h
  | row e' s' n' => obtain ⟨rfl, rfl, rfl⟩ := h; rfl
  | arr _ _ _ _ => simp [WvO] at h
theorem WvO.row' {o : AObj} {e sz n : Nat} (h : WvO o (.row e sz n)) : o = .row e sz n := by
  cases o with
  | box t c => simp [WvO] at h
  | row e' s' n' => obtain ⟨rfl, rfl, rfl⟩ := h; rfl
  | arr _ _ _ _ => simp [WvO] at h
theorem WvO.arr {o : AObj} {e sz ver : Nat} {rows : List (List AV)} (h : WvO (.arr e sz ver rows) o) : ∃ rows', o = .arr e sz ver rows' ∧ WvR rows rows' := by
  cases o with
  | box t c => simp [WvO] at h
  | row e' s' n' => simp [WvO] at h
  | arr e' s' v' r' => obtain ⟨rfl, rfl, rfl, h⟩ := h; exact ⟨_, rfl, h⟩
theorem WvR.flat : ∀ {xs ys : List (List AV)}, WvR xs ys → WvL xs.flatten ys.flatten
  | [], [], _ => trivial
  | [], _ :: _, h => by simp [WvR] at h
  | _ :: _, [], h => by simp [WvR] at h
  | x :: xs, y :: ys, h => by
    simp only [WvR] at h
    simp only [List.flatten_cons]
    exact WvL.app h.1 (WvR.flat h.2)
where
  WvL.app : ∀ {a b c d : List AV}, WvL a b → WvL c d → WvL (a ++ c) (b ++ d)
    | [], [], _, _, _, k => by simpa using k
    | [], _ :: _, _, _, h, _ => by simp [WvL] at h
    | _ :: _, [], _, _, h, _ => by simp [WvL] at h
    | x :: a, y :: b, _, _, h, k => by simp only [WvL, List.cons_append] at h ⊢; exact ⟨h.1, WvL.app h.2 k⟩
theorem WvR.len : ∀ {xs ys : List (List AV)} {sz : Nat}, WvR xs ys → (∀ r ∈ xs, r.length = sz) → ∀ r ∈ ys, r.length = sz
  | [], [], _, _, h => h
  | [], _ :: _, _, h, _ => by simp [WvR] at h
  | _ :: _, [], _, h, _ => by simp [WvR] at h
  | x :: xs, y :: ys, sz, h, k => fun r hr => by
    simp only [WvR] at h
    rcases List.mem_cons.1 hr with rfl | hr
    · rw [← h.1.length]; exact k x (by simp)
    · exact WvR.len h.2 (fun r hr => k r (by simp [hr])) r hr
theorem WvO.refl : ∀ o : AObj, WvO o o
  | .box _ c => ⟨rfl, WvL.refl c⟩
  | .row _ _ _ => ⟨rfl, rfl, rfl⟩
  | .arr _ _ _ r => ⟨rfl, rfl, rfl, WvR.refl r⟩

theorem AW.weakW {P : Program} {S : Nat → Bool} {Q : Exit → St → Prop} {c : Code} {s : St} (s' : St) (hn : s'.n = s.n) (he : ∀ d y, s'.env d = some y → ∃ x, s.env d = some x ∧ Wv x y)
    (hH : ∀ id, (s.H id = none ∧ s'.H id = none) ∨ ∃ o o', s.H id = some o ∧ s'.H id = some o' ∧ WvO o o') (h : AW P S c Q s') : AW P S c Q s := fun C a hr => by
  let C' : Cx := { C with H := s'.H }
  have hf : ∀ id e sz n, C.H id = some (.row e sz n) → C'.H id = some (.row e sz n) := fun id e sz n q => by
    rw [hr.H] at q
    rcases hH id with ⟨h1, _⟩ | ⟨o, o', h1, h2, h3⟩
    · rw [h1] at q; cases q
    · rw [h1] at q; injection q with q; subst q; rw [h3.row] at h2; exact h2
  have hok : ∀ b j, C.ok b j → C'.ok b j := fun b j k => ⟨k.1, fun id v q1 q2 => let ⟨e, sz, n, k3, k4⟩ := k.2 id v q1 q2; ⟨e, sz, n, hf _ _ _ _ k3, k4⟩⟩
  have htag : ∀ id n v, TagP C id n v → TagP C' id n v := fun id n v ⟨e, sz, m, t1, t2, t3⟩ => ⟨e, sz, m, hf _ _ _ _ t1, t2, t3⟩
  have harr : ∀ id n z v, ArrP C id n z v → ArrP C' id n z v := fun id n z v ⟨sh, e, sz, m, rs, t1, t2, t3⟩ => by
    rw [hr.H] at t1
    rcases hH id with ⟨h1, _⟩ | ⟨o, o', h1, h2, h3⟩
    · rw [h1] at t1; cases t1
    · rw [h1] at t1; injection t1 with t1; subst t1
      obtain ⟨rs', rfl, h4⟩ := h3.arr
      exact ⟨sh, e, sz, m, rs', h2, t2, by rw [← h4.length]; exact t3⟩
  have hl : Le0 C C' (fun _ => true) := ⟨fun b j u k1 k2 => ⟨hok b j k1, k2⟩, fun id _ b q => q, fun id _ => htag id, fun id _ => harr id⟩
  have hls : LeS S C C' := ⟨fun b j u k1 k2 => ⟨hok b j k1, k2⟩, fun id _ b q => q, fun id _ => htag id, fun id _ => harr id, Nat.le_refl _, fun b _ q => ⟨rfl, q⟩⟩
  have hI : Inv C' := by
    refine ⟨hr.inv.below, fun id v q => ?_, hr.inv.apart, hr.inv.fresh, hr.inv.okG⟩
    obtain ⟨o, k3, k4⟩ := hr.inv.obj id v q
    rw [hr.H] at k3
    rcases hH id with ⟨h1, _⟩ | ⟨o1, o', h1, h2, h3⟩
    · rw [h1] at k3; cases k3
    · rw [h1] at k3; injection k3 with k3; subst k3
      refine ⟨o', h2, ?_⟩
      cases o1 with
      | row e sz n => rw [h3.row]; exact k4
      | arr e sz ver rows =>
        obtain ⟨rs', rfl, h4⟩ := h3.arr
        obtain ⟨q1, q2, xs, q3, q4, q5⟩ := k4
        exact ⟨q1, h4.len q2, xs, by rw [← h4.length]; exact q3, WvL.rd _ _ _ h4.flat (RdL.mono hl _ _ (inL_true _) q4), q5⟩
      | box t cells =>
        cases o' with
        | row e sz n => simp [WvO] at h3
        | arr e sz ver rows => simp [WvO] at h3
        | box t' cells' =>
          obtain ⟨rfl, h3⟩ := h3
          obtain ⟨b, cs, q1, q2, q3, q4, q5⟩ := k4
          exact ⟨b, cs, q1, q2, q3, WvL.rd _ _ _ h3 (RdL.mono hl _ _ (inL_true _) q4), q5⟩
  have hr' : Rel C' s' a := by
    refine ⟨hI, rfl, fun id o q => ?_, fun d y q => ?_, by rw [hr.size, hn], hr.defers⟩
    · rcases hH id with ⟨_, h2⟩ | ⟨o1, o', h1, h2, h3⟩
      · rw [h2] at q; cases q
      · exact hr.real id o1 h1
    · obtain ⟨x, k1, k2⟩ := he d y q
      exact Wv.rd _ _ _ k2 (Rd.mono hl _ _ (inA_true _) (hr.env d x k1))
  exact wp_mono (h C' a hr') (fun e a w h => Lift.later h rfl rfl hls)

/-- What of a state is kept, weakened. -/
def TrimsW (S : Nat → Bool) (E : List (Nat × AV)) (H : List (Nat × AObj)) (E' : List (Nat × AV)) (H' : List (Nat × AObj)) : Prop :=
  (∀ id, S id = true → idsIn H' id = true) ∧ (∀ p ∈ E', (∃ x, lk E p.1 = some x ∧ Wv x p.2) ∧ inA (idsIn H') p.2 = true) ∧ (∀ p ∈ H', (∃ o, lk H p.1 = some o ∧ WvO o p.2) ∧ inO (idsIn H') p.2 = true)

theorem lk_mem {β : Type} : ∀ {l : List (Nat × β)} {k : Nat} {b : β}, lk l k = some b → (k, b) ∈ l
  | [], _, _, h => by cases h
  | (a, c) :: r, k, b, h => by
    simp only [lk] at h
    cases hq : Nat.beq k a with
    | true => rw [hq] at h; simp only [cond_true] at h; injection h with h; subst h; have := Nat.eq_of_beq_eq_true hq; subst this; simp
    | false => rw [hq] at h; simp only [cond_false] at h; simp [lk_mem h]
theorem lk_some {β : Type} : ∀ {l : List (Nat × β)} {k : Nat} {b : β}, (k, b) ∈ l → ∃ b', lk l k = some b'
  | [], _, _, h => by cases h
  | (a, c) :: r, k, b, h => by
    simp only [lk]
    cases hq : Nat.beq k a with
    | true => exact ⟨c, rfl⟩
    | false =>
      rcases List.mem_cons.1 h with h | h
      · injection h with h1 h2; subst h1; simp at hq
      · simpa using lk_some h

theorem AW.trimW {P : Program} {S : Nat → Bool} {Q : Exit → St → Prop} {c : Code} {n : Nat} {E : List (Nat × AV)} {H : List (Nat × AObj)} {E' : List (Nat × AV)} {H' : List (Nat × AObj)} (h : TrimsW S E H E' H') (k : AW P S c Q (mkS n E' H')) : AW P S c Q (mkS n E H) := by
  obtain ⟨hS, hE, hH⟩ := h
  refine AW.weakW ⟨n, lk E', fun id => match lk H' id with | some o => some o | none => lk H id⟩ rfl (fun d y q => (hE _ (lk_mem q)).1) (fun id => ?_) ?_
  · show (lk H id = none ∧ (match lk H' id with | some o => some o | none => lk H id) = none) ∨ ∃ o o', lk H id = some o ∧ (match lk H' id with | some o => some o | none => lk H id) = some o' ∧ WvO o o'
    cases q : lk H' id with
    | none =>
      cases q2 : lk H id with
      | none => exact .inl ⟨rfl, rfl⟩
      | some o => exact .inr ⟨o, o, rfl, rfl, WvO.refl o⟩
    | some o' => obtain ⟨o, k1, k2⟩ := (hH _ (lk_mem q)).1; exact .inr ⟨o, o', k1, rfl, k2⟩
  · refine AW.forget (mkS n E' H') (idsIn H') hS rfl (fun d v q => ⟨q, (hE _ (lk_mem q)).2⟩) (fun id => ?_) (fun id o q => (hH _ (lk_mem q)).2) k
    show lk H' id = if idsIn H' id = true then (match lk H' id with | some o => some o | none => lk H id) else none
    cases hq : idsIn H' id with
    | true =>
      obtain ⟨o, ho⟩ := idsIn_iff.1 hq
      obtain ⟨o', ho'⟩ := lk_some ho
      rw [if_pos rfl, ho']
    | false =>
      rw [if_neg (by simp)]
      cases hl : lk H' id with
      | none => rfl
      | some o => have := idsIn_iff.2 ⟨o, lk_mem hl⟩; rw [hq] at this; cases this

/-- A loop over list states, what is kept weakened. -/
theorem AW.lpw {P : Program} {S : Nat → Bool} {Q : Exit → St → Prop} {c : Code} {n : Nat} {E : List (Nat × AV)} {H : List (Nat × AObj)} {α : Type} (E' : α → List (Nat × AV)) (H' : α → List (Nat × AObj)) (φ : α → Prop) (μ : α → Nat) (x0 : α)
    (h0 : TrimsW S E H (E' x0) (H' x0)) (hφ : φ x0)
    (round : ∀ x, φ x → AW P S c (AThen (fun s' => ∃ y E2 H2, s' = mkS n E2 H2 ∧ TrimsW S E2 H2 (E' y) (H' y) ∧ φ y ∧ μ y < μ x) Q) (mkS n (E' x) (H' x))) : AW P S (.loop c) Q (mkS n E H) := by
  refine AW.loop (fun x s => ∃ E2 H2, s = mkS n E2 H2 ∧ TrimsW S E2 H2 (E' x) (H' x) ∧ φ x) μ x0 ⟨E, H, rfl, h0, hφ⟩ ?_
  rintro x s ⟨E2, H2, rfl, ht, hx⟩
  refine AW.trimW ht ?_
  refine AW.mono (round x hx) ?_
  rintro e s h
  cases e with
  | normal =>
    obtain ⟨y, E3, H3, h1, h2, h3, h4⟩ := h
    exact ⟨y, ⟨E3, H3, h1, h2, h3⟩, h4⟩
  | _ => exact h

/-! ### lengths -/
mutual
def Lens : AV → Prop
  | .sl _ _ rows => rows.length ≤ 9223372036854775807
  | .agg l => LensL l
  | .tup l => LensL l
  | .ep l => LensL l
  | _ => True
def LensL : List AV → Prop
  | [] => True
  | x :: xs => Lens x ∧ LensL xs
end
mutual
theorem Lens.of {C : Cx} : ∀ (x : AV) (v : Value), Rd C x v → Lens x
  | .sl _ _ _, v, h => by simp only [Rd] at h; obtain ⟨_, _, _, _, q, _⟩ := h; exact q
  | .agg l, v, h => by simp only [Rd] at h; obtain ⟨vs, _, q, _⟩ := h; exact LensL.of l _ q
  | .tup l, v, h => by simp only [Rd] at h; obtain ⟨vs, _, q⟩ := h; exact LensL.of l _ q
  | .ep l, v, h => by simp only [Rd] at h; obtain ⟨b, off, _, q⟩ := h; exact LensL.ofC l b off q
  | .int _ _, _, _ => trivial
  | .bool _, _, _ => trivial
  | .str _, _, _ => trivial
  | .undef, _, _ => trivial
  | .nilp, _, _ => trivial
  | .nilf, _, _ => trivial
  | .ptr _ _, _, _ => trivial
  | .mv _ _ _, _, _ => trivial
  | .func _ _ _, _, _ => trivial
theorem LensL.of {C : Cx} : ∀ (x : List AV) (v : List Value), RdL C x v → LensL x
  | [], _, _ => trivial
  | _ :: _, [], h => by simp [RdL] at h
  | x :: xs, v :: vs, h => by simp only [RdL] at h; exact ⟨Lens.of x v h.1, LensL.of xs vs h.2⟩
theorem LensL.ofC {C : Cx} : ∀ (x : List AV) (b off : Nat), RdC C x b off → LensL x
  | [], _, _, _ => trivial
  | x :: xs, b, off, h => by simp only [RdC] at h; obtain ⟨_, ⟨u, _, _, q⟩, h⟩ := h; exact ⟨Lens.of x u q, LensL.ofC xs b (off + 1) h⟩
end
theorem AW.lens {P : Program} {S : Nat → Bool} {Q : Exit → St → Prop} {c : Code} {n : Nat} {E : List (Nat × AV)} {H : List (Nat × AObj)} (d : Nat) {x : AV} (hd : lk E d = some x) (h : Lens x → AW P S c Q (mkS n E H)) : AW P S c Q (mkS n E H) := fun C a hr =>
  h (Lens.of _ _ (hr.env d _ hd)) C a hr
theorem AW.lensB {P : Program} {S : Nat → Bool} {Q : Exit → St → Prop} {c : Code} {n : Nat} {E : List (Nat × AV)} {H : List (Nat × AObj)} (id : Nat) {t : TypeId} {cells : List AV} (hd : lk H id = some (.box t cells)) (h : LensL cells → AW P S c Q (mkS n E H)) : AW P S c Q (mkS n E H) := fun C a hr => by
  obtain ⟨v, hv⟩ := hr.real id _ hd
  obtain ⟨o, k1, k2⟩ := hr.inv.obj id v hv
  have k1 : lk H id = some o := by have := k1; rw [hr.H] at this; exact this
  rw [hd] at k1
  injection k1 with k1
  subst k1
  obtain ⟨b, cs, _, _, _, q, _⟩ := k2
  exact h (LensL.of _ _ q) C a hr
theorem wnx {k m : Nat} (h : decide ((k : Int) < (m : Int)) = true) (hm : m ≤ 9223372036854775807) : Wv (.int .i64 (IntKind.i64.wrap ((k : Int) + 1))) (.int .i64 ((k + 1 : Nat) : Int)) := by
  have h := of_decide_eq_true h
  show AV.int .i64 _ = AV.int .i64 _
  rw [wrap64 (by omega) (by omega)]
  rfl

/-- Two texts, compared. -/
def sbOp (op : BinOp) (s t : ByteArray) : Option Bool :=
  match op with
  | .eql => some (s.data.toList == t.data.toList)
  | .neq => some (s.data.toList != t.data.toList)
  | .lss => some (Op.bytesLess s.data.toList t.data.toList)
  | .leq => some (Op.bytesLess s.data.toList t.data.toList || s.data.toList == t.data.toList)
  | .gtr => some (!(Op.bytesLess s.data.toList t.data.toList || s.data.toList == t.data.toList))
  | .geq => some (!(Op.bytesLess s.data.toList t.data.toList))
  | _ => none

/-! ### what is told of a definition's result -/
theorem cnd_t {α : Type} {c : Bool} {a b : Option α} {r : α} (h : c = true) (hr : (bif c then a else b) = some r) : a = some r := by rw [h] at hr; exact hr
theorem cnd_f {α : Type} {c : Bool} {a b : Option α} {r : α} (h : c = false) (hr : (bif c then a else b) = some r) : b = some r := by rw [h] at hr; exact hr
theorem eqT {α : Type} [BEq α] {a b : α} (h : (a == b) = true) : (a != b) = false := by simp [bne, h]
theorem eqF {α : Type} [BEq α] {a b : α} (h : (a == b) = false) : (a != b) = true := by simp [bne, h]
theorem bneT {α : Type} [BEq α] {a b : α} (h : (a != b) = true) : (a == b) = false := by simpa [bne] using h
theorem bneF {α : Type} [BEq α] {a b : α} (h : (a != b) = false) : (a == b) = true := by simpa [bne] using h
theorem bnd1 {α β : Type} {x : Option α} {f : α → Option β} {r : β} (h : x.bind f = some r) : ∃ a, x = some a ∧ f a = some r := Option.bind_eq_some_iff.1 h
theorem grd {α : Type} {p : Prop} [Decidable p] {a : Option α} {r : α} (h : (if p then a else none) = some r) : p ∧ a = some r := by
  split at h
  · rename_i q; exact ⟨q, h⟩
  · cases h
theorem bndT {ρ : Operand → Option AV} {o : Operand} {d m n : Nat} {k : IntKind} (h : ρ o = some (.int k (n : Int))) (hn : n ≤ m) : bnd ρ (some o) d m = some n := by
  unfold Tl.bnd
  simp only [h, Int.toNat_natCast]
  rw [if_pos ⟨Int.natCast_nonneg n, hn⟩]
theorem bndS {ρ : Operand → Option AV} {o : Operand} {d m : Nat} {k : IntKind} {i : Int} (h : ρ o = some (.int k i)) (h0 : 0 ≤ i) (hn : i.toNat ≤ m) : bnd ρ (some o) d m = some i.toNat := by
  unfold Tl.bnd
  simp only [h]
  rw [if_pos ⟨h0, hn⟩]
theorem avq_quo {T : TI} {ty : TypeId} {k : IntKind} {a b : Int} (h : b ≠ 0) : (match (some (AV.int k a) : Option AV), (some (AV.int k b) : Option AV) with | some x, some y => (abin T .quo ty x y).map (fun z => (z, ([] : List (Nat × AObj)))) | _, _ => none) = some (AV.int k (k.wrap (a.tdiv b)), []) := by
  simp [abin, h]
theorem avs_shl {T : TI} {ty : TypeId} {k k' : IntKind} {a b : Int} (h : 0 ≤ b) : (match (some (AV.int k a) : Option AV), (some (AV.int k' b) : Option AV) with | some x, some y => (abin T .shl ty x y).map (fun z => (z, ([] : List (Nat × AObj)))) | _, _ => none) = some (AV.int k (k.wrap (a * 2 ^ (min b.toNat k.bits))), []) := by
  simp [abin, show ¬ b < 0 by omega]
theorem avs_shr {T : TI} {ty : TypeId} {k k' : IntKind} {a b : Int} (h : 0 ≤ b) : (match (some (AV.int k a) : Option AV), (some (AV.int k' b) : Option AV) with | some x, some y => (abin T .shr ty x y).map (fun z => (z, ([] : List (Nat × AObj)))) | _, _ => none) = some (AV.int k (a.fdiv (2 ^ (min b.toNat k.bits))), []) := by
  simp [abin, show ¬ b < 0 by omega]
theorem idsIn_sub {rd H' : List (Nat × AObj)} (h : rd.all (fun p => idsIn H' p.1) = true) : ∀ id, idsIn rd id = true → idsIn H' id = true := fun id q => by
  obtain ⟨o, ho⟩ := idsIn_iff.1 q
  exact List.all_eq_true.1 h _ ho
theorem avq_rem {T : TI} {ty : TypeId} {k : IntKind} {a b : Int} (h : b ≠ 0) : (match (some (AV.int k a) : Option AV), (some (AV.int k b) : Option AV) with | some x, some y => (abin T .rem ty x y).map (fun z => (z, ([] : List (Nat × AObj)))) | _, _ => none) = some (AV.int k (a.tmod b), []) := by
  simp [abin, h]

section
variable {P : Program} {T : TI} (hT : T.Good P) {ops : Array Oper} {M : Nat → Mk} {o : Oper} {rest : List Oper} {i n : Nat} [nc : NC M i] {E : List (Nat × AV)} {H : List (Nat × AObj)} {Q : St → Prop}
include hT
/-- A store, its cells told. -/
theorem AL.st2 (hd : o.dst = none) (hg : gdec ops (lk E) o = some true) {ty : TypeId} {x y : Operand} (ho : o.op = .store ty x y) {id off : Nat} (hx : evE E x = some (.ptr id off)) {v : AV} (hy : evE E y = some v) {l : List AV} (hl : cellsA v = some l)
    {g : Bool} {m : Nat} (hlay : gt T.lay ty = some (g, m)) (hlm : Nat.beq l.length m = true) {t : TypeId} {cells : List AV} (hH : lk H id = some (.box t cells)) (hb : Nat.ble (off + l.length) cells.length = true) (hm : (M i).b = true) {c2 : List AV} (hc : spl cells off l = c2)
    (k : AL P ops M rest (i + 1) (mkS n (E) ((id, .box t c2) :: H)) Q) : AL P ops M (o :: rest) i (mkS n E H) Q :=
  AL.st hT hd hg ho hx hy hl hlay hlm hH hb hm (by rw [hc]; exact k)
/-- A text's byte. -/
theorem AL.sx {d : Nat} (hd : o.dst = some d) (hn : Nat.blt d n = true) (hg : gdec ops (lk E) o = some true) {ty : TypeId} {x j : Operand} (ho : o.op = .index ty x j) (hs : gt T.srt ty = some .string) {s : ByteArray} (hx : evE E x = some (.str s)) {k0 : IntKind} {m : Int} (hj : evE E j = some (.int k0 m)) (h0 : 0 ≤ m) {b : UInt8} (hb : s.data[m.toNat]? = some b)
    (k : AL P ops M rest (i + 1) (mkS n ((d, .int .u8 (b.toNat : Int)) :: E) H) Q) : AL P ops M (o :: rest) i (mkS n E H) Q := by
  refine AL.v hT hd hn hg (rd := []) ?_ k
  rw [ho]
  simp only [aval, hs, hx, hj]
  rw [if_pos h0, hb]
/-- Two texts are compared. -/
theorem AL.sb {d : Nat} (hd : o.dst = some d) (hn : Nat.blt d n = true) (hg : gdec ops (lk E) o = some true) {op : BinOp} {ty yT : TypeId} {x y : Operand} (ho : o.op = .binOp op ty x y yT) {s t : ByteArray} (hx : evE E x = some (.str s)) (hy : evE E y = some (.str t)) {b : Bool}
    (hb : sbOp op s t = some b)
    (k : AL P ops M rest (i + 1) (mkS n ((d, .bool b) :: E) H) Q) : AL P ops M (o :: rest) i (mkS n E H) Q := by
  refine AL.v hT hd hn hg (rd := []) ?_ k
  rw [ho]
  simp only [aval, hx, hy]
  cases op <;> simp only [sbOp, Option.some.injEq] at hb <;> first | (cases hb; done) | (subst hb; simp only [abin, ByteArray.toList_eq]; rfl)
theorem AL.cat {d : Nat} (hd : o.dst = some d) (hn : Nat.blt d n = true) (hg : gdec ops (lk E) o = some true) {ty yT : TypeId} {x y : Operand} (ho : o.op = .binOp .add ty x y yT) {s t : ByteArray} (hx : evE E x = some (.str s)) (hy : evE E y = some (.str t)) (hl : s.size + t.size ≤ 1000000)
    (k : AL P ops M rest (i + 1) (mkS n ((d, .str (s ++ t)) :: E) H) Q) : AL P ops M (o :: rest) i (mkS n E H) Q := by
  refine AL.v hT hd hn hg (rd := []) ?_ k
  rw [ho]
  simp only [aval, hx, hy, abin]
  rw [if_pos (by omega)]
  rfl
theorem AL.ln {d : Nat} (hd : o.dst = some d) (hn : Nat.blt d n = true) (hg : gdec ops (lk E) o = some true) {x : Operand} {ty e : TypeId} (ho : o.op = .call { callee := .builtin .len, args := #[x], argTypes := #[ty] }) (hs : gt T.srt ty = some (.slice e)) {tag : Tag} {sz m : Nat} {rows : List (List AV)} (hx : evE E x = some (.sl tag sz rows)) (hm : rows.length = m)
    (k : AL P ops M rest (i + 1) (mkS n ((d, .int .i64 (m : Int)) :: E) H) Q) : AL P ops M (o :: rest) i (mkS n E H) Q := by
  refine AL.v hT hd hn hg (rd := []) ?_ k
  rw [ho]
  simp only [aval, hs, hx, hm]
/-- A length, under a guard. -/
theorem AL.gln {d : Nat} (hd : o.dst = some d) (hn : Nat.blt d n = true) {c : Bool} (hg : gdec ops (lk E) o = some c) {x : Operand} {ty e : TypeId} (ho : o.op = .call { callee := .builtin .len, args := #[x], argTypes := #[ty] }) (hs : gt T.srt ty = some (.slice e)) {tag : Tag} {sz m : Nat} {rows : List (List AV)} (hx : c = true → evE E x = some (.sl tag sz rows)) (hm : rows.length = m)
    (k : AL P ops M rest (i + 1) (mkS n ((d, bif c then .int .i64 (m : Int) else .tup []) :: E) H) Q) : AL P ops M (o :: rest) i (mkS n E H) Q := by
  refine AL.gv hT hd hn hg (rd := []) (fun h => ?_) k
  rw [ho]
  simp only [aval, hs, hx h, hm]
/-- Two texts, compared under a guard. -/
theorem AL.gsb {d : Nat} (hd : o.dst = some d) (hn : Nat.blt d n = true) {c : Bool} (hg : gdec ops (lk E) o = some c) {op : BinOp} {ty yT : TypeId} {x y : Operand} (ho : o.op = .binOp op ty x y yT) {s t : ByteArray} (hx : c = true → evE E x = some (.str s)) (hy : c = true → evE E y = some (.str t)) {b : Bool}
    (hb : sbOp op s t = some b)
    (k : AL P ops M rest (i + 1) (mkS n ((d, bif c then .bool b else .tup []) :: E) H) Q) : AL P ops M (o :: rest) i (mkS n E H) Q := by
  refine AL.gv hT hd hn hg (rd := []) (fun h => ?_) k
  rw [ho]
  simp only [aval, hx h, hy h]
  cases op <;> simp only [sbOp, Option.some.injEq] at hb <;> first | (cases hb; done) | (subst hb; simp only [abin, ByteArray.toList_eq]; rfl)
/-- append, its row told. -/
theorem AL.aw2 {d : Nat} (hd : o.dst = some d) (hn : Nat.blt d n = true) (hg : gdec ops (lk E) o = some true) {ty : TypeId} {s : Operand} {t : Tmp} (ho : o.op = .call { callee := .builtin .append, args := #[s, .tmp t], argTypes := #[ty, ty] }) {e sz : Nat} (he : gt T.elm ty = some (e, sz + 1)) {z : List AV} (hz : gt T.zr e = some z) (hzl : Nat.beq z.length (sz + 1) = true) {by_ : Nat} (hby : gt T.byt e = some by_)
    {id : Nat} {tagx : Tag} {rows news0 news rows2 : List (List AV)} (hs : evE E s = some (.sl (.own id) (sz + 1) rows)) (hst : s ≠ .tmp t) (hx : lk E t = some (.sl tagx (sz + 1) news0)) (hH : lk H id = some (.row e (sz + 1) rows.length)) (hm : (M i).b = true) (hw : WvR news0 news) (hr : rows ++ news = rows2) (hl : rows2.length ≤ 1000000) (hb : Nat.ble by_ 1000000 = true)
    (k : AL P ops M rest (i + 1) (mkS n ((d, (.sl (.own id) (sz + 1) rows2)) :: E) ((id, .row e (sz + 1) rows2.length) :: H)) Q) : AL P ops M (o :: rest) i (mkS n E H) Q := by
  subst hr
  rw [List.length_append] at hl k
  by_cases hne : news = []
  · subst hne
    have h0 : news0 = [] := List.eq_nil_of_length_eq_zero (by simpa using hw.length)
    subst h0
    simp only [List.append_nil, List.length_nil, Nat.add_zero] at k
    refine AL.app0 hT hd hn hg ho he hs (szx := sz + 1) (tagx := tagx) hx ?_
    have key : mkS n ((d, .sl (.own id) (sz + 1) rows) :: E) ((id, .row e (sz + 1) rows.length) :: H) = mkS n ((d, .sl (.own id) (sz + 1) rows) :: E) H := by
      unfold mkS
      congr 1
      rw [lk_cons]
      funext j
      simp only [upd]
      split
      · rename_i q; rw [q, hH]
      · rfl
    rw [← key]
    exact k
  · exact AL.aw hT hd hn hg ho he hz hzl hby hs hst hx hH hm hne hw (by
      have h1 := Nat.le_of_ble_eq_true hb
      have h2 : (rows.length + news.length) * by_ ≤ 1000000 * 1000000 := Nat.mul_le_mul hl h1
      omega) (by omega) k
/-- append to nil, its row told. -/
theorem AL.awN {d : Nat} (hd : o.dst = some d) (hn : Nat.blt d n = true) (hg : gdec ops (lk E) o = some true) {ty : TypeId} {s : Operand} {t : Tmp} (ho : o.op = .call { callee := .builtin .append, args := #[s, .tmp t], argTypes := #[ty, ty] }) {e sz : Nat} (he : gt T.elm ty = some (e, sz + 1)) {z : List AV} (hz : gt T.zr e = some z) (hzl : Nat.beq z.length (sz + 1) = true) {by_ : Nat} (hby : gt T.byt e = some by_)
    {szs : Nat} {tagx : Tag} {news0 news : List (List AV)} (hs : evE E s = some (.sl .nil szs [])) (hx : lk E t = some (.sl tagx (sz + 1) news0)) (hne : news ≠ []) (hw : WvR news0 news) {news2 : List (List AV)} (hn2 : news = news2) (hl : news.length ≤ 1000000) (hb : Nat.ble by_ 1000000 = true) (id : Nat) (hid : lk H id = none)
    (k : AL P ops M rest (i + 1) (mkS n ((d, (.sl (.own id) (sz + 1) news2)) :: E) ((id, .row e (sz + 1) news2.length) :: H)) Q) : AL P ops M (o :: rest) i (mkS n E H) Q := by
  subst hn2
  have hE : WE E ((t, .sl tagx (sz + 1) news) :: E) := (WE.refl E).put t hx ⟨.inl rfl, hw, .inl rfl⟩
  have hx' : evE ((t, .sl tagx (sz + 1) news) :: E) (.tmp t) = some (.sl tagx (sz + 1) news) := by
    show lk ((t, _) :: E) t = _
    rw [lk_cons, upd_same]
  have h1 := Nat.le_of_ble_eq_true hb
  have h2 : news.length * by_ ≤ 1000000 * 1000000 := Nat.mul_le_mul hl h1
  by_cases hst : s = .tmp t
  · subst hst
    have hs : lk E t = some (.sl .nil szs []) := hs
    rw [hs] at hx
    injection hx with hx
    injection hx with hx1 hx2 hx3
    subst hx3
    exact absurd (List.eq_nil_of_length_eq_zero (by simpa using hw.length.symm)) hne
  · have hs' : evE ((t, .sl tagx (sz + 1) news) :: E) s = some (.sl .nil szs []) := by
      cases s with
      | tmp u =>
        show lk ((t, _) :: E) u = _
        rw [lk_cons, upd_ne _ _ (fun q => hst (by rw [q]))]
        exact hs
      | const v => exact hs
      | func f => exact hs
      | global g => exact hs
    exact AL.newObj hT hd hn hg id hid (by rw [ho]; rfl) ((OpS.appendNil ho (hT.elm he) (Nat.succ_pos _) (hT.zr hz) (Nat.eq_of_beq_eq_true hzl) (hT.byt hby) hs' hx' hne (by omega) (by omega) id).weak hE.ev) k
/-- Bytes as a text. -/
theorem AL.tos {d : Nat} (hd : o.dst = some d) (hn : Nat.blt d n = true) (hg : gdec ops (lk E) o = some true) {src dst e : TypeId} {x : Operand} (ho : o.op = .convert src dst x) (hs : gt T.srt src = some (.slice e)) (hdst : gt T.srt dst = some .string) (he : gt T.srt e = some (.int .u8)) {tag : Tag} {rows : List (List AV)} (hx : evE E x = some (.sl tag 1 rows)) {l : List Int} (hl : bytesA rows = some l)
    (k : AL P ops M rest (i + 1) (mkS n ((d, .str (strOfNums l)) :: E) H) Q) : AL P ops M (o :: rest) i (mkS n E H) Q := by
  refine AL.v hT hd hn hg (rd := []) ?_ k
  rw [ho]
  simp only [aval, hs, hdst, hx, he, if_true, hl]
  rfl
/-- A text is cut. -/
theorem AL.ss {d : Nat} (hd : o.dst = some d) (hn : Nat.blt d n = true) (hg : gdec ops (lk E) o = some true) {ty : TypeId} {x : Operand} {lo hi : Option Operand} (ho : o.op = .slice ty x lo hi none) (hty : gt T.srt ty = some .string) {s : ByteArray} (hx : evE E x = some (.str s)) {l h : Nat} (hh : Tl.bnd (evE E) hi s.size s.size = some h) (hl : Tl.bnd (evE E) lo 0 h = some l)
    (k : AL P ops M rest (i + 1) (mkS n ((d, .str (s.extract l h)) :: E) H) Q) : AL P ops M (o :: rest) i (mkS n E H) Q := by
  refine AL.v hT hd hn hg (rd := []) ?_ k
  rw [ho]
  simp only [aval, hty, hx, hh, hl]
/-- A slice is cut. -/
theorem AL.sc {d : Nat} (hd : o.dst = some d) (hn : Nat.blt d n = true) (hg : gdec ops (lk E) o = some true) {ty e e2 : TypeId} {x : Operand} {lo hi : Option Operand} (ho : o.op = .slice ty x lo hi none) (hty : gt T.srt ty = some (.slice e)) {sz : Nat} (hel : gt T.elm ty = some (e2, sz)) {tag : Tag} {rows rows2 : List (List AV)} (hx : evE E x = some (.sl tag sz rows)) {m l h : Nat} (hm : rows.length = m) (hh : Tl.bnd (evE E) hi m m = some h) (hl : Tl.bnd (evE E) lo 0 h = some l)
    (hr : (rows.take h).drop l = rows2) (k : AL P ops M rest (i + 1) (mkS n ((d, .sl .ro sz rows2) :: E) H) Q) : AL P ops M (o :: rest) i (mkS n E H) Q := by
  refine AL.v hT hd hn hg (rd := []) ?_ k
  rw [ho]
  subst hm hr
  simp only [aval, hty, hx, hel, hh, hl]
  simp
/-- A slice cut to its length, the length told. -/
theorem AL.clip2 {d : Nat} (hd : o.dst = some d) (hn : Nat.blt d n = true) (hg : gdec ops (lk E) o = some true) {ty e : TypeId} {x hi mx : Operand} (ho : o.op = .slice ty x none (some hi) (some mx)) (hs : gt T.srt ty = some (.slice e)) {sz' : Nat} (he : gt T.elm ty = some (e, sz'))
    {tag : Tag} {sz m : Nat} {rows : List (List AV)} (hx : evE E x = some (.sl tag sz rows)) {kk kk' : IntKind} (hh : evE E hi = some (.int kk (m : Int))) (hm : evE E mx = some (.int kk' (m : Int))) (hl : rows.length = m)
    (k : AL P ops M rest (i + 1) (mkS n ((d, .sl .ro sz rows) :: E) H) Q) : AL P ops M (o :: rest) i (mkS n E H) Q := by
  subst hl
  exact AL.clip hT hd hn hg ho hs he hx hh hm k
end

end Go.Proofs.Ytbcjcekoonebiaa.Tl
