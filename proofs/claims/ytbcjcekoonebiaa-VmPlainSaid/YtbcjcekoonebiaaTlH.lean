/- The tree logic, part H: calls and contracts. Conditions: none. -/
import Derived.Test.YtbcjcekoonebiaaTlG
set_option linter.unusedVariables false
set_option linter.unusedSimpArgs false
set_option linter.unusedSectionVars false
namespace Go.Proofs.Ytbcjcekoonebiaa.Tl
open Go Go.RowKit

def Pu (ok : Nat → Nat → Prop) (w : World) : Cx := ⟨w, fun b j => b < w.heap.size → ok b j, fun _ => none, fun _ => none, w⟩

/-- THE CONTRACT of a function of trees. -/
def ACall (P : Program) (f : FuncId) (args : List AV) (res : AV) : Prop :=
  pureA res = true ∧ ∀ (ok : Nat → Nat → Prop) (w : World) (vs : Array Value), RdL (Pu ok w) args vs.toList →
    Calls P f vs w fun e w' => ∃ v, e = .returned v ∧ Rd (Pu (fun b j => b < w.heap.size → ok b j) w') res v ∧ Below w.heap.size w w'

/-- The contract of a function that is handed addresses of variables. -/
def ACallH (P : Program) (f : FuncId) (args : List AV) (rd up : List (Nat × AObj)) (res : AV) : Prop :=
  ∀ (C : Cx) (vs : Array Value), Inv C → (∀ p ∈ rd, C.H p.1 = some p.2 ∧ ∃ u, C.G p.1 = some u) → RdL C args vs.toList →
    Calls P f vs C.w fun e w' => ∃ v C', e = .returned v ∧ C'.w = w' ∧ Inv C' ∧ Le C C' ∧ C'.w0 = C.w0 ∧ C'.ok0 = C.ok0 ∧ C'.H = updL C.H up ∧ (∀ id u, C.G id = some u → ∃ u', C'.G id = some u') ∧ Rd C' res v

theorem Inv.blk_lt {C : Cx} (hI : Inv C) {id : Nat} {v : Value} {b : Nat} (h : C.G id = some v) (hb : blk v = some b) : C.w0.heap.size ≤ b ∧ b < C.w.heap.size := by
  obtain ⟨o, _, h2⟩ := hI.obj id v h
  exact h2.blk hb

theorem Le0.ofOk {C C' : Cx} (h : ∀ b j u, C.ok b j → C.w.cell? ⟨b, j, none⟩ = some u → C'.ok b j ∧ C'.w.cell? ⟨b, j, none⟩ = some u) : Le0 C C' (fun _ => false) :=
  ⟨h, (fun _ q => by cases q), (fun _ q => by cases q), (fun _ q => by cases q)⟩
theorem pu_ok {ok : Nat → Nat → Prop} {w : World} {b j : Nat} (h : b < w.heap.size → ok b j) : (Pu ok w).ok b j := ⟨h, (fun id v q => by cases q)⟩

theorem pure_in {C : Cx} {x : AV} {v : Value} (hp : pureA x = true) (h : Rd C x v) : Rd (Pu C.ok C.w) x v :=
  Rd.mono (Le0.ofOk fun b j u h1 h2 => ⟨pu_ok fun _ => h1, h2⟩) x v hp h
theorem pureL_in {C : Cx} {x : List AV} {v : List Value} (hp : pureL x = true) (h : RdL C x v) : RdL (Pu C.ok C.w) x v :=
  RdL.mono (Le0.ofOk fun b j u h1 h2 => ⟨pu_ok fun _ => h1, h2⟩) x v hp h

theorem pure_out {C : Cx} (hI : Inv C) {w' : World} (hb : Below C.w.heap.size C.w w') {x : AV} {v : Value} (hp : pureA x = true) (h : Rd (Pu (fun b j => b < C.w.heap.size → C.ok b j) w') x v) : Rd { C with w := w' } x v := by
  refine Rd.mono (C := Pu (fun b j => b < C.w.heap.size → C.ok b j) w') (C' := { C with w := w' }) (Le0.ofOk fun b j u h1 h2 => ⟨?_, h2⟩) x v hp h
  have hlt : b < w'.heap.size := cell_lt h2
  have h3 : b < C.w.heap.size → C.ok b j := h1.1 hlt
  by_cases hb2 : b < C.w.heap.size
  · exact h3 hb2
  · refine ⟨hI.fresh b j (by omega), fun id v q1 q2 => ?_⟩
    have := (hI.blk_lt q1 q2).2
    omega

def callable (P : Program) (f : FuncId) : Bool :=
  match P.funcs[f]? with
  | some fn => fn.body.isSome && fn.name != "runtime.NumGoroutine"
  | none => false

theorem run_callFunc {P : Program} {f : FuncId} (h : callable P f = true) (args : Array Value) (w : World) : (callFunc f args).run P w = .ok (.enter f args) w := by
  unfold callable at h
  split at h
  · rename_i fn hf
    simp only [Bool.and_eq_true, bne_iff_ne, ne_eq] at h
    obtain ⟨c, hc⟩ : ∃ c, fn.body = some c := by cases hb : fn.body with
      | none => rw [hb] at h; simp at h
      | some c => exact ⟨c, rfl⟩
    unfold callFunc
    simp [program, Sem.run, hf, hc, h.2]
  · cases h

theorem run_call {P : Program} {C : Cx} {a : Act} {o : Oper} {cf : Operand} {args : Array Operand} {tys : Array TypeId} (ho : o.op = .call { callee := .value cf, args := args, argTypes := tys }) {f : FuncId} {first caps : Array Value}
    (hf : a.eval cf = .func (.func f) first caps) (hc : callable P f = true) (w : World) : (execOp a.eval o).run P w = .ok (.enter f (first ++ args.map a.eval ++ caps)) w := by
  unfold execOp
  simp only [ho, resolve, hf, Deferred.ofValue, Sem.run_bind, Sem.run_pure, Result.andThen_ok, invoke, run_callFunc hc]

theorem mem_call {o : Oper} {cf : Operand} {args : Array Operand} {tys : Array TypeId} (ho : o.op = .call { callee := .value cf, args := args, argTypes := tys }) : cf ∈ o.op.operands ∧ ∀ x ∈ args.toList, x ∈ o.op.operands := by
  rw [ho]
  refine ⟨by simp [Op.operands, Call.operands], fun x hx => ?_⟩
  simp only [Op.operands, Call.operands, Array.mem_append]
  right
  simpa using hx

theorem OpS.call {P : Program} {o : Oper} {ρ : Operand → Option AV} {cf : Operand} {args : Array Operand} {tys : Array TypeId} (ho : o.op = .call { callee := .value cf, args := args, argTypes := tys }) {f : FuncId} {first caps : List AV}
    (hf : ρ cf = some (.func f first caps)) (hc : callable P f = true) {as : List AV} (ha : listA ρ args.toList = some as) {xs : List AV} (hx : puL (first ++ as ++ caps) = xs) (hp : pureL xs = true) {res : AV} (h : ACall P f xs res) : OpS P o ρ [] [] res := by
  intro C a next Q hI hρ hrd hup hk
  obtain ⟨m1, m2⟩ := mem_call ho
  have q := hρ cf m1 _ hf
  simp only [Rd] at q
  obtain ⟨vs, us, q0, q1, q2⟩ := q
  have qa := listA_rd (C := C) (a := a) ha (fun x hx => hρ x (m2 x hx))
  unfold Oper.wp
  rw [run_call (C := C) ho q0 hc, Oper.upon_enter]
  have hall : RdL (Pu C.ok C.w) xs (vs ++ args.map a.eval ++ us).toList := by
    refine pureL_in hp ?_
    rw [← hx]
    refine RdL.pu _ _ ?_
    simp only [Array.toList_append, Array.toList_map]
    exact (q1.append qa).append q2
  refine (h.2 C.ok C.w _ hall).mono fun e w' hr => ?_
  obtain ⟨v, rfl, hv, hb⟩ := hr
  obtain ⟨hI', hle⟩ := hI.moved hb
  exact hk { C with w := w' } v hI' hle rfl rfl rfl (fun id u h => ⟨u, h⟩) (by simp) (pure_out hI hb h.1 hv)

theorem OpS.callH {P : Program} {o : Oper} {ρ : Operand → Option AV} {cf : Operand} {args : Array Operand} {tys : Array TypeId} (ho : o.op = .call { callee := .value cf, args := args, argTypes := tys }) {f : FuncId} {first caps : List AV}
    (hf : ρ cf = some (.func f first caps)) (hc : callable P f = true) {as : List AV} (ha : listA ρ args.toList = some as) {rd up : List (Nat × AObj)} {res : AV} (h : ACallH P f (first ++ as ++ caps) rd up res) (hur : ∀ p ∈ up, ∃ ob, (p.1, ob) ∈ rd) : OpS P o ρ rd up res := by
  intro C a next Q hI hρ hrd hup hk
  obtain ⟨m1, m2⟩ := mem_call ho
  have q := hρ cf m1 _ hf
  simp only [Rd] at q
  obtain ⟨vs, us, q0, q1, q2⟩ := q
  have qa := listA_rd (C := C) (a := a) ha (fun x hx => hρ x (m2 x hx))
  unfold Oper.wp
  rw [run_call (C := C) ho q0 hc, Oper.upon_enter]
  have hall : RdL C (first ++ as ++ caps) (vs ++ args.map a.eval ++ us).toList := by
    simp only [Array.toList_append, Array.toList_map]
    exact (q1.append qa).append q2
  refine (h C _ hI hrd hall).mono fun e w' hr => ?_
  obtain ⟨v, C', rfl, rfl, hI', hle, e0, e1, e2, hG, hv⟩ := hr
  refine hk C' v hI' hle e0 e1 e2 hG (fun p hp => ?_) hv
  obtain ⟨ob, hob⟩ := hur p hp
  obtain ⟨_, u, hu⟩ := hrd _ hob
  exact hG _ u hu

/-! ### results -/
def resOne (tmps : Array Value) : ResultVar → Sem Value
  | .tmp t => pure (tmps.getD t undef)
  | .cell p t => do loadVar t (← asAddr (tmps.getD p undef))
theorem results_eq (fn : Func) (tmps : Array Value) : results fn tmps = (fn.results.mapM (resOne tmps)) >>= fun vs => pure (if h : vs.size = 1 then vs[0] else .tuple vs) := by
  unfold results
  refine congrArg (fun f => (fn.results.mapM f : Sem (Array Value)) >>= fun vs => (pure (if h : vs.size = 1 then vs[0] else Value.tuple vs) : Sem Value)) ?_
  funext rv
  cases rv <;> rfl
/-- One result, at the end of a body. -/
def Res1 (P : Program) (rv : ResultVar) (s : St) (x : AV) : Prop :=
  ∀ C a, Rel C s a → ∃ u, (resOne a.tmps rv).run P C.w = .ok u C.w ∧ Rd C x u

theorem Res1.tmp {P : Program} {t : Tmp} {s : St} {x : AV} (h : s.env t = some x) : Res1 P (.tmp t) s x := fun C a hr => ⟨_, rfl, hr.env t x h⟩
theorem Res1.cell {P : Program} {p : Tmp} {T : TypeId} {s : St} {id off : Nat} (h : s.env p = some (.ptr id off)) {t : TypeId} {cells : List AV} (hH : s.H id = some (.box t cells)) {g : Bool} {n : Nat} (hl : lay P T = some (g, n)) {x : AV} (hx : valA g n (cells.drop off) = some x) : Res1 P (.cell p T) s x := fun C a hr => by
  have q := hr.env p _ h
  simp only [Rd] at q
  obtain ⟨b, q0, q1⟩ := q
  obtain ⟨ob, k3, k4⟩ := hr.inv.obj id _ q0
  rw [hr.H, hH] at k3
  injection k3 with k3
  subst k3
  obtain ⟨b', cs, k5, k6, k7, k8, k9⟩ := k4
  injection k5 with k5
  injection k5 with k5
  injection k5 with k5 _ _
  subst k5
  obtain ⟨z, m1, m2⟩ := loadVar_cells (C := C) hl hx b off (cs.toList.drop off) (by
    have := k8.extract off cells.length
    rw [List.take_of_length_le (by simp), List.take_of_length_le (by have := k8.length; simp at this ⊢; omega)] at this
    exact this) (fun u hu => k9 u (List.mem_of_mem_drop hu)) (fun j u hj => by
    rw [cell_of k7]
    rw [List.getElem?_drop] at hj
    simpa using hj)
  refine ⟨z, ?_, m2⟩
  simp only [resOne, q1, asAddr, Sem.run_bind, Sem.run_pure, Result.andThen_ok, m1]

/-- All results. -/
def ResA (P : Program) (fn : Func) (s : St) (x : AV) : Prop := ∀ C a, Rel C s a → ∃ u, (results fn a.tmps).run P C.w = .ok u C.w ∧ Rd C x u

theorem results_run {P : Program} {fn : Func} {tmps : Array Value} {w : World} : ∀ {rs : List ResultVar} {us : List Value}, us.length = rs.length → (∀ (i : Nat) (rv : ResultVar) (u : Value), rs[i]? = some rv → us[i]? = some u →
    (resOne tmps rv).run P w = .ok u w) →
    (rs.mapM (resOne tmps)).run P w = .ok us w
  | [], [], _, _ => by simp
  | [], _ :: _, h, _ => by simp at h
  | _ :: _, [], h, _ => by simp at h
  | rv :: rs, u :: us, hl, h => by
    have h0 := h 0 rv u (by simp) (by simp)
    have ih := results_run (P := P) (fn := fn) (tmps := tmps) (w := w) (rs := rs) (us := us) (by simpa using hl) (fun i rv u h1 h2 => h (i + 1) rv u (by simpa using h1) (by simpa using h2))
    simp only [List.mapM_cons, Sem.run_bind, h0, Result.andThen_ok, ih, Sem.run_pure]

def tupA : List AV → AV
  | [x] => x
  | l => .tup l

theorem ResA.mk {P : Program} {fn : Func} {s : St} {rs : List ResultVar} (hr : fn.results.toList = rs) {xs : List AV} (hl : xs.length = rs.length) (h : ∀ (i : Nat) (rv : ResultVar) (x : AV), rs[i]? = some rv → xs[i]? = some x → Res1 P rv s x) : ResA P fn s (tupA xs) := by
  intro C a hrel
  have hex : ∀ (rs : List ResultVar) (xs : List AV), xs.length = rs.length → (∀ (i : Nat) (rv : ResultVar) (x : AV), rs[i]? = some rv → xs[i]? = some x → Res1 P rv s x) →
      ∃ us : List Value, RdL C xs us ∧ us.length = rs.length ∧ ∀ (i : Nat) (rv : ResultVar) (u : Value), rs[i]? = some rv → us[i]? = some u →
        (resOne a.tmps rv).run P C.w = .ok u C.w := by
    intro rs
    induction rs with
    | nil => intro xs hl _; have : xs = [] := List.eq_nil_of_length_eq_zero (by simpa using hl); subst this; exact ⟨[], by simp [RdL], rfl, by simp⟩
    | cons rv rs ih =>
      intro xs hl h
      cases xs with
      | nil => simp at hl
      | cons x xs =>
        obtain ⟨u, h1, h2⟩ := h 0 rv x (by simp) (by simp) C a hrel
        obtain ⟨us, k1, k2, k3⟩ := ih xs (by simpa using hl) (fun i rv x h1 h2 => h (i + 1) rv x (by simpa using h1) (by simpa using h2))
        refine ⟨u :: us, by simp only [RdL]; exact ⟨h2, k1⟩, by simp [k2], fun i rv' u' h3 h4 => ?_⟩
        cases i with
        | zero => simp at h3 h4; subst h3 h4; exact h1
        | succ i => exact k3 i rv' u' (by simpa using h3) (by simpa using h4)
  obtain ⟨us, k1, k2, k3⟩ := hex rs xs hl h
  have hm := results_run (P := P) (fn := fn) (tmps := a.tmps) (w := C.w) k2 k3
  have hrun : (results fn a.tmps).run P C.w = .ok (if h : us.toArray.size = 1 then us.toArray[0] else .tuple us.toArray) C.w := by
    rw [results_eq, Array.mapM_eq_mapM_toList, hr]
    simp only [Sem.run_bind, map_eq_pure_bind, hm, Result.andThen_ok, Sem.run_pure]
  refine ⟨_, hrun, ?_⟩
  have hlu := k1.length
  match xs, us, k1, hlu with
  | [], [], k1, _ => simpa [tupA, Rd] using k1
  | [x], [u], k1, _ => simp only [RdL] at k1; simpa [tupA] using k1.1
  | x :: y :: xs, u :: v :: us, k1, _ =>
    simp only [tupA, Rd]
    exact ⟨_, by simp; rfl, by simpa using k1⟩

/-! ### bodies -/
mutual
/-- As what is only read; a variable's address as that of cells that stay. -/
def fz (H : Nat → Option AObj) : AV → AV
  | .ptr id off => match H id with | some (.box _ cells) => .ep ((puL cells).drop off) | _ => .ptr id off
  | .sl tag sz rows => .sl (match tag with | .own _ => .ro | t => t) sz (fzR H rows)
  | .mv id ver k => match k, H id with | .hdr, some (.arr _ sz cur rows) => if ver = cur then .sl .ro sz (puR rows) else .mv id ver k | _, _ => .mv id ver k
  | .ep cells => .ep (fzL H cells)
  | .func f first caps => .func f (fzL H first) (fzL H caps)
  | .agg cells => .agg (fzL H cells)
  | .tup vs => .tup (fzL H vs)
  | x => x
def fzL (H : Nat → Option AObj) : List AV → List AV
  | [] => []
  | x :: xs => fz H x :: fzL H xs
def fzR (H : Nat → Option AObj) : List (List AV) → List (List AV)
  | [] => []
  | r :: rs => fzL H r :: fzR H rs
end
theorem fzR_length (H : Nat → Option AObj) : ∀ rows, (fzR H rows).length = rows.length
  | [] => rfl
  | r :: rs => by simp [fzR, fzR_length H rs]
theorem fzL_length (H : Nat → Option AObj) : ∀ l, (fzL H l).length = l.length
  | [] => rfl
  | r :: rs => by simp [fzL, fzL_length H rs]

section
variable {C D : Cx} (hI : Inv C) (hw : D.w = C.w) (hok : ∀ b j, C.ok0 b j → D.ok b j)
include hI hw hok
theorem Rd.fz_ptr {id off : Nat} {v : Value} (hp : pureA (fz C.H (.ptr id off)) = true) (h : Rd C (.ptr id off) v) : Rd D (fz C.H (.ptr id off)) v := by
  simp only [Rd] at h
  obtain ⟨b, q0, q1⟩ := h
  obtain ⟨o, k3, k4⟩ := hI.obj id _ q0
  simp only [fz, k3] at hp ⊢
  cases o with
  | row e sz n => simp [pureA, inA] at hp
  | arr e sz ver rows => simp [pureA, inA] at hp
  | box t cells =>
    obtain ⟨b', cs, k5, k6, k7, k8, k9⟩ := k4
    injection k5 with k5
    injection k5 with k5
    injection k5 with k5 _ _
    subst k5
    simp only [pureA, inA] at hp
    have k10 := (RdL.pu _ _ k8).extract off (puL cells).length
    rw [List.take_of_length_le (by simp), List.take_of_length_le (by have := k8.length; rw [puL_length]; simp at this ⊢; omega)] at k10
    have k11 := RdL.mono (C := C) (C' := D) (Le0.ofOk fun b j u h1 h2 => ⟨hok b j h1.1, by rw [hw]; exact h2⟩) _ _ hp k10
    simp only [Rd]
    refine ⟨b, off, q1, RdC.mk k11 (fun u hu => k9 u (List.mem_of_mem_drop hu)) (fun j u hj => ?_) (fun j hj => hok b _ (hI.okG id _ b q0 rfl _))⟩
    rw [hw, cell_of k7]
    rw [List.getElem?_drop] at hj
    simpa using hj
theorem Rd.fz_mv {id ver : Nat} {k : MK} {v : Value} (hp : pureA (fz C.H (.mv id ver k)) = true) (h : Rd C (.mv id ver k) v) : Rd D (fz C.H (.mv id ver k)) v := by
  simp only [Rd] at h
  obtain ⟨_, e, sz, cur, rows, h1, _, h3⟩ := h
  cases k with
  | hdr =>
    by_cases hv : ver = cur
    · subst hv
      obtain ⟨g, g1, g2⟩ := h3 rfl
      simp only [fz, h1, if_true] at hp ⊢
      obtain ⟨o, k3, k4⟩ := hI.obj id g g1
      rw [h1] at k3
      injection k3 with k3
      subst k3
      obtain ⟨_, z2, xs, z3, z4, z5⟩ := k4
      simp only [Mat] at g2
      subst g2
      simp only [pureA, inA, Bool.true_and] at hp
      simp only [Rd]
      rcases z3.2 with ⟨rfl, hn⟩ | ⟨b, cap, cur', rfl, k6, k7, k8, k9, k10, k11⟩
      · have : rows = [] := List.eq_nil_of_length_eq_zero hn
        subst this
        exact ⟨none, 0, by simp [puR], by simp [puR], by simp [puR], .inl rfl, trivial⟩
      · refine ⟨_, cap, by rw [puR_length], by rw [puR_length]; exact k8, by rw [puR_length]; simp only [maxLen] at k9; omega, ?_, trivial⟩
        by_cases hr0 : rows = []
        · subst hr0; exact .inl (by simp [puR])
        right
        refine ⟨b, 0, rfl, RdR.unflat (fun r hr => ?_) ?_⟩
        · rw [puR_map] at hr
          obtain ⟨r', hr', rfl⟩ := List.mem_map.1 hr
          rw [List.length_map]; exact z2 r' hr'
        · have e1 : (puR rows).flatten = puL rows.flatten := by rw [puR_map, puL_map, List.map_flatten]
          rw [e1]
          have hp' : pureL (puL rows.flatten) = true := by
            have hp2 : inR (fun _ => false) (puR rows) = true := hp
            rw [inR_all] at hp2
            show inL (fun _ => false) (puL rows.flatten) = true
            rw [← e1, inL_all, List.all_flatten]
            exact hp2
          have k12 := RdL.mono (C := C) (C' := D) (Le0.ofOk fun b j u h1 h2 => ⟨hok b j h1.1, by rw [hw]; exact h2⟩) _ _ hp' (RdL.pu _ _ z4)
          refine RdC.mk k12 z5 (fun j u hj => ?_) (fun j hj => hok b _ (hI.okG id _ b g1 rfl _))
          have := z3.cells (g := b) rfl j u hj
          rw [hw]
          have hadd : (⟨b, 0, none⟩ : Addr).add j = ⟨b, 0 + j, none⟩ := by unfold Addr.add; split <;> simp_all
          rw [hadd] at this
          exact this
    · simp only [fz, h1, if_neg hv, pureA, inA] at hp
      cases hp
  | view lo n nn => simp only [fz, pureA, inA] at hp; cases hp
  | cell off => simp only [fz, pureA, inA] at hp; cases hp
mutual
theorem Rd.fz : ∀ (x : AV) (v : Value), pureA (Tl.fz C.H x) = true → Rd C x v → Rd D (Tl.fz C.H x) v
  | .undef, v, _, h => by simp [Tl.fz, Rd]
  | .bool _, v, _, h => by simpa [Tl.fz, Rd] using h
  | .int _ _, v, _, h => by simpa [Tl.fz, Rd] using h
  | .str _, v, _, h => by simpa [Tl.fz, Rd] using h
  | .nilp, v, _, h => by simpa [Tl.fz, Rd] using h
  | .nilf, v, _, h => by simpa [Tl.fz, Rd] using h
  | .ptr id off, v, hp, h => Rd.fz_ptr hI hw hok hp h
  | .mv id ver k, v, hp, h => Rd.fz_mv hI hw hok hp h
  | .ep cells, v, hp, h => by
    simp only [Tl.fz, Rd, pureA, inA] at hp h ⊢
    obtain ⟨b, off, e, h⟩ := h
    exact ⟨b, off, e, RdC.fz cells b off hp h⟩
  | .sl tag sz rows, v, hp, h => by
    simp only [Tl.fz, Rd, fzR_length, pureA, inA, Bool.and_eq_true] at hp h ⊢
    obtain ⟨A, c, e, h1, h2, h3, h4⟩ := h
    refine ⟨A, c, e, h1, h2, ?_, ?_⟩
    · rcases h3 with rfl | ⟨b, off, e2, h3⟩
      · exact .inl rfl
      · exact .inr ⟨b, off, e2, RdR.fz sz rows b off hp.2 h3⟩
    · cases tag <;> simp_all
  | .func f first caps, v, hp, h => by
    simp only [Tl.fz, Rd, pureA, inA, Bool.and_eq_true] at hp h ⊢
    obtain ⟨vs, us, e, h1, h2⟩ := h
    exact ⟨vs, us, e, RdL.fz first _ hp.1 h1, RdL.fz caps _ hp.2 h2⟩
  | .agg cells, v, hp, h => by
    simp only [Tl.fz, Rd, pureA, inA] at hp h ⊢
    obtain ⟨vs, e, h1, h2⟩ := h
    exact ⟨vs, e, RdL.fz cells _ hp h1, h2⟩
  | .tup vs, v, hp, h => by
    simp only [Tl.fz, Rd, pureA, inA] at hp h ⊢
    obtain ⟨us, e, h1⟩ := h
    exact ⟨us, e, RdL.fz vs _ hp h1⟩
theorem RdC.fz : ∀ (xs : List AV) (b off : Nat), pureL (fzL C.H xs) = true → RdC C xs b off → RdC D (fzL C.H xs) b off
  | [], _, _, _, _ => by simp [fzL, RdC]
  | x :: xs, b, off, hp, h => by
    simp only [fzL, RdC, pureL, inL, Bool.and_eq_true] at hp h ⊢
    obtain ⟨h1, ⟨u, h2, h3, h4⟩, h5⟩ := h
    exact ⟨hok _ _ h1.1, ⟨u, by rw [hw]; exact h2, h3, Rd.fz x u hp.1 h4⟩, RdC.fz xs b (off + 1) hp.2 h5⟩
theorem RdR.fz (sz : Nat) : ∀ (rs : List (List AV)) (b off : Nat), pureR (fzR C.H rs) = true → RdR C sz rs b off → RdR D sz (fzR C.H rs) b off
  | [], _, _, _, _ => by simp [fzR, RdR]
  | r :: rs, b, off, hp, h => by
    simp only [fzR, RdR, fzL_length, pureR, inR, Bool.and_eq_true] at hp h ⊢
    exact ⟨h.1, RdC.fz r b off hp.1 h.2.1, RdR.fz sz rs b (off + sz) hp.2 h.2.2⟩
theorem RdL.fz : ∀ (xs : List AV) (vs : List Value), pureL (fzL C.H xs) = true → RdL C xs vs → RdL D (fzL C.H xs) vs
  | [], [], _, _ => by simp [fzL, RdL]
  | [], _ :: _, _, h => by simp [RdL] at h
  | _ :: _, [], _, h => by simp [RdL] at h
  | x :: xs, v :: vs, hp, h => by
    simp only [fzL, RdL, pureL, inL, Bool.and_eq_true] at hp h ⊢
    exact ⟨Rd.fz x v hp.1 h.1, RdL.fz xs vs hp.2 h.2⟩
end
end

mutual
/-- The second says no more than the first. -/
def Wk : AV → AV → Prop
  | .int k n, .int k' n' => k = k' ∧ n = n'
  | .bool b, .bool b' => b = b'
  | .str s, .str s' => s = s'
  | .sl tag sz rows, .sl tag' sz' rows' => (tag' = tag ∨ (tag = .nil ∧ tag' = .ro)) ∧ rows = rows' ∧ (sz = sz' ∨ rows = [])
  | .agg l, .agg l' => WkL l l'
  | .tup l, .tup l' => WkL l l'
  | x, y => x = y
def WkL : List AV → List AV → Prop
  | [], [] => True
  | x :: xs, y :: ys => Wk x y ∧ WkL xs ys
  | _, _ => False
end
mutual
theorem Wk.rd {C : Cx} : ∀ (x y : AV) (v : Value), Wk x y → Rd C x v → Rd C y v
  | .int k n, y, v, h, hr => by cases y <;> simp only [Wk] at h <;> first | (obtain ⟨rfl, rfl⟩ := h; exact hr) | cases h
  | .bool b, y, v, h, hr => by cases y <;> simp only [Wk] at h <;> first | (subst h; exact hr) | cases h
  | .str b, y, v, h, hr => by cases y <;> simp only [Wk] at h <;> first | (subst h; exact hr) | cases h
  | .sl tag sz rows, y, v, h, hr => by
    cases y <;> simp only [Wk] at h <;> first | cases h; done | skip
    obtain ⟨h1, rfl, h3⟩ := h
    simp only [Rd] at hr ⊢
    obtain ⟨A, c, e, k1, k2, k3, k4⟩ := hr
    refine ⟨A, c, e, k1, k2, ?_, ?_⟩
    · rcases h3 with rfl | rfl
      · exact k3
      · exact .inl rfl
    · rcases h1 with rfl | ⟨rfl, rfl⟩
      · exact k4
      · trivial
  | .agg l, y, v, h, hr => by
    cases y <;> simp only [Wk] at h <;> first | cases h; done | skip
    simp only [Rd] at hr ⊢
    obtain ⟨vs, e, k1, k2⟩ := hr
    exact ⟨vs, e, WkL.rd l _ _ h k1, k2⟩
  | .tup l, y, v, h, hr => by
    cases y <;> simp only [Wk] at h <;> first | cases h; done | skip
    simp only [Rd] at hr ⊢
    obtain ⟨vs, e, k1⟩ := hr
    exact ⟨vs, e, WkL.rd l _ _ h k1⟩
  | .undef, y, v, h, hr => by cases y <;> simp only [Wk] at h <;> first | exact hr | cases h
  | .nilp, y, v, h, hr => by cases y <;> simp only [Wk] at h <;> first | exact hr | cases h
  | .nilf, y, v, h, hr => by cases y <;> simp only [Wk] at h <;> first | exact hr | cases h
  | .ptr _ _, y, v, h, hr => by cases y <;> simp only [Wk] at h <;> first | (rw [← h]; exact hr) | cases h
  | .mv _ _ _, y, v, h, hr => by cases y <;> simp only [Wk] at h <;> first | (rw [← h]; exact hr) | cases h
  | .ep _, y, v, h, hr => by cases y <;> simp only [Wk] at h <;> first | (rw [← h]; exact hr) | cases h
  | .func _ _ _, y, v, h, hr => by cases y <;> simp only [Wk] at h <;> first | (rw [← h]; exact hr) | cases h
theorem WkL.rd {C : Cx} : ∀ (xs ys : List AV) (vs : List Value), WkL xs ys → RdL C xs vs → RdL C ys vs
  | [], [], _, _, hr => hr
  | [], _ :: _, _, h, _ => by simp [WkL] at h
  | _ :: _, [], _, h, _ => by simp [WkL] at h
  | _ :: _, _ :: _, [], _, hr => by simp [RdL] at hr
  | x :: xs, y :: ys, v :: vs, h, hr => by
    simp only [WkL, RdL] at h hr ⊢
    exact ⟨Wk.rd x y v h.1 hr.1, WkL.rd xs ys vs h.2 hr.2⟩
end
mutual
theorem Wk.pure : ∀ (x y : AV), Wk x y → pureA y = true → pureA x = true
  | .int k n, y, h, hp => rfl
  | .bool b, y, h, hp => rfl
  | .str b, y, h, hp => rfl
  | .undef, y, h, hp => rfl
  | .nilp, y, h, hp => rfl
  | .nilf, y, h, hp => rfl
  | .sl tag sz rows, y, h, hp => by
    cases y <;> simp only [Wk] at h <;> first | cases h; done | skip
    obtain ⟨h1, rfl, h3⟩ := h
    simp only [pureA, inA, Bool.and_eq_true] at hp ⊢
    refine ⟨?_, hp.2⟩
    rcases h1 with rfl | ⟨rfl, rfl⟩
    · exact hp.1
    · rfl
  | .agg l, y, h, hp => by
    cases y <;> simp only [Wk] at h <;> first | cases h; done | skip
    simp only [pureA, inA] at hp ⊢
    exact WkL.pure l _ h hp
  | .tup l, y, h, hp => by
    cases y <;> simp only [Wk] at h <;> first | cases h; done | skip
    simp only [pureA, inA] at hp ⊢
    exact WkL.pure l _ h hp
  | .ptr _ _, y, h, hp => by cases y <;> simp only [Wk] at h <;> first | (rw [h]; exact hp) | cases h
  | .mv _ _ _, y, h, hp => by cases y <;> simp only [Wk] at h <;> first | (rw [h]; exact hp) | cases h
  | .ep _, y, h, hp => by cases y <;> simp only [Wk] at h <;> first | (rw [h]; exact hp) | cases h
  | .func _ _ _, y, h, hp => by cases y <;> simp only [Wk] at h <;> first | (rw [h]; exact hp) | cases h
theorem WkL.pure : ∀ (xs ys : List AV), WkL xs ys → pureL ys = true → pureL xs = true
  | [], _, _, _ => rfl
  | _ :: _, [], h, _ => by simp [WkL] at h
  | x :: xs, y :: ys, h, hp => by
    simp only [WkL] at h
    simp only [pureL, inL, Bool.and_eq_true] at hp ⊢
    exact ⟨Wk.pure x y h.1 hp.1, WkL.pure xs ys h.2 hp.2⟩
end

def RetQ (P : Program) (fn : Func) (res : AV) (e : Exit) (s : St) : Prop := (e = .normal ∨ e = .ret) ∧ ∃ r, ResA P fn s r ∧ Wk (fz s.H r) res

def argE (args : List AV) : Nat → Option AV := fun i => args[i]?

theorem enter_rel {C : Cx} (hI : Inv C) {args : List AV} {vs : Array Value} (h : RdL C args vs.toList) {n : Nat} (hn : args.length ≤ n) (hreal : ∀ id o, C.H id = some o → ∃ v, C.G id = some v) :
    Rel C ⟨n, argE args, C.H⟩ { tmps := vs ++ Array.replicate (n - vs.size) undef, defers := [] } := by
  have hl := h.length
  simp only [Array.length_toList] at hl
  refine ⟨hI, rfl, hreal, fun d v hd => ?_, by simp; omega, rfl⟩
  obtain ⟨u, h1, h2⟩ := h.get hd
  have h1 : vs[d]? = some u := by simpa using h1
  have hlt : d < vs.size := (Array.getElem?_eq_some_iff.1 h1).1
  rw [Array.getD_eq_getD_getElem?, Array.getElem?_append_left hlt, h1]
  exact h2

theorem inv_pu (ok : Nat → Nat → Prop) (w : World) : Inv (Pu ok w) := ⟨Below.refl _ _, (fun id v h => by cases h), (fun _ _ _ _ _ h => by cases h), (fun b j h q => by have h' : w.heap.size ≤ b := h; omega), (fun _ _ _ h => by cases h)⟩

theorem ACall.body {P : Program} {f : FuncId} {fn : Func} {c : Code} {args : List AV} {res : AV} (hf : P.funcs[f]? = some fn) (hb : fn.body = some c) (hn : args.length ≤ fn.ntmps) (hp : pureA res = true)
    (h : AW P (fun _ => false) c (RetQ P fn res) ⟨fn.ntmps, argE args, fun _ => none⟩) : ACall P f args res := by
  refine ⟨hp, fun ok w vs hr => calls_of_wp hf hb ?_⟩
  have hrel := enter_rel (inv_pu ok w) hr hn (fun id o h => by cases h)
  refine wp_mono (h _ _ hrel) (fun e a w' hl => ?_)
  obtain ⟨s', C', q, r, rfl, e0, e1, l⟩ := hl
  obtain ⟨he, x, hx, hwk⟩ := q
  obtain ⟨u, h1, h2⟩ := hx C' a r
  have hfin : Rd (Pu (fun b j => b < w.heap.size → ok b j) C'.w) res u := by
    refine Wk.rd _ _ _ hwk ?_
    have hp := Wk.pure _ _ hwk hp
    rw [← r.H] at hp ⊢
    refine Rd.fz (D := Pu (fun b j => b < w.heap.size → ok b j) C'.w) r.inv rfl (fun b j k => pu_ok fun _ => ?_) x u hp h2
    rw [e1] at k
    exact k
  have hbel : Below w.heap.size w C'.w := by
    have := r.inv.below
    rw [e0] at this
    exact this
  rcases he with rfl | rfl
  · exact ⟨r.defers, u, h1, u, rfl, hfin, hbel⟩
  · exact ⟨r.defers, u, h1, u, rfl, hfin, hbel⟩

def RetH (P : Program) (fn : Func) (res : AV) (rd up : List (Nat × AObj)) (e : Exit) (s : St) : Prop :=
  (e = .normal ∨ e = .ret) ∧ (∃ r, ResA P fn s r ∧ ∀ (C : Cx) (v : Value), Rd C r v → Rd C res v) ∧ ∀ p ∈ rd, s.H p.1 = updL (updL (fun _ => none) rd) up p.1

def idsIn (rd : List (Nat × AObj)) (id : Nat) : Bool := rd.any (fun p => p.1 == id)

theorem updL_ids {β : Type} {H : Nat → Option β} : ∀ {up : List (Nat × β)} {id : Nat}, (∀ p ∈ up, p.1 ≠ id) → updL H up id = H id
  | [], _, _ => rfl
  | p :: r, id, h => by
    simp only [updL]
    rw [updL_ids (fun q hq => h q (by simp [hq])), upd_ne _ _ (fun e => h p (by simp) e.symm)]
theorem updL_congr {β : Type} {H H' : Nat → Option β} : ∀ {up : List (Nat × β)} {id : Nat}, H id = H' id → updL H up id = updL H' up id
  | [], _, h => h
  | p :: r, id, h => by
    simp only [updL]
    refine updL_congr ?_
    by_cases e : id = p.1
    · subst e; simp [upd_same]
    · simp [upd_ne _ _ e, h]

theorem idsIn_iff {rd : List (Nat × AObj)} {id : Nat} : idsIn rd id = true ↔ ∃ o, (id, o) ∈ rd := by
  simp only [idsIn, List.any_eq_true, beq_iff_eq]
  constructor
  · rintro ⟨p, hp, rfl⟩; exact ⟨p.2, hp⟩
  · rintro ⟨o, ho⟩; exact ⟨(id, o), ho, rfl⟩

theorem inR_flat {S : Nat → Bool} {rows : List (List AV)} (h : inR S rows = true) : inL S rows.flatten = true := by
  rw [inL_all, List.all_flatten]
  rw [inR_all] at h
  exact h

theorem ACallH.body {P : Program} {f : FuncId} {fn : Func} {c : Code} {args : List AV} {res : AV} {rd up : List (Nat × AObj)} (hf : P.funcs[f]? = some fn) (hb : fn.body = some c) (hn : args.length ≤ fn.ntmps)
    (ha : inL (idsIn rd) args = true) (hrd : ∀ p ∈ rd, inO (idsIn rd) p.2 = true) (hu : ∀ p ∈ up, idsIn rd p.1 = true ∧ inO (idsIn rd) p.2 = true) (hr : inA (idsIn rd) res = true)
    (h : AW P (idsIn rd) c (RetH P fn res rd up) ⟨fn.ntmps, argE args, updL (fun _ => none) rd⟩) : ACallH P f args rd up res := by
  intro C vs hI hC hargs
  -- what the callee sees
  have hval : ∀ id, idsIn rd id = true → updL (fun _ => none) rd id = C.H id := by
    intro id hid
    have key : ∀ (l : List (Nat × AObj)) (H : Nat → Option AObj), (∀ p ∈ l, C.H p.1 = some p.2) → (H id = C.H id ∨ ∃ o, (id, o) ∈ l) → updL H l id = C.H id := by
      intro l
      induction l with
      | nil => intro H _ h; rcases h with h | ⟨o, h⟩; · exact h
               · cases h
      | cons p r ih =>
        intro H hl h
        simp only [updL]
        refine ih _ (fun q hq => hl q (by simp [hq])) ?_
        by_cases e : id = p.1
        · left; subst e; rw [upd_same]; exact (hl p (by simp)).symm
        · rcases h with h | ⟨o, h⟩
          · left; rw [upd_ne _ _ e]; exact h
          · rcases List.mem_cons.1 h with h | h
            · exact absurd (congrArg Prod.fst h) e
            · exact .inr ⟨o, h⟩
    exact key rd _ (fun p hp => (hC p hp).1) (.inr (idsIn_iff.1 hid))
  have hnone : ∀ id, idsIn rd id = false → updL (fun _ => none) rd id = (none : Option AObj) := fun id hid => updL_ids fun p hp e => by
    have : idsIn rd id = true := idsIn_iff.2 ⟨p.2, by rw [← e]; exact hp⟩
    rw [hid] at this; cases this
  let G1 : Nat → Option Value := fun id => if idsIn rd id = true then C.G id else none
  let ok1 : Nat → Nat → Prop := fun b j => C.ok0 b j ∧ ∀ id v, idsIn rd id = false → C.G id = some v → blk v = some b → ∃ e sz n, C.H id = some (.row e sz n) ∧ j < n * sz
  let C1 : Cx := ⟨C.w0, ok1, updL (fun _ => none) rd, G1, C.w⟩
  have hG1 : ∀ id v, G1 id = some v → idsIn rd id = true ∧ C.G id = some v := fun id v h => by
    simp only [G1] at h
    split at h
    · rename_i q; exact ⟨q, h⟩
    · cases h
  have hG1' : ∀ id, idsIn rd id = true → G1 id = C.G id := fun id h => by simp only [G1, h, if_true]
  have hok1 : ∀ b j, C.ok b j → C1.ok b j := fun b j h => ⟨⟨h.1, fun id v _ q1 q2 => h.2 id v q1 q2⟩, fun id v q1 q2 => by
    obtain ⟨k1, k2⟩ := hG1 id v q1
    obtain ⟨e, sz, n, k3, k4⟩ := h.2 id v k2 q2
    exact ⟨e, sz, n, by show updL (fun _ => none) rd id = _; rw [hval id k1]; exact k3, k4⟩⟩
  have hl01 : Le0 C C1 (idsIn rd) := by
    refine ⟨fun b j u h1 h2 => ⟨hok1 b j h1, h2⟩, fun id hid b h => ?_, fun id hid n v h => ?_, fun id hid n z v h => ?_⟩
    · show G1 id = _; rw [hG1' id hid]; exact h
    · obtain ⟨e, sz, m, t1, t2, t3⟩ := h
      exact ⟨e, sz, m, by show updL (fun _ => none) rd id = _; rw [hval id hid]; exact t1, t2, fun q => by show G1 id = _; rw [hG1' id hid]; exact t3 q⟩
    · obtain ⟨sh, e, sz, m, rs, t1, t2, t3⟩ := h
      exact ⟨sh, e, sz, m, rs, by show updL (fun _ => none) rd id = _; rw [hval id hid]; exact t1, t2, fun q => by show ∃ g, G1 id = _ ∧ _; rw [hG1' id hid]; exact t3 q⟩
  have hI1 : Inv C1 := by
    refine ⟨hI.below, fun id v h => ?_, fun id id' v v' b h1 h2 h3 h4 => hI.apart id id' v v' b (hG1 id v h1).2 (hG1 id' v' h2).2 h3 h4, fun b j h => ⟨hI.fresh b j h, fun id v _ q1 q2 => ?_⟩, fun id v b h1 h2 j => ⟨hI.okG id v b (hG1 id v h1).2 h2 j, fun id' v' q0 q1 q2 => ?_⟩⟩
    · obtain ⟨k1, k2⟩ := hG1 id v h
      obtain ⟨o, k3, k4⟩ := hI.obj id v k2
      refine ⟨o, by show updL (fun _ => none) rd id = _; rw [hval id k1]; exact k3, ?_⟩
      cases o with
      | box t cells =>
        obtain ⟨b, cs, q1, q2, q3, q4, q5⟩ := k4
        obtain ⟨ob, hob⟩ := idsIn_iff.1 k1
        have := (hC _ hob).1
        simp only at this
        rw [k3] at this
        injection this with this
        have hin := hrd _ hob
        simp only at hin
        rw [← this] at hin
        exact ⟨b, cs, q1, q2, q3, RdL.mono hl01 _ _ hin q4, q5⟩
      | row e sz n => exact k4
      | arr e sz ver rows =>
        obtain ⟨q1, q2, xs, q3, q4, q5⟩ := k4
        obtain ⟨ob, hob⟩ := idsIn_iff.1 k1
        have := (hC _ hob).1
        simp only at this
        rw [k3] at this
        injection this with this
        have hin := hrd _ hob
        simp only at hin
        rw [← this] at hin
        exact ⟨q1, q2, xs, q3, RdL.mono hl01 _ _ (inR_flat hin) q4, q5⟩
    · have h' : C.w.heap.size ≤ b := h
      have := (hI.blk_lt q1 q2).2
      omega
    · have := hI.apart id id' v v' b (hG1 id v h1).2 q1 h2 q2
      rw [← this, (hG1 id v h1).1] at q0
      cases q0
  have hreal : ∀ id o, C1.H id = some o → ∃ v, C1.G id = some v := fun id o h => by
    by_cases hid : idsIn rd id = true
    · obtain ⟨ob, hob⟩ := idsIn_iff.1 hid
      obtain ⟨_, u, hu⟩ := hC _ hob
      exact ⟨u, by show G1 id = _; rw [hG1' id hid]; exact hu⟩
    · have : C1.H id = none := hnone id (by simpa using hid)
      rw [this] at h; cases h
  refine calls_of_wp hf hb ?_
  have hrel := enter_rel (C := C1) hI1 (RdL.mono hl01 _ _ ha hargs) hn hreal
  refine wp_mono (h C1 _ hrel) (fun e a w' hl => ?_)
  obtain ⟨s', D, q, r, rfl, e0, e1, l⟩ := hl
  obtain ⟨he, ⟨x, hx, himp⟩, hH⟩ := q
  obtain ⟨u, h1, h2⟩ := hx D a r
  -- what the caller has back
  let G' : Nat → Option Value := fun id => if idsIn rd id = true then D.G id else C.G id
  let C' : Cx := ⟨C.w0, C.ok0, updL C.H up, G', D.w⟩
  have hDH : ∀ id, idsIn rd id = true → D.H id = updL C.H up id := fun id hid => by
    obtain ⟨ob, hob⟩ := idsIn_iff.1 hid
    have := hH _ hob
    simp only at this
    rw [r.H, this]
    exact updL_congr (hval id hid)
  have hCH : ∀ id, idsIn rd id = false → updL C.H up id = C.H id := fun id hid => updL_ids fun p hp e => by
    have := (hu p hp).1
    rw [e, hid] at this; cases this
  have hGt : ∀ id, idsIn rd id = true → G' id = D.G id := fun id h => by simp only [G', h, if_true]
  have hGf : ∀ id, idsIn rd id = false → G' id = C.G id := fun id h => by simp [G', h]
  have hD0 : ∀ b j, D.ok b j → C'.ok b j := by
    intro b j k
    have k1 := k.1
    rw [e1] at k1
    refine ⟨k1.1, fun id v q1 q2 => ?_⟩
    by_cases hid : idsIn rd id = true
    · have q1 : D.G id = some v := by rw [← hGt id hid]; exact q1
      obtain ⟨e, sz, n, k3, k4⟩ := k.2 id v q1 q2
      exact ⟨e, sz, n, by show updL C.H up id = _; rw [← hDH id hid]; exact k3, k4⟩
    · have hid : idsIn rd id = false := by simpa using hid
      have q1 : C.G id = some v := by rw [← hGf id hid]; exact q1
      obtain ⟨e, sz, n, k3, k4⟩ := k1.2 id v hid q1 q2
      exact ⟨e, sz, n, by show updL C.H up id = _; rw [hCH id hid]; exact k3, k4⟩
  have hlDC : Le0 D C' (idsIn rd) := by
    refine ⟨fun b j u k1 k2 => ⟨hD0 b j k1, k2⟩, fun id hid b h => by show G' id = _; rw [hGt id hid]; exact h, fun id hid n v h => ?_, fun id hid n z v h => ?_⟩
    · obtain ⟨e, sz, m, t1, t2, t3⟩ := h
      exact ⟨e, sz, m, by show updL C.H up id = _; rw [← hDH id hid]; exact t1, t2, fun q => by show G' id = _; rw [hGt id hid]; exact t3 q⟩
    · obtain ⟨sh, e, sz, m, rs, t1, t2, t3⟩ := h
      exact ⟨sh, e, sz, m, rs, by show updL C.H up id = _; rw [← hDH id hid]; exact t1, t2, fun q => by show ∃ g, G' id = _ ∧ _; rw [hGt id hid]; exact t3 q⟩
  -- a hidden object's block is as it was
  have hhid : ∀ id v b, idsIn rd id = false → C.G id = some v → blk v = some b → D.w.heap[b]? = C.w.heap[b]? ∧ ∀ id' v', D.G id' = some v' → blk v' ≠ some b := by
    intro id v b hid hv hb
    have hlt := (hI.blk_lt hv hb).2
    refine l.blks b hlt (fun id' v' h3 h4 => ?_)
    obtain ⟨k1, k2⟩ := hG1 id' v' h3
    have := hI.apart id id' v v' b hv k2 hb h4
    rw [← this, hid] at k1
    cases k1
  have hle : Le C C' := by
    refine ⟨fun b j u k1 k2 => ?_, fun id b h => ?_, fun id n v h => ?_, fun id n z v h => ?_, l.size, fun b hb hn => ?_⟩
    · obtain ⟨m1, m2⟩ := l.ok b j u (hok1 b j k1) k2
      exact ⟨hD0 b j m1, m2⟩
    · by_cases hid : idsIn rd id = true
      · show G' id = _
        rw [hGt id hid]
        exact l.ptr id hid b (by show G1 id = _; rw [hG1' id hid]; exact h)
      · show G' id = _
        rw [hGf id (by simpa using hid)]
        exact h
    · by_cases hid : idsIn rd id = true
      · exact hlDC.tag id hid n v (l.tag id hid n v (hl01.tag id hid n v h))
      · have hid : idsIn rd id = false := by simpa using hid
        obtain ⟨e, sz, m, t1, t2, t3⟩ := h
        exact ⟨e, sz, m, by show updL C.H up id = _; rw [hCH id hid]; exact t1, t2, fun q => by show G' id = _; rw [hGf id hid]; exact t3 q⟩
    · by_cases hid : idsIn rd id = true
      · exact hlDC.arr id hid n z v (l.arr id hid n z v (hl01.arr id hid n z v h))
      · have hid : idsIn rd id = false := by simpa using hid
        obtain ⟨sh, e, sz, m, rs, t1, t2, t3⟩ := h
        exact ⟨sh, e, sz, m, rs, by show updL C.H up id = _; rw [hCH id hid]; exact t1, t2, fun q => by show ∃ g, G' id = _ ∧ _; rw [hGf id hid]; exact t3 q⟩
    · have := l.blks b hb (fun id v h3 h4 => hn id v (hG1 id v h3).2 h4)
      refine ⟨this.1, fun id v h3 h4 => ?_⟩
      by_cases hid : idsIn rd id = true
      · have h3 : D.G id = some v := by rw [← hGt id hid]; exact h3
        exact this.2 id v h3 h4
      · have h3 : C.G id = some v := by rw [← hGf id (by simpa using hid)]; exact h3
        exact hn id v h3 h4
  have hI' : Inv C' := by
    refine ⟨by have := r.inv.below; rw [e0] at this; exact this, fun id v h => ?_, fun id id' v v' b q1 q2 q3 q4 => ?_, fun b j h => hI.fresh b j (Nat.le_trans l.size h), fun id v b q1 q2 j => ?_⟩
    · by_cases hid : idsIn rd id = true
      · have h : D.G id = some v := by rw [← hGt id hid]; exact h
        obtain ⟨o, k3, k4⟩ := r.inv.obj id v h
        rw [hDH id hid] at k3
        refine ⟨o, k3, ?_⟩
        have hino : inO (idsIn rd) o = true := by
          have key : ∀ (l : List (Nat × AObj)) (H : Nat → Option AObj), (∀ p ∈ l, inO (idsIn rd) p.2 = true) → (∀ o, H id = some o → inO (idsIn rd) o = true) → ∀ o, updL H l id = some o → inO (idsIn rd) o = true := by
            intro l
            induction l with
            | nil => intro H _ h o ho; exact h o ho
            | cons p r ih =>
              intro H hl h o ho
              refine ih _ (fun q hq => hl q (by simp [hq])) (fun o' ho' => ?_) o ho
              by_cases e : id = p.1
              · subst e; rw [upd_same] at ho'; injection ho' with ho'; rw [← ho']; exact hl p (by simp)
              · rw [upd_ne _ _ e] at ho'; exact h o' ho'
          refine key up C.H (fun p hp => (hu p hp).2) (fun o ho => ?_) _ k3
          obtain ⟨ob, hob⟩ := idsIn_iff.1 hid
          have h7 := (hC _ hob).1
          simp only at h7
          rw [h7] at ho
          injection ho with ho
          rw [← ho]
          exact hrd _ hob
        cases o with
        | box t cells =>
          obtain ⟨b, cs, m1, m2, m3, m4, m5⟩ := k4
          exact ⟨b, cs, m1, by show C.w0.heap.size ≤ b; rw [e0] at m2; exact m2, m3, RdL.mono hlDC _ _ hino m4, m5⟩
        | row e sz n =>
          obtain ⟨hz, xs, k4⟩ := k4
          rw [e0] at k4
          exact ⟨hz, xs, k4⟩
        | arr e sz ver rows =>
          obtain ⟨hz, hr, xs, k4, k5, k6⟩ := k4
          rw [e0] at k4
          exact ⟨hz, hr, xs, k4, RdL.mono hlDC _ _ (inR_flat hino) k5, k6⟩
      · have hid : idsIn rd id = false := by simpa using hid
        have h : C.G id = some v := by rw [← hGf id hid]; exact h
        obtain ⟨o, k3, k4⟩ := hI.obj id v h
        exact ⟨o, by show updL C.H up id = _; rw [hCH id hid]; exact k3, Held.kept hle rfl k4 fun b q => (hhid id _ b hid h q).1⟩
    · by_cases hid : idsIn rd id = true <;> by_cases hid' : idsIn rd id' = true
      · have q1 : D.G id = some v := by rw [← hGt id hid]; exact q1
        have q2 : D.G id' = some v' := by rw [← hGt id' hid']; exact q2
        exact r.inv.apart id id' v v' b q1 q2 q3 q4
      · have q1 : D.G id = some v := by rw [← hGt id hid]; exact q1
        have hid' : idsIn rd id' = false := by simpa using hid'
        have q2 : C.G id' = some v' := by rw [← hGf id' hid']; exact q2
        exact absurd q3 ((hhid id' v' b hid' q2 q4).2 id v q1)
      · have hid : idsIn rd id = false := by simpa using hid
        have q1 : C.G id = some v := by rw [← hGf id hid]; exact q1
        have q2 : D.G id' = some v' := by rw [← hGt id' hid']; exact q2
        exact absurd q4 ((hhid id v b hid q1 q3).2 id' v' q2)
      · have hid : idsIn rd id = false := by simpa using hid
        have hid' : idsIn rd id' = false := by simpa using hid'
        have q1 : C.G id = some v := by rw [← hGf id hid]; exact q1
        have q2 : C.G id' = some v' := by rw [← hGf id' hid']; exact q2
        exact hI.apart id id' v v' b q1 q2 q3 q4
    · by_cases hid : idsIn rd id = true
      · have q1 : D.G id = some v := by rw [← hGt id hid]; exact q1
        have := r.inv.okG id v b q1 q2 j
        rw [e1] at this
        exact this.1
      · have hid : idsIn rd id = false := by simpa using hid
        have q1 : C.G id = some v := by rw [← hGf id hid]; exact q1
        exact hI.okG id v b q1 q2 j
  have hG : ∀ id u, C.G id = some u → ∃ u', C'.G id = some u' := fun id u h => by
    by_cases hid : idsIn rd id = true
    · have hx : ∃ o, D.H id = some o := by
        obtain ⟨ob, hob⟩ := idsIn_iff.1 hid
        have h7 := (hC _ hob).1
        simp only at h7
        have key : ∀ (l : List (Nat × AObj)) (H : Nat → Option AObj), (∃ o, H id = some o) → ∃ o, updL H l id = some o := by
          intro l
          induction l with
          | nil => intro H h; exact h
          | cons p r ih =>
            intro H ⟨o, ho⟩
            refine ih _ ?_
            by_cases e : id = p.1
            · subst e; exact ⟨p.2, upd_same _ _ _⟩
            · exact ⟨o, by rw [upd_ne _ _ e]; exact ho⟩
        obtain ⟨o, ho⟩ := key up C.H ⟨ob, h7⟩
        exact ⟨o, by rw [hDH id hid]; exact ho⟩
      obtain ⟨o, ho⟩ := hx
      obtain ⟨v, hv⟩ := r.real id o (by rw [← r.H]; exact ho)
      exact ⟨v, by show G' id = _; rw [hGt id hid]; exact hv⟩
    · exact ⟨u, by show G' id = _; rw [hGf id (by simpa using hid)]; exact h⟩
  have z8 := Rd.mono hlDC _ _ hr (himp _ _ h2)
  rcases he with rfl | rfl
  · exact ⟨r.defers, u, h1, u, C', rfl, rfl, hI', hle, rfl, rfl, rfl, hG, z8⟩
  · exact ⟨r.defers, u, h1, u, C', rfl, rfl, hI', hle, rfl, rfl, rfl, hG, z8⟩

end Go.Proofs.Ytbcjcekoonebiaa.Tl
