/- The tree logic, part M: a slice cut to its length; the order of texts. Conditions: none. -/
import Derived.Test.YtbcjcekoonebiaaTlL
import Derived.Lib.Bytealg
set_option linter.unusedVariables false
set_option linter.unusedSimpArgs false
set_option linter.unusedSectionVars false
namespace Go.Proofs.Ytbcjcekoonebiaa.Tl
open Go Go.RowKit

theorem OpS.clip {P : Program} {o : Oper} {ρ : Operand → Option AV} {ty e : TypeId} {x hi mx : Operand} (ho : o.op = .slice ty x none (some hi) (some mx)) (hs : sort0 P ty = .slice e) {sz' : Nat} (he : elm P ty = some (e, sz')) {tag : Tag} {sz : Nat} {rows : List (List AV)}
    (hx : ρ x = some (.sl tag sz rows)) {k k' : IntKind} (hh : ρ hi = some (.int k rows.length)) (hm : ρ mx = some (.int k' rows.length)) : OpS P o ρ [] [] (.sl .ro sz rows) := by
  refine OpS.val fun C a hI hρ hrd => ?_
  have q := hρ x (by simp [ho, Op.operands]) _ hx
  have qh := hρ hi (by simp [ho, Op.operands]) _ hh
  have qm := hρ mx (by simp [ho, Op.operands]) _ hm
  simp only [Rd] at q qh qm
  obtain ⟨A, c, q0, qc, ql, q1, _⟩ := q
  have e1 := sort0_slice hs
  obtain ⟨_, inf, e2, e3⟩ := elm_spec he
  have hb : (Instr.sliceBounds true rows.length c none (some (a.eval hi)) (some (a.eval mx))).run P C.w = .ok (0, rows.length, rows.length) C.w := by
    have n0 : ¬ ((rows.length : Int) < 0) := by omega
    simp [Instr.sliceBounds, Instr.sliceBound, asIntOf, qh, qm, qc, n0]
  have key : (Instr.sliceAt ty (a.eval x) none (some (a.eval hi)) (some (a.eval mx))).run P C.w = .ok (.slice (if rows.length = 0 then A else A.map (·.add (0 * sz'))) (rows.length - 0) (rows.length - 0)) C.w := by
    simp [Instr.sliceAt, run_underlying e1, Instr.slice, q0, hb, sizeOf, typeInfo, e2, e3]
  refine ⟨_, by unfold execOp; simp only [ho, Option.map_none, Option.map_some, Sem.run_bind, key, Result.andThen_ok, Sem.run_pure]; rfl, ?_⟩
  simp only [Rd]
  refine ⟨_, rows.length, rfl, Nat.le_refl _, ql, ?_, trivial⟩
  rcases q1 with rfl | ⟨b, off, rfl, q1⟩
  · exact .inl rfl
  · right
    refine ⟨b, off, ?_, q1⟩
    split <;> simp [add_plain']

theorem OpS.cmp {P : Program} {o : Oper} {ρ : Operand → Option AV} {cf x y : Operand} {tys : Array TypeId} (ho : o.op = .call { callee := .value cf, args := #[x, y], argTypes := tys }) {f : FuncId} {fn : Func} (hfn : P.funcs[f]? = some fn) (h1 : (fn.name == "runtime.NumGoroutine") = false)
    (h2 : fn.body.isNone = true) (h3 : Extern.findNext fn = none) (h4 : Extern.find fn = some Extern.BytealgCompare.compare) (hf : ρ cf = some (.func f [] [])) {s t : ByteArray} (hx : ρ x = some (.str s)) (hy : ρ y = some (.str t)) :
    OpS P o ρ [] [] (.int .i64 (Lib.compareBytes s.data.toList t.data.toList)) := by
  refine OpS.val fun C a hI hρ hrd => ?_
  obtain ⟨m1, m2⟩ := mem_call ho
  have q := hρ cf m1 _ hf
  have qx := hρ x (m2 x (by simp)) _ hx
  have qy := hρ y (m2 y (by simp)) _ hy
  simp only [Rd] at q qx qy
  obtain ⟨vs, us, q0, q1, q2⟩ := q
  have e1 : vs = #[] := by have := q1.length; simpa using this.symm
  have e2 : us = #[] := by have := q2.length; simpa using this.symm
  subst e1 e2
  refine ⟨.int .i64 (Lib.compareBytes s.data.toList t.data.toList), ?_, by simp [Rd]⟩
  unfold execOp
  have hc := run_callFunc_extern hfn h1 h2 h3 h4 #[.string s, .string t] C.w
  rw [Lib.run_compareString] at hc
  simp only [Result.andThen] at hc
  simp [ho, resolve, q0, Deferred.ofValue, invoke, qx, qy, hc]

/-- A nil slice is taken for a row of the call's own, with nothing in it yet. -/
theorem AW.adopt {P : Program} {S : Nat → Bool} {Q : Exit → St → Prop} {c : Code} {n : Nat} {E : List (Nat × AV)} {H : List (Nat × AObj)} (d : Nat) {s0 : Nat} (hd : lk E d = some (.sl .nil s0 [])) (id sz : Nat) (e : TypeId) (hsz : Nat.blt 0 sz = true) (hid : lk H id = none)
    (h : AW P S c Q (mkS n ((d, .sl (.own id) sz []) :: E) ((id, .row e sz 0) :: H))) : AW P S c Q (mkS n E H) := fun C a hr => by
  have hsz : 0 < sz := Nat.le_of_ble_eq_true hsz
  have hH : C.H id = none := by rw [hr.H]; exact hid
  have hG : C.G id = none := by
    cases q : C.G id with
    | none => rfl
    | some v => obtain ⟨o, h1, _⟩ := hr.inv.obj id v q; rw [hH] at h1; cases h1
  let C' : Cx := { C with H := upd C.H id (.row e sz 0), G := upd C.G id (.slice none 0 0) }
  have hne : ∀ id', id' ≠ id → C'.H id' = C.H id' ∧ C'.G id' = C.G id' := fun id' q => ⟨upd_ne _ _ q, upd_ne _ _ q⟩
  have hGi : C'.G id = some (.slice none 0 0) := upd_same _ _ _
  have hHi : C'.H id = some (.row e sz 0) := upd_same _ _ _
  have hblk : ∀ id' v b, C'.G id' = some v → blk v = some b → id' ≠ id ∧ C.G id' = some v := fun id' v b q1 q2 => by
    by_cases q : id' = id
    · subst q
      rw [hGi] at q1
      injection q1 with q1
      subst q1
      cases q2
    · exact ⟨q, by rw [← (hne id' q).2]; exact q1⟩
  have hle : Le C C' := by
    refine ⟨fun b j u h1 h2 => ⟨⟨h1.1, fun id' v q1 q2 => ?_⟩, h2⟩, fun id' b q => ?_, fun id' m v q => ?_, fun id' m z v q => ?_, Nat.le_refl _, fun b hb q => ⟨rfl, fun id' v q1 q2 => ?_⟩⟩
    · obtain ⟨k1, k2⟩ := hblk id' v b q1 q2
      rw [(hne id' k1).1]
      exact h1.2 id' v k2 q2
    · have k : id' ≠ id := fun k => by subst k; rw [hG] at q; cases q
      rw [(hne id' k).2]; exact q
    · obtain ⟨e1, sz1, m1, t1, t2, t3⟩ := q
      have k : id' ≠ id := fun k => by subst k; rw [hH] at t1; cases t1
      exact ⟨e1, sz1, m1, by rw [(hne id' k).1]; exact t1, t2, fun z => by rw [(hne id' k).2]; exact t3 z⟩
    · obtain ⟨sh, e1, sz1, m1, rs, t1, t2, t3⟩ := q
      have k : id' ≠ id := fun k => by subst k; rw [hH] at t1; cases t1
      exact ⟨sh, e1, sz1, m1, rs, by rw [(hne id' k).1]; exact t1, t2, fun z => by rw [(hne id' k).2]; exact t3 z⟩
    · obtain ⟨k1, k2⟩ := hblk id' v b q1 q2
      exact q id' v k2 q2
  have hI : Inv C' := by
    refine ⟨hr.inv.below, fun id' v q => ?_, fun id1 id2 v1 v2 b q1 q2 q3 q4 => hr.inv.apart id1 id2 v1 v2 b (hblk _ _ _ q1 q3).2 (hblk _ _ _ q2 q4).2 q3 q4, hr.inv.fresh, fun id' v b q1 q2 => hr.inv.okG id' v b (hblk _ _ _ q1 q2).2 q2⟩
    by_cases k : id' = id
    · subst k
      rw [hGi] at q
      injection q with q
      subst q
      exact ⟨_, hHi, hsz, [], World.ownsRow_nil _ _ _ _⟩
    · rw [(hne id' k).2] at q
      obtain ⟨o, k1, k2⟩ := hr.inv.obj id' v q
      exact ⟨o, by rw [(hne id' k).1]; exact k1, Held.kept hle rfl k2 fun _ _ => rfl⟩
  have hr' : Rel C' (mkS n ((d, .sl (.own id) sz []) :: E) ((id, .row e sz 0) :: H)) a := by
    refine ⟨hI, ?_, fun id' o q => ?_, fun d' v q => ?_, hr.size, hr.defers⟩
    · show upd C.H id (.row e sz 0) = _
      rw [hr.H]
      exact (lk_cons _ _ _).symm
    · by_cases k : id' = id
      · subst k; exact ⟨_, hGi⟩
      · have q' : lk H id' = some o := by
          have q : lk ((id, AObj.row e sz 0) :: H) id' = some o := q
          rw [lk_cons, upd_ne _ _ k] at q
          exact q
        obtain ⟨u, hu⟩ := hr.real id' o q'
        exact ⟨u, by rw [(hne id' k).2]; exact hu⟩
    · have q : lk ((d, AV.sl (.own id) sz []) :: E) d' = some v := q
      rw [lk_cons] at q
      by_cases k : d' = d
      · subst k
        rw [upd_same] at q
        injection q with q
        subst q
        have q2 := hr.env d' _ hd
        simp only [Rd] at q2 ⊢
        obtain ⟨A, cp, e0, h1, h2, _, h4⟩ := q2
        rw [h4]
        exact ⟨none, 0, rfl, Nat.le_refl _, by simp, .inl trivial, e, sz, 0, hHi, Nat.le_refl _, fun _ => hGi⟩
      · rw [upd_ne _ _ k] at q
        exact (hr.env d' v q).le hle
  exact wp_mono (h C' a hr') (fun e a w z => Lift.later z rfl rfl (hle.leS S))

/-- A slice's length is a number. -/
theorem AW.len {P : Program} {S : Nat → Bool} {Q : Exit → St → Prop} {c : Code} {n : Nat} {E : List (Nat × AV)} {H : List (Nat × AObj)} (d : Nat) {tag : Tag} {sz : Nat} {rows : List (List AV)} (hd : lk E d = some (.sl tag sz rows)) (h : rows.length ≤ 9223372036854775807 → AW P S c Q (mkS n E H)) : AW P S c Q (mkS n E H) := fun C a hr => by
  have q := hr.env d _ hd
  simp only [Rd] at q
  obtain ⟨_, _, _, _, q, _⟩ := q
  exact h q C a hr

section
variable {P : Program} {T : TI} (hT : T.Good P) {ops : Array Oper} {M : Nat → Mk} {o : Oper} {rest : List Oper} {i n : Nat} [nc : NC M i] {E : List (Nat × AV)} {H : List (Nat × AObj)} {Q : St → Prop}
include hT
theorem AL.val {d : Nat} (hd : o.dst = some d) (hn : Nat.blt d n = true) (hg : gdec ops (lk E) o = some true) {v : AV} (h : OpS P o (evE E) [] [] v) (k : AL P ops M rest (i + 1) (mkS n ((d, v) :: E) H) Q) : AL P ops M (o :: rest) i (mkS n E H) Q := by
  refine AL.op (dOk1 hd hn) hg (rd := []) (up := []) (v := v) ⟨by rw [ev_lk]; exact h, by simp, by simp, .inr ⟨.inl rfl, .inl rfl⟩, NC.no⟩ ?_
  unfold St.step
  rw [hd, lk_pt]
  exact k
theorem AL.clip {d : Nat} (hd : o.dst = some d) (hn : Nat.blt d n = true) (hg : gdec ops (lk E) o = some true) {ty e : TypeId} {x hi mx : Operand} (ho : o.op = .slice ty x none (some hi) (some mx)) (hs : gt T.srt ty = some (.slice e)) {sz' : Nat} (he : gt T.elm ty = some (e, sz'))
    {tag : Tag} {sz : Nat} {rows : List (List AV)} (hx : evE E x = some (.sl tag sz rows)) {kk kk' : IntKind} (hh : evE E hi = some (.int kk rows.length)) (hm : evE E mx = some (.int kk' rows.length))
    (k : AL P ops M rest (i + 1) (mkS n ((d, .sl .ro sz rows) :: E) H) Q) : AL P ops M (o :: rest) i (mkS n E H) Q :=
  AL.val hT hd hn hg (OpS.clip ho (hT.srt hs) (hT.elm he) hx hh hm) k
theorem AL.cmp {d : Nat} (hd : o.dst = some d) (hn : Nat.blt d n = true) (hg : gdec ops (lk E) o = some true) {cf x y : Operand} {tys : Array TypeId} (ho : o.op = .call { callee := .value cf, args := #[x, y], argTypes := tys }) {f : FuncId} (hf : evE E cf = some (.func f [] []))
    {s t : ByteArray} (hx : evE E x = some (.str s)) (hy : evE E y = some (.str t)) {fn : Func} (hfn : P.funcs[f]? = some fn) (h1 : (fn.name == "runtime.NumGoroutine") = false) (h2 : fn.body.isNone = true) (h3 : Extern.findNext fn = none) (h4 : Extern.find fn = some Extern.BytealgCompare.compare)
    (k : AL P ops M rest (i + 1) (mkS n ((d, .int .i64 (Lib.compareBytes s.data.toList t.data.toList)) :: E) H) Q) : AL P ops M (o :: rest) i (mkS n E H) Q :=
  AL.val hT hd hn hg (OpS.cmp ho hfn h1 h2 h3 h4 hf hx hy) k
end

end Go.Proofs.Ytbcjcekoonebiaa.Tl
