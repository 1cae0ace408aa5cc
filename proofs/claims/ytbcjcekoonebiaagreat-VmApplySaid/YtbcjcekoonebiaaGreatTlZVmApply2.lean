/- The tree logic, part M: a slice cut to its length; the order of texts. The tree logic, part V: values and expressions as trees. The tree logic, part N: weaker values at any depth; calls, appends, results with them. The tree logic, part O: nil slices within variables taken for rows of the call's own. The tree logic, part R: functions that are handed what is the caller's own; texts appended to bytes. The tree logic, part T: arrays of the call's own, that are written, cut, appended to in place. The tree logic, part U: types as trees; lists of plain things. The table of the types that this seat's functions use. Walks: values are made and compared. Walks: which value stands first. Walks: tables of functions, the functions in them. Walks: ops of one value, of two. What an expression comes to, as a plain function; none: what is not covered. Walks: ops of one value, of two, found by their names. Walks: values and expressions are made. Rows of bytes. Definitions and walks: a stack of a machine. Definitions and walks: a stack of a machine. A tuple is made: as a partial definition. One and Both, as contracts with what may be. Conditions: none. -/
import Derived.Lib.Bytealg
import Derived.Lib.AppendStr
import Derived.Test.YtbcjcekoonebiaaGreatProg
import Derived.KernelRfl
import Derived.Test.YtbcjcekoonebiaaGreatTlZVmApply1
set_option linter.unusedVariables false
set_option linter.unusedSimpArgs false
set_option linter.unusedSectionVars false
namespace Go.Proofs.YtbcjcekoonebiaaGreat.Tl
open Go Go.RowKit
theorem OpS.clip {P : Program} {o : Oper} {ρ : Operand → Option AV} {ty e : TypeId} {x hi mx : Operand} (ho : o.op = .slice ty x none (some hi) (some mx)) (hs : sort0 P ty = .slice e) {sz' : Nat} (he : elm P ty = some (e, sz')) {tag : Tag} {sz : Nat} {rows : List (List AV)}
    (hx : ρ x = some (.sl tag sz rows)) {k k' : IntKind} (hh : ρ hi = some (.int k rows.length)) (hm : ρ mx = some (.int k' rows.length)) : OpS P o ρ [] [] (.sl .ro sz rows) := by
  refine OpS.val fun C a hI hρ hrd => ?_
  have q := hρ x (by simp [ho, Op.operands]) _ hx
  have qh := hρ hi (by simp [ho, Op.operands]) _ hh
  have qm := hρ mx (by simp [ho, Op.operands]) _ hm
  simp only [Rd] at q qh qm
  obtain ⟨A, c, q0, qc, ql, q1, _⟩ := q
  have e1 := sort0_slice hs
  obtain ⟨_, inf, e2, e3⟩ := elm_spec he
  have hb : (Instr.sliceBounds true rows.length c none (some (a.eval hi)) (some (a.eval mx))).run P C.w = .ok (0, rows.length, rows.length) C.w := by
    have n0 : ¬ ((rows.length : Int) < 0) := by omega
    simp [Instr.sliceBounds, Instr.sliceBound, asIntOf, qh, qm, qc, n0]
  have key : (Instr.sliceAt ty (a.eval x) none (some (a.eval hi)) (some (a.eval mx))).run P C.w = .ok (.slice (if rows.length = 0 then A else A.map (·.add (0 * sz'))) (rows.length - 0) (rows.length - 0)) C.w := by
    simp [Instr.sliceAt, run_underlying e1, Instr.slice, q0, hb, sizeOf, typeInfo, e2, e3]
  refine ⟨_, by unfold execOp; simp only [ho, Option.map_none, Option.map_some, Sem.run_bind, key, Result.andThen_ok, Sem.run_pure]; rfl, ?_⟩
  simp only [Rd]
  refine ⟨_, rows.length, rfl, Nat.le_refl _, ql, ?_, trivial⟩
  rcases q1 with rfl | ⟨b, off, rfl, q1⟩
  · exact .inl rfl
  · right
    refine ⟨b, off, ?_, q1⟩
    split <;> simp [add_plain']

theorem OpS.cmp {P : Program} {o : Oper} {ρ : Operand → Option AV} {cf x y : Operand} {tys : Array TypeId} (ho : o.op = .call { callee := .value cf, args := #[x, y], argTypes := tys }) {f : FuncId} {fn : Func} (hfn : P.funcs[f]? = some fn) (h1 : (fn.name == "runtime.NumGoroutine") = false)
    (h2 : fn.body.isNone = true) (h3 : Extern.findNext fn = none) (h4 : Extern.find fn = some Extern.BytealgCompare.compare) (hf : ρ cf = some (.func f [] [])) {s t : ByteArray} (hx : ρ x = some (.str s)) (hy : ρ y = some (.str t)) :
    OpS P o ρ [] [] (.int .i64 (Lib.compareBytes s.data.toList t.data.toList)) := by
  refine OpS.val fun C a hI hρ hrd => ?_
  obtain ⟨m1, m2⟩ := mem_call ho
  have q := hρ cf m1 _ hf
  have qx := hρ x (m2 x (by simp)) _ hx
  have qy := hρ y (m2 y (by simp)) _ hy
  simp only [Rd] at q qx qy
  obtain ⟨vs, us, q0, q1, q2⟩ := q
  have e1 : vs = #[] := by have := q1.length; simpa using this.symm
  have e2 : us = #[] := by have := q2.length; simpa using this.symm
  subst e1 e2
  refine ⟨.int .i64 (Lib.compareBytes s.data.toList t.data.toList), ?_, by simp [Rd]⟩
  unfold execOp
  have hc := run_callFunc_extern hfn h1 h2 h3 h4 #[.string s, .string t] C.w
  rw [Lib.run_compareString] at hc
  simp only [Result.andThen] at hc
  simp [ho, resolve, q0, Deferred.ofValue, invoke, qx, qy, hc]

theorem AW.adopt {P : Program} {S : Nat → Bool} {Q : Exit → St → Prop} {c : Code} {n : Nat} {E : List (Nat × AV)} {H : List (Nat × AObj)} (d : Nat) {s0 : Nat} (hd : lk E d = some (.sl .nil s0 [])) (id sz : Nat) (e : TypeId) (hsz : Nat.blt 0 sz = true) (hid : lk H id = none)
    (h : AW P S c Q (mkS n ((d, .sl (.own id) sz []) :: E) ((id, .row e sz 0) :: H))) : AW P S c Q (mkS n E H) := fun C a hr => by
  have hsz : 0 < sz := Nat.le_of_ble_eq_true hsz
  have hH : C.H id = none := by rw [hr.H]; exact hid
  have hG : C.G id = none := by
    cases q : C.G id with
    | none => rfl
    | some v => obtain ⟨o, h1, _⟩ := hr.inv.obj id v q; rw [hH] at h1; cases h1
  let C' : Cx := { C with H := upd C.H id (.row e sz 0), G := upd C.G id (.slice none 0 0) }
  have hne : ∀ id', id' ≠ id → C'.H id' = C.H id' ∧ C'.G id' = C.G id' := fun id' q => ⟨upd_ne _ _ q, upd_ne _ _ q⟩
  have hGi : C'.G id = some (.slice none 0 0) := upd_same _ _ _
  have hHi : C'.H id = some (.row e sz 0) := upd_same _ _ _
  have hblk : ∀ id' v b, C'.G id' = some v → blk v = some b → id' ≠ id ∧ C.G id' = some v := fun id' v b q1 q2 => by
    by_cases q : id' = id
    · subst q
      rw [hGi] at q1
      injection q1 with q1
      subst q1
      cases q2
    · exact ⟨q, by rw [← (hne id' q).2]; exact q1⟩
  have hle : Le C C' := by
    refine ⟨fun b j u h1 h2 => ⟨⟨h1.1, fun id' v q1 q2 => ?_⟩, h2⟩, fun id' b q => ?_, fun id' m v q => ?_, fun id' m z v q => ?_, Nat.le_refl _, fun b hb q => ⟨rfl, fun id' v q1 q2 => ?_⟩⟩
    · obtain ⟨k1, k2⟩ := hblk id' v b q1 q2
      rw [(hne id' k1).1]
      exact h1.2 id' v k2 q2
    · have k : id' ≠ id := fun k => by subst k; rw [hG] at q; cases q
      rw [(hne id' k).2]; exact q
    · obtain ⟨e1, sz1, m1, t1, t2, t3⟩ := q
      have k : id' ≠ id := fun k => by subst k; rw [hH] at t1; cases t1
      exact ⟨e1, sz1, m1, by rw [(hne id' k).1]; exact t1, t2, fun z => by rw [(hne id' k).2]; exact t3 z⟩
    · obtain ⟨sh, e1, sz1, m1, rs, t1, t2, t3⟩ := q
      have k : id' ≠ id := fun k => by subst k; rw [hH] at t1; cases t1
      exact ⟨sh, e1, sz1, m1, rs, by rw [(hne id' k).1]; exact t1, t2, fun z => by rw [(hne id' k).2]; exact t3 z⟩
    · obtain ⟨k1, k2⟩ := hblk id' v b q1 q2
      exact q id' v k2 q2
  have hI : Inv C' := by
    refine ⟨hr.inv.below, fun id' v q => ?_, fun id1 id2 v1 v2 b q1 q2 q3 q4 => hr.inv.apart id1 id2 v1 v2 b (hblk _ _ _ q1 q3).2 (hblk _ _ _ q2 q4).2 q3 q4, hr.inv.fresh, fun id' v b q1 q2 => hr.inv.okG id' v b (hblk _ _ _ q1 q2).2 q2⟩
    by_cases k : id' = id
    · subst k
      rw [hGi] at q
      injection q with q
      subst q
      exact ⟨_, hHi, hsz, [], World.ownsRow_nil _ _ _ _⟩
    · rw [(hne id' k).2] at q
      obtain ⟨o, k1, k2⟩ := hr.inv.obj id' v q
      exact ⟨o, by rw [(hne id' k).1]; exact k1, Held.kept hle rfl k2 fun _ _ => rfl⟩
  have hr' : Rel C' (mkS n ((d, .sl (.own id) sz []) :: E) ((id, .row e sz 0) :: H)) a := by
    refine ⟨hI, ?_, fun id' o q => ?_, fun d' v q => ?_, hr.size, hr.defers⟩
    · show upd C.H id (.row e sz 0) = _
      rw [hr.H]
      exact (lk_cons _ _ _).symm
    · by_cases k : id' = id
      · subst k; exact ⟨_, hGi⟩
      · have q' : lk H id' = some o := by
          have q : lk ((id, AObj.row e sz 0) :: H) id' = some o := q
          rw [lk_cons, upd_ne _ _ k] at q
          exact q
        obtain ⟨u, hu⟩ := hr.real id' o q'
        exact ⟨u, by rw [(hne id' k).2]; exact hu⟩
    · have q : lk ((d, AV.sl (.own id) sz []) :: E) d' = some v := q
      rw [lk_cons] at q
      by_cases k : d' = d
      · subst k
        rw [upd_same] at q
        injection q with q
        subst q
        have q2 := hr.env d' _ hd
        simp only [Rd] at q2 ⊢
        obtain ⟨A, cp, e0, h1, h2, _, h4⟩ := q2
        rw [h4]
        exact ⟨none, 0, rfl, Nat.le_refl _, by simp, .inl trivial, e, sz, 0, hHi, Nat.le_refl _, fun _ => hGi⟩
      · rw [upd_ne _ _ k] at q
        exact (hr.env d' v q).le hle
  exact wp_mono (h C' a hr') (fun e a w z => Lift.later z rfl rfl (hle.leS S))

theorem AW.len {P : Program} {S : Nat → Bool} {Q : Exit → St → Prop} {c : Code} {n : Nat} {E : List (Nat × AV)} {H : List (Nat × AObj)} (d : Nat) {tag : Tag} {sz : Nat} {rows : List (List AV)} (hd : lk E d = some (.sl tag sz rows)) (h : rows.length ≤ 9223372036854775807 → AW P S c Q (mkS n E H)) : AW P S c Q (mkS n E H) := fun C a hr => by
  have q := hr.env d _ hd
  simp only [Rd] at q
  obtain ⟨_, _, _, _, q, _⟩ := q
  exact h q C a hr

section
variable {P : Program} {T : TI} (hT : T.Good P) {ops : Array Oper} {M : Nat → Mk} {o : Oper} {rest : List Oper} {i n : Nat} [nc : NC M i] {E : List (Nat × AV)} {H : List (Nat × AObj)} {Q : St → Prop}
include hT
theorem AL.val {d : Nat} (hd : o.dst = some d) (hn : Nat.blt d n = true) (hg : gdec ops (lk E) o = some true) {v : AV} (h : OpS P o (evE E) [] [] v) (k : AL P ops M rest (i + 1) (mkS n ((d, v) :: E) H) Q) : AL P ops M (o :: rest) i (mkS n E H) Q := by
  refine AL.op (dOk1 hd hn) hg (rd := []) (up := []) (v := v) ⟨by rw [ev_lk]; exact h, by simp, by simp, .inr ⟨.inl rfl, .inl rfl⟩, NC.no⟩ ?_
  unfold St.step
  rw [hd, lk_pt]
  exact k
theorem AL.clip {d : Nat} (hd : o.dst = some d) (hn : Nat.blt d n = true) (hg : gdec ops (lk E) o = some true) {ty e : TypeId} {x hi mx : Operand} (ho : o.op = .slice ty x none (some hi) (some mx)) (hs : gt T.srt ty = some (.slice e)) {sz' : Nat} (he : gt T.elm ty = some (e, sz'))
    {tag : Tag} {sz : Nat} {rows : List (List AV)} (hx : evE E x = some (.sl tag sz rows)) {kk kk' : IntKind} (hh : evE E hi = some (.int kk rows.length)) (hm : evE E mx = some (.int kk' rows.length))
    (k : AL P ops M rest (i + 1) (mkS n ((d, .sl .ro sz rows) :: E) H) Q) : AL P ops M (o :: rest) i (mkS n E H) Q :=
  AL.val hT hd hn hg (OpS.clip ho (hT.srt hs) (hT.elm he) hx hh hm) k
theorem AL.cmp {d : Nat} (hd : o.dst = some d) (hn : Nat.blt d n = true) (hg : gdec ops (lk E) o = some true) {cf x y : Operand} {tys : Array TypeId} (ho : o.op = .call { callee := .value cf, args := #[x, y], argTypes := tys }) {f : FuncId} (hf : evE E cf = some (.func f [] []))
    {s t : ByteArray} (hx : evE E x = some (.str s)) (hy : evE E y = some (.str t)) {fn : Func} (hfn : P.funcs[f]? = some fn) (h1 : (fn.name == "runtime.NumGoroutine") = false) (h2 : fn.body.isNone = true) (h3 : Extern.findNext fn = none) (h4 : Extern.find fn = some Extern.BytealgCompare.compare)
    (k : AL P ops M rest (i + 1) (mkS n ((d, .int .i64 (Lib.compareBytes s.data.toList t.data.toList)) :: E) H) Q) : AL P ops M (o :: rest) i (mkS n E H) Q :=
  AL.val hT hd hn hg (OpS.cmp ho hfn h1 h2 h3 h4 hf hx hy) k
end
end Go.Proofs.YtbcjcekoonebiaaGreat.Tl

set_option linter.unusedVariables false
namespace Go.Proofs.YtbcjcekoonebiaaGreat.Tl
open Go Go.RowKit
inductive Val where
  | mk (kind i : Int) (b : Bool) (s : ByteArray) (t : List Val)
def Val.kind : Val → Int | .mk k _ _ _ _ => k
def Val.i : Val → Int | .mk _ i _ _ _ => i
def Val.b : Val → Bool | .mk _ _ b _ _ => b
def Val.s : Val → ByteArray | .mk _ _ _ s _ => s
def Val.t : Val → List Val | .mk _ _ _ _ t => t
mutual
def enc1 : Val → List AV
  | .mk k i b s t => [.int .i64 k, .int .i64 i, .bool b, .str s, .sl .ro 5 (encs t)]
def encs : List Val → List (List AV)
  | [] => []
  | v :: r => enc1 v :: encs r
end
abbrev valC (v : Val) : List AV := [.int .i64 v.kind, .int .i64 v.i, .bool v.b, .str v.s, .sl .ro 5 (encs v.t)]
theorem enc1_eq (v : Val) : enc1 v = valC v := by cases v; rfl
theorem encs_map (l : List Val) : encs l = l.map valC := by
  induction l with
  | nil => rfl
  | cons v r ih => simp only [encs, ih, List.map_cons, enc1_eq]
theorem encs_length (l : List Val) : (encs l).length = l.length := by rw [encs_map, List.length_map]
theorem encs_get {l : List Val} {j : Nat} {v : Val} (h : l[j]? = some v) : (encs l)[j]? = some (valC v) := by rw [encs_map]; simp [h]
mutual
theorem enc1_pure (S : Nat → Bool) : ∀ v : Val, inL S (enc1 v) = true
  | .mk k i b s t => by simp only [enc1, inL, inA, encs_pure S t, Bool.and_self]
theorem encs_pure (S : Nat → Bool) : ∀ l : List Val, inR S (encs l) = true
  | [] => rfl
  | v :: r => by simp only [encs, inR, enc1_pure S v, encs_pure S r, Bool.and_self]
end
theorem valC_pure (S : Nat → Bool) (v : Val) : inL S (valC v) = true := by rw [← enc1_eq]; exact enc1_pure S v
inductive Ex where
  | mk (op : ByteArray) (v : Val) (n : Int) (a : List Ex)
def Ex.op : Ex → ByteArray | .mk o _ _ _ => o
def Ex.v : Ex → Val | .mk _ v _ _ => v
def Ex.n : Ex → Int | .mk _ _ n _ => n
def Ex.a : Ex → List Ex | .mk _ _ _ a => a
mutual
def enx1 : Ex → List AV
  | .mk o v n a => [.str o, .int .i64 v.kind, .int .i64 v.i, .bool v.b, .str v.s, .sl .ro 5 (encs v.t), .int .i64 n, .sl .ro 8 (enxs a)]
def enxs : List Ex → List (List AV)
  | [] => []
  | v :: r => enx1 v :: enxs r
end
abbrev exC (e : Ex) : List AV := [.str e.op, .int .i64 e.v.kind, .int .i64 e.v.i, .bool e.v.b, .str e.v.s, .sl .ro 5 (encs e.v.t), .int .i64 e.n, .sl .ro 8 (enxs e.a)]
theorem enx1_eq (v : Ex) : enx1 v = exC v := by cases v; rfl
theorem enxs_map (l : List Ex) : enxs l = l.map exC := by
  induction l with
  | nil => rfl
  | cons v r ih => simp only [enxs, ih, List.map_cons, enx1_eq]
theorem enxs_length (l : List Ex) : (enxs l).length = l.length := by rw [enxs_map, List.length_map]
theorem enxs_get {l : List Ex} {j : Nat} {v : Ex} (h : l[j]? = some v) : (enxs l)[j]? = some (exC v) := by rw [enxs_map]; simp [h]
mutual
theorem enx1_pure (S : Nat → Bool) : ∀ v : Ex, inL S (enx1 v) = true
  | .mk o v n a => by simp only [enx1, inL, inA, encs_pure S v.t, enxs_pure S a, Bool.and_self]
theorem enxs_pure (S : Nat → Bool) : ∀ l : List Ex, inR S (enxs l) = true
  | [] => rfl
  | v :: r => by simp only [enxs, inR, enx1_pure S v, enxs_pure S r, Bool.and_self]
end
theorem exC_pure (S : Nat → Bool) (v : Ex) : inL S (exC v) = true := by rw [← enx1_eq]; exact enx1_pure S v
def orI : List Int → Int
  | [] => 0
  | x :: r => if x = 0 then orI r else x
def cmpI (x y : Int) : Int := if x < y then -1 else if x > y then 1 else 0
abbrev cmpB (s t : ByteArray) : Int := Lib.compareBytes s.data.toList t.data.toList
def bI (b : Bool) : Int := if b then 1 else 0
mutual
def cmpV : Val → Val → Int
  | .mk k i b s t, w => if orI [cmpI k w.kind, cmpI i w.i, cmpI (bI b) (bI w.b), cmpB s w.s] = 0 then cmpVs t w.t else orI [cmpI k w.kind, cmpI i w.i, cmpI (bI b) (bI w.b), cmpB s w.s]
def cmpVs : List Val → List Val → Int
  | [], [] => 0
  | [], _ :: _ => -1
  | _ :: _, [] => 1
  | x :: xs, y :: ys => if cmpV x y = 0 then cmpVs xs ys else cmpV x y
end
theorem cmpV_eq (v w : Val) : cmpV v w = if orI [cmpI v.kind w.kind, cmpI v.i w.i, cmpI (bI v.b) (bI w.b), cmpB v.s w.s] = 0 then cmpVs v.t w.t else orI [cmpI v.kind w.kind, cmpI v.i w.i, cmpI (bI v.b) (bI w.b), cmpB v.s w.s] := by
  cases v; rfl
theorem drop_get {α : Type} {l : List α} {k : Nat} {x : α} (h : l[k]? = some x) : l.drop k = x :: l.drop (k + 1) := by
  have hlt : k < l.length := (List.getElem?_eq_some_iff.1 h).1
  rw [List.drop_eq_getElem_cons hlt]
  rw [List.getElem?_eq_getElem hlt] at h
  injection h with h
  rw [h]

theorem wnext {k n : Nat} (h : k < n) (hn : n ≤ 9223372036854775807) : some (AV.int .i64 (IntKind.i64.wrap ((k : Int) + 1))) = some (AV.int .i64 ((k + 1 : Nat) : Int)) := by
  rw [wrap64 (by omega) (by omega)]; rfl

end Go.Proofs.YtbcjcekoonebiaaGreat.Tl

set_option linter.unusedVariables false
set_option linter.unusedSimpArgs false
set_option linter.unusedSectionVars false
namespace Go.Proofs.YtbcjcekoonebiaaGreat.Tl
open Go Go.RowKit
mutual
def Wv : AV → AV → Prop
  | .sl tag sz rows, .sl tag' sz' rows' => (tag' = tag ∨ tag' = .ro) ∧ WvR rows rows' ∧ (sz = sz' ∨ rows = [])
  | .agg l, .agg l' => WvL l l'
  | .tup l, .tup l' => WvL l l'
  | .ep l, .ep l' => WvL l l'
  | .func f a b, .func f' a' b' => f = f' ∧ WvL a a' ∧ WvL b b'
  | x, y => x = y
def WvL : List AV → List AV → Prop
  | [], [] => True
  | x :: xs, y :: ys => Wv x y ∧ WvL xs ys
  | _, _ => False
def WvR : List (List AV) → List (List AV) → Prop
  | [], [] => True
  | x :: xs, y :: ys => WvL x y ∧ WvR xs ys
  | _, _ => False
end
mutual
theorem Wv.refl : ∀ x : AV, Wv x x
  | .int _ _ => rfl
  | .bool _ => rfl
  | .str _ => rfl
  | .undef => rfl
  | .nilp => rfl
  | .nilf => rfl
  | .ptr _ _ => rfl
  | .mv _ _ _ => rfl
  | .ep l => WvL.refl l
  | .func _ a b => ⟨rfl, WvL.refl a, WvL.refl b⟩
  | .sl _ _ r => ⟨.inl rfl, WvR.refl r, .inl rfl⟩
  | .agg l => WvL.refl l
  | .tup l => WvL.refl l
theorem WvL.refl : ∀ l : List AV, WvL l l
  | [] => trivial
  | x :: xs => ⟨Wv.refl x, WvL.refl xs⟩
theorem WvR.refl : ∀ l : List (List AV), WvR l l
  | [] => trivial
  | x :: xs => ⟨WvL.refl x, WvR.refl xs⟩
end
theorem WvL.length : ∀ {xs ys : List AV}, WvL xs ys → xs.length = ys.length
  | [], [], _ => rfl
  | [], _ :: _, h => by simp [WvL] at h
  | _ :: _, [], h => by simp [WvL] at h
  | x :: xs, y :: ys, h => by simp only [WvL] at h; simp only [List.length_cons, WvL.length h.2]
theorem WvR.length : ∀ {xs ys : List (List AV)}, WvR xs ys → xs.length = ys.length
  | [], [], _ => rfl
  | [], _ :: _, h => by simp [WvR] at h
  | _ :: _, [], h => by simp [WvR] at h
  | x :: xs, y :: ys, h => by simp only [WvR] at h; simp only [List.length_cons, WvR.length h.2]
mutual
theorem Wv.rd {C : Cx} : ∀ (x y : AV) (v : Value), Wv x y → Rd C x v → Rd C y v
  | .sl tag sz rows, y, v, h, hr => by
    cases y <;> simp only [Wv] at h <;> first | (cases h; done) | skip
    rename_i tag' sz' rows'
    obtain ⟨h1, h2, h3⟩ := h
    have hl := h2.length
    simp only [Rd] at hr ⊢
    obtain ⟨A, c, e, k1, k2, k3, k4⟩ := hr
    refine ⟨A, c, by rw [← hl]; exact e, by omega, by omega, ?_, ?_⟩
    · rcases k3 with rfl | ⟨b, off, q1, q2⟩
      · left; exact List.eq_nil_of_length_eq_zero (by simpa using hl.symm)
      · rcases h3 with rfl | rfl
        · exact .inr ⟨b, off, q1, WvR.rd sz _ _ b off h2 q2⟩
        · left; exact List.eq_nil_of_length_eq_zero (by simpa using hl.symm)
    · rcases h1 with rfl | rfl
      · cases tag' with
        | ro => trivial
        | nil => exact k4
        | own id => rw [← hl]; exact k4
      · trivial
  | .agg l, y, v, h, hr => by
    cases y <;> simp only [Wv] at h <;> first | (cases h; done) | skip
    simp only [Rd] at hr ⊢
    obtain ⟨vs, e, k1, k2⟩ := hr
    exact ⟨vs, e, WvL.rd l _ _ h k1, k2⟩
  | .tup l, y, v, h, hr => by
    cases y <;> simp only [Wv] at h <;> first | (cases h; done) | skip
    simp only [Rd] at hr ⊢
    obtain ⟨vs, e, k1⟩ := hr
    exact ⟨vs, e, WvL.rd l _ _ h k1⟩
  | .ep l, y, v, h, hr => by
    cases y <;> simp only [Wv] at h <;> first | (cases h; done) | skip
    simp only [Rd] at hr ⊢
    obtain ⟨b, off, e, k1⟩ := hr
    exact ⟨b, off, e, WvC.rd l _ b off h k1⟩
  | .func f a c, y, v, h, hr => by
    cases y <;> simp only [Wv] at h <;> first | (cases h; done) | skip
    obtain ⟨rfl, h1, h2⟩ := h
    simp only [Rd] at hr ⊢
    obtain ⟨vs, us, e, k1, k2⟩ := hr
    exact ⟨vs, us, e, WvL.rd a _ _ h1 k1, WvL.rd c _ _ h2 k2⟩
  | .int _ _, y, v, h, hr => by cases y <;> simp only [Wv] at h <;> first | (rw [← h]; exact hr) | cases h
  | .bool _, y, v, h, hr => by cases y <;> simp only [Wv] at h <;> first | (rw [← h]; exact hr) | cases h
  | .str _, y, v, h, hr => by cases y <;> simp only [Wv] at h <;> first | (rw [← h]; exact hr) | cases h
  | .undef, y, v, h, hr => by cases y <;> simp only [Wv] at h <;> first | exact hr | cases h
  | .nilp, y, v, h, hr => by cases y <;> simp only [Wv] at h <;> first | exact hr | cases h
  | .nilf, y, v, h, hr => by cases y <;> simp only [Wv] at h <;> first | exact hr | cases h
  | .ptr _ _, y, v, h, hr => by cases y <;> simp only [Wv] at h <;> first | (rw [← h]; exact hr) | cases h
  | .mv _ _ _, y, v, h, hr => by cases y <;> simp only [Wv] at h <;> first | (rw [← h]; exact hr) | cases h
theorem WvL.rd {C : Cx} : ∀ (xs ys : List AV) (vs : List Value), WvL xs ys → RdL C xs vs → RdL C ys vs
  | [], [], _, _, hr => hr
  | [], _ :: _, _, h, _ => by simp [WvL] at h
  | _ :: _, [], _, h, _ => by simp [WvL] at h
  | _ :: _, _ :: _, [], _, hr => by simp [RdL] at hr
  | x :: xs, y :: ys, v :: vs, h, hr => by
    simp only [WvL, RdL] at h hr ⊢
    exact ⟨Wv.rd x y v h.1 hr.1, WvL.rd xs ys vs h.2 hr.2⟩
theorem WvC.rd {C : Cx} : ∀ (xs ys : List AV) (b off : Nat), WvL xs ys → RdC C xs b off → RdC C ys b off
  | [], [], _, _, _, hr => hr
  | [], _ :: _, _, _, h, _ => by simp [WvL] at h
  | _ :: _, [], _, _, h, _ => by simp [WvL] at h
  | x :: xs, y :: ys, b, off, h, hr => by
    simp only [WvL, RdC] at h hr ⊢
    obtain ⟨h1, ⟨u, h2, h3, h4⟩, h5⟩ := hr
    exact ⟨h1, ⟨u, h2, h3, Wv.rd x y u h.1 h4⟩, WvC.rd xs ys b (off + 1) h.2 h5⟩
theorem WvR.rd {C : Cx} (sz : Nat) : ∀ (xs ys : List (List AV)) (b off : Nat), WvR xs ys → RdR C sz xs b off → RdR C sz ys b off
  | [], [], _, _, _, hr => hr
  | [], _ :: _, _, _, h, _ => by simp [WvR] at h
  | _ :: _, [], _, _, h, _ => by simp [WvR] at h
  | x :: xs, y :: ys, b, off, h, hr => by
    simp only [WvR, RdR] at h hr ⊢
    exact ⟨by rw [← h.1.length]; exact hr.1, WvC.rd x y b off h.1 hr.2.1, WvR.rd sz xs ys b (off + sz) h.2 hr.2.2⟩
end
theorem WvL.append : ∀ {a b c d : List AV}, WvL a b → WvL c d → WvL (a ++ c) (b ++ d)
  | [], [], _, _, _, h => h
  | [], _ :: _, _, _, h, _ => by simp [WvL] at h
  | _ :: _, [], _, _, h, _ => by simp [WvL] at h
  | _ :: _, _ :: _, _, _, h, k => ⟨h.1, WvL.append h.2 k⟩
theorem WvR.append : ∀ {a b c d : List (List AV)}, WvR a b → WvR c d → WvR (a ++ c) (b ++ d)
  | [], [], _, _, _, h => h
  | [], _ :: _, _, _, h, _ => by simp [WvR] at h
  | _ :: _, [], _, _, h, _ => by simp [WvR] at h
  | _ :: _, _ :: _, _, _, h, k => ⟨h.1, WvR.append h.2 k⟩

def WE (E E' : List (Nat × AV)) : Prop := ∀ d y, lk E' d = some y → ∃ x, lk E d = some x ∧ Wv x y
theorem WE.refl (E : List (Nat × AV)) : WE E E := fun d y h => ⟨y, h, Wv.refl y⟩
theorem WE.put {E E' : List (Nat × AV)} (h : WE E E') (d : Nat) {x y : AV} (hx : lk E d = some x) (hw : Wv x y) : WE E ((d, y) :: E') := fun e z hz => by
  rw [lk_cons] at hz
  by_cases q : e = d
  · subst q; rw [upd_same] at hz; injection hz with hz; subst hz; exact ⟨x, hx, hw⟩
  · rw [upd_ne _ _ q] at hz; exact h e z hz

theorem OpS.weak {P : Program} {o : Oper} {ρ ρ' : Operand → Option AV} {rd up : List (Nat × AObj)} {v : AV} (h : OpS P o ρ' rd up v) (hw : ∀ x y', ρ' x = some y' → ∃ y, ρ x = some y ∧ Wv y y') : OpS P o ρ rd up v :=
  fun C a next Q hI hρ hrd hup hk => h C a next Q hI (fun x hx y' hy => let ⟨y, h1, h2⟩ := hw x y' hy; Wv.rd y y' _ h2 (hρ x hx y h1)) hrd hup hk
theorem WE.ev {E E' : List (Nat × AV)} (h : WE E E') : ∀ x y', evE E' x = some y' → ∃ y, evE E x = some y ∧ Wv y y'
  | .tmp t, y', q => h t y' q
  | .const v, y', q => ⟨y', q, Wv.refl y'⟩
  | .func f, y', q => ⟨y', q, Wv.refl y'⟩
  | .global _, y', q => by cases q

theorem ResA.weak {P : Program} {fn : Func} {s : St} {x y : AV} (h : ResA P fn s x) (hw : Wv x y) : ResA P fn s y := fun C a hr =>
  let ⟨u, h1, h2⟩ := h C a hr; ⟨u, h1, Wv.rd x y u hw h2⟩
theorem RetQ.w {P : Program} {T : TI} (hT : T.Good P) {fn : Func} {e : Exit} {rs : List ResultVar} {n : Nat} {E : List (Nat × AV)} {H : List (Nat × AObj)} {xs : List AV} {res : AV} (he : e = .normal ∨ e = .ret) (hr : fn.results.toList = rs) (h : resL T E H rs = some xs) (hw : Wv (tupA xs) res) (hp : pureA res = true) :
    RetQ P fn res e (mkS n E H) := ⟨he, res, (ResA.of hT hr h).weak hw, by rw [fz_pure _ _ hp]; exact Wk.refl res⟩

section
variable {P : Program} {T : TI} (hT : T.Good P) {ops : Array Oper} {M : Nat → Mk} {o : Oper} {rest : List Oper} {i n : Nat} [nc : NC M i] {E : List (Nat × AV)} {H : List (Nat × AObj)} {Q : St → Prop}
include hT
theorem AL.cw {d : Nat} (hd : o.dst = some d) (hn : Nat.blt d n = true) (hg : gdec ops (lk E) o = some true) {cf : Operand} {args : Array Operand} {tys : Array TypeId} (ho : o.op = .call { callee := .value cf, args := args, argTypes := tys }) {f : FuncId} {first caps : List AV}
    (hf : evE E cf = some (.func f first caps)) (hc : gt T.fns f = some true) {ags : List AV} (ha : listA (evE E) args.toList = some ags) {xs : List AV} {res : AV} (h : ACall P f xs res) (hx : WvL (first ++ ags ++ caps) xs) (hp : pureL xs = true)
    (k : AL P ops M rest (i + 1) (mkS n ((d, res) :: E) H) Q) : AL P ops M (o :: rest) i (mkS n E H) Q := by
  have hS : OpS P o (evE E) [] [] res := by
    intro C a next Q hI hρ hrd hup hk
    obtain ⟨m1, m2⟩ := mem_call ho
    have q := hρ cf m1 _ hf
    simp only [Rd] at q
    obtain ⟨vs, us, q0, q1, q2⟩ := q
    have qa := listA_rd (C := C) (a := a) ha (fun x hx => hρ x (m2 x hx))
    unfold Oper.wp
    rw [run_call (C := C) ho q0 (hT.fns hc), Oper.upon_enter]
    have hall : RdL (Pu C.ok C.w) xs (vs ++ args.map a.eval ++ us).toList := by
      refine pureL_in hp (WvL.rd _ _ _ hx ?_)
      simp only [Array.toList_append, Array.toList_map]
      exact (q1.append qa).append q2
    refine (h.2 C.ok C.w _ hall).mono fun e w' hr => ?_
    obtain ⟨v, rfl, hv, hb⟩ := hr
    obtain ⟨hI', hle⟩ := hI.moved hb
    exact hk { C with w := w' } v hI' hle rfl rfl rfl (fun id u h => ⟨u, h⟩) (by simp) (pure_out hI hb h.1 hv)
  exact AL.val hT hd hn hg hS k

theorem AL.gcw {d : Nat} (hd : o.dst = some d) (hn : Nat.blt d n = true) {c : Bool} (hg : gdec ops (lk E) o = some c) {f : FuncId} {args : Array Operand} {tys : Array TypeId} (ho : o.op = .call { callee := .value (.func f), args := args, argTypes := tys })
    (hc : gt T.fns f = some true) {aw : List AV} (hc2 : aw = aw) (ha : c = true → listA (evE E) args.toList = some aw) {xs : List AV} {res : AV} (h : ACall P f xs res) (hx : WvL aw xs) (hp : pureL xs = true)
    (k : AL P ops M rest (i + 1) (mkS n ((d, bif c then res else .tup []) :: E) H) Q) : AL P ops M (o :: rest) i (mkS n E H) Q := by
  cases c
  · exact AL.sk hT hd hn hg k
  · exact AL.cw hT hd hn hg ho (first := []) (caps := []) rfl hc (ha rfl) h (by simpa using hx) hp k
theorem AL.aw {d : Nat} (hd : o.dst = some d) (hn : Nat.blt d n = true) (hg : gdec ops (lk E) o = some true) {ty : TypeId} {s : Operand} {t : Tmp} (ho : o.op = .call { callee := .builtin .append, args := #[s, .tmp t], argTypes := #[ty, ty] }) {e sz : Nat} (he : gt T.elm ty = some (e, sz + 1)) {z : List AV} (hz : gt T.zr e = some z) (hzl : Nat.beq z.length (sz + 1) = true) {by_ : Nat} (hby : gt T.byt e = some by_)
    {id : Nat} {tagx : Tag} {rows news0 news : List (List AV)} (hs : evE E s = some (.sl (.own id) (sz + 1) rows)) (hst : s ≠ .tmp t) (hx : lk E t = some (.sl tagx (sz + 1) news0)) (hH : lk H id = some (.row e (sz + 1) rows.length)) (hm : (M i).b = true) (hne : news ≠ []) (hw : WvR news0 news) (hb : (rows.length + news.length) * by_ ≤ 140737488355328) (hb2 : rows.length + news.length ≤ 9223372036854775807)
    (k : AL P ops M rest (i + 1) (mkS n ((d, (.sl (.own id) (sz + 1) (rows ++ news))) :: E) ((id, .row e (sz + 1) (rows.length + news.length)) :: H)) Q) : AL P ops M (o :: rest) i (mkS n E H) Q := by
  have hE : WE E ((t, .sl tagx (sz + 1) news) :: E) := (WE.refl E).put t hx ⟨.inl rfl, hw, .inl rfl⟩
  have hs' : evE ((t, .sl tagx (sz + 1) news) :: E) s = some (.sl (.own id) (sz + 1) rows) := by
    cases s with
    | tmp u => 
      show lk ((t, _) :: E) u = _
      rw [lk_cons, upd_ne _ _ (fun q => hst (by rw [q]))]
      exact hs
    | const v => exact hs
    | func f => exact hs
    | global g => exact hs
  have hx' : evE ((t, .sl tagx (sz + 1) news) :: E) (.tmp t) = some (.sl tagx (sz + 1) news) := by
    show lk ((t, _) :: E) t = _
    rw [lk_cons, upd_same]
  refine AL.op (dOk1 hd hn) hg (rd := [(id, .row e (sz + 1) rows.length)]) (up := [(id, .row e (sz + 1) (rows.length + news.length))]) (v := .sl (.own id) (sz + 1) (rows ++ news)) ⟨by rw [ev_lk]; exact (OpS.append ho (hT.elm he) (Nat.succ_pos _) (hT.zr hz) (Nat.eq_of_beq_eq_true hzl) (hT.byt hby) hs' hx' hne hb hb2).weak hE.ev, fun p hp => ?_, fun p hp => ?_, .inl hm, NC.no⟩ ?_
  · simp only [List.mem_singleton] at hp; subst hp; exact hH
  · simp only [List.mem_singleton] at hp; subst hp; exact .inl ⟨_, List.mem_singleton.2 rfl⟩
  · unfold St.step
    rw [hd, lk_pt, updL_lk]
    exact k

theorem AL.gv {d : Nat} (hd : o.dst = some d) (hn : Nat.blt d n = true) {c : Bool} (hg : gdec ops (lk E) o = some c) {v : AV} {rd : List (Nat × AObj)} (hv : c = true → aval T (lk H) (evE E) o.op = some (v, rd))
    (k : AL P ops M rest (i + 1) (mkS n ((d, bif c then v else .tup []) :: E) H) Q) : AL P ops M (o :: rest) i (mkS n E H) Q := by
  cases c
  · exact AL.sk hT hd hn hg k
  · exact AL.v hT hd hn hg (hv rfl) k
theorem AL.gvb {d : Nat} (hd : o.dst = some d) (hn : Nat.blt d n = true) {c : Bool} (hg : gdec ops (lk E) o = some c) {r : Bool} {rd : List (Nat × AObj)} (hv : c = true → aval T (lk H) (evE E) o.op = some (.bool r, rd))
    (k : ∀ q, q = r → AL P ops M rest (i + 1) (mkS n ((d, bif c then .bool q else .tup []) :: E) H) Q) : AL P ops M (o :: rest) i (mkS n E H) Q :=
  AL.gv hT hd hn hg hv (k r rfl)
theorem AL.vb {d : Nat} (hd : o.dst = some d) (hn : Nat.blt d n = true) (hg : gdec ops (lk E) o = some true) {b : Bool} {rd : List (Nat × AObj)} (hv : aval T (lk H) (evE E) o.op = some (.bool b, rd))
    (k : ∀ c, c = b → AL P ops M rest (i + 1) (mkS n ((d, .bool c) :: E) H) Q) : AL P ops M (o :: rest) i (mkS n E H) Q :=
  AL.v hT hd hn hg hv (k b rfl)
end
/-! ### less is kept of a state -/
def WvO : AObj → AObj → Prop
  | .box t c, .box t' c' => t = t' ∧ WvL c c'
  | .row e s n, .row e' s' n' => e = e' ∧ s = s' ∧ n = n'
  | .arr e s v r, .arr e' s' v' r' => e = e' ∧ s = s' ∧ v = v' ∧ WvR r r'
  | _, _ => False
theorem WvO.row {o : AObj} {e sz n : Nat} (h : WvO (.row e sz n) o) : o = .row e sz n := by
  cases o with
  | box t c => simp [WvO] at h
  | row e' s' n' => obtain ⟨rfl, rfl, rfl⟩ := h; rfl
  | arr _ _ _ _ => simp [WvO] at h
theorem WvO.arr {o : AObj} {e sz ver : Nat} {rows : List (List AV)} (h : WvO (.arr e sz ver rows) o) : ∃ rows', o = .arr e sz ver rows' ∧ WvR rows rows' := by
  cases o with
  | box t c => simp [WvO] at h
  | row e' s' n' => simp [WvO] at h
  | arr e' s' v' r' => obtain ⟨rfl, rfl, rfl, h⟩ := h; exact ⟨_, rfl, h⟩
theorem WvR.flat : ∀ {xs ys : List (List AV)}, WvR xs ys → WvL xs.flatten ys.flatten
  | [], [], _ => trivial
  | [], _ :: _, h => by simp [WvR] at h
  | _ :: _, [], h => by simp [WvR] at h
  | x :: xs, y :: ys, h => by
    simp only [WvR] at h
    simp only [List.flatten_cons]
    exact WvL.app h.1 (WvR.flat h.2)
where
  WvL.app : ∀ {a b c d : List AV}, WvL a b → WvL c d → WvL (a ++ c) (b ++ d)
    | [], [], _, _, _, k => by simpa using k
    | [], _ :: _, _, _, h, _ => by simp [WvL] at h
    | _ :: _, [], _, _, h, _ => by simp [WvL] at h
    | x :: a, y :: b, _, _, h, k => by simp only [WvL, List.cons_append] at h ⊢; exact ⟨h.1, WvL.app h.2 k⟩
theorem WvR.len : ∀ {xs ys : List (List AV)} {sz : Nat}, WvR xs ys → (∀ r ∈ xs, r.length = sz) → ∀ r ∈ ys, r.length = sz
  | [], [], _, _, h => h
  | [], _ :: _, _, h, _ => by simp [WvR] at h
  | _ :: _, [], _, h, _ => by simp [WvR] at h
  | x :: xs, y :: ys, sz, h, k => fun r hr => by
    simp only [WvR] at h
    rcases List.mem_cons.1 hr with rfl | hr
    · rw [← h.1.length]; exact k x (by simp)
    · exact WvR.len h.2 (fun r hr => k r (by simp [hr])) r hr
theorem WvO.refl : ∀ o : AObj, WvO o o
  | .box _ c => ⟨rfl, WvL.refl c⟩
  | .row _ _ _ => ⟨rfl, rfl, rfl⟩
  | .arr _ _ _ r => ⟨rfl, rfl, rfl, WvR.refl r⟩

theorem AW.weakW {P : Program} {S : Nat → Bool} {Q : Exit → St → Prop} {c : Code} {s : St} (s' : St) (hn : s'.n = s.n) (he : ∀ d y, s'.env d = some y → ∃ x, s.env d = some x ∧ Wv x y)
    (hH : ∀ id, (s.H id = none ∧ s'.H id = none) ∨ ∃ o o', s.H id = some o ∧ s'.H id = some o' ∧ WvO o o') (h : AW P S c Q s') : AW P S c Q s := fun C a hr => by
  let C' : Cx := { C with H := s'.H }
  have hf : ∀ id e sz n, C.H id = some (.row e sz n) → C'.H id = some (.row e sz n) := fun id e sz n q => by
    rw [hr.H] at q
    rcases hH id with ⟨h1, _⟩ | ⟨o, o', h1, h2, h3⟩
    · rw [h1] at q; cases q
    · rw [h1] at q; injection q with q; subst q; rw [h3.row] at h2; exact h2
  have hok : ∀ b j, C.ok b j → C'.ok b j := fun b j k => ⟨k.1, fun id v q1 q2 => let ⟨e, sz, n, k3, k4⟩ := k.2 id v q1 q2; ⟨e, sz, n, hf _ _ _ _ k3, k4⟩⟩
  have htag : ∀ id n v, TagP C id n v → TagP C' id n v := fun id n v ⟨e, sz, m, t1, t2, t3⟩ => ⟨e, sz, m, hf _ _ _ _ t1, t2, t3⟩
  have harr : ∀ id n z v, ArrP C id n z v → ArrP C' id n z v := fun id n z v ⟨sh, e, sz, m, rs, t1, t2, t3⟩ => by
    rw [hr.H] at t1
    rcases hH id with ⟨h1, _⟩ | ⟨o, o', h1, h2, h3⟩
    · rw [h1] at t1; cases t1
    · rw [h1] at t1; injection t1 with t1; subst t1
      obtain ⟨rs', rfl, h4⟩ := h3.arr
      exact ⟨sh, e, sz, m, rs', h2, t2, by rw [← h4.length]; exact t3⟩
  have hl : Le0 C C' (fun _ => true) := ⟨fun b j u k1 k2 => ⟨hok b j k1, k2⟩, fun id _ b q => q, fun id _ => htag id, fun id _ => harr id⟩
  have hls : LeS S C C' := ⟨fun b j u k1 k2 => ⟨hok b j k1, k2⟩, fun id _ b q => q, fun id _ => htag id, fun id _ => harr id, Nat.le_refl _, fun b _ q => ⟨rfl, q⟩⟩
  have hI : Inv C' := by
    refine ⟨hr.inv.below, fun id v q => ?_, hr.inv.apart, hr.inv.fresh, hr.inv.okG⟩
    obtain ⟨o, k3, k4⟩ := hr.inv.obj id v q
    rw [hr.H] at k3
    rcases hH id with ⟨h1, _⟩ | ⟨o1, o', h1, h2, h3⟩
    · rw [h1] at k3; cases k3
    · rw [h1] at k3; injection k3 with k3; subst k3
      refine ⟨o', h2, ?_⟩
      cases o1 with
      | row e sz n => rw [h3.row]; exact k4
      | arr e sz ver rows =>
        obtain ⟨rs', rfl, h4⟩ := h3.arr
        obtain ⟨q1, q2, xs, q3, q4, q5⟩ := k4
        exact ⟨q1, h4.len q2, xs, by rw [← h4.length]; exact q3, WvL.rd _ _ _ h4.flat (RdL.mono hl _ _ (inL_true _) q4), q5⟩
      | box t cells =>
        cases o' with
        | row e sz n => simp [WvO] at h3
        | arr e sz ver rows => simp [WvO] at h3
        | box t' cells' =>
          obtain ⟨rfl, h3⟩ := h3
          obtain ⟨b, cs, q1, q2, q3, q4, q5⟩ := k4
          exact ⟨b, cs, q1, q2, q3, WvL.rd _ _ _ h3 (RdL.mono hl _ _ (inL_true _) q4), q5⟩
  have hr' : Rel C' s' a := by
    refine ⟨hI, rfl, fun id o q => ?_, fun d y q => ?_, by rw [hr.size, hn], hr.defers⟩
    · rcases hH id with ⟨_, h2⟩ | ⟨o1, o', h1, h2, h3⟩
      · rw [h2] at q; cases q
      · exact hr.real id o1 h1
    · obtain ⟨x, k1, k2⟩ := he d y q
      exact Wv.rd _ _ _ k2 (Rd.mono hl _ _ (inA_true _) (hr.env d x k1))
  exact wp_mono (h C' a hr') (fun e a w h => Lift.later h rfl rfl hls)

def TrimsW (S : Nat → Bool) (E : List (Nat × AV)) (H : List (Nat × AObj)) (E' : List (Nat × AV)) (H' : List (Nat × AObj)) : Prop :=
  (∀ id, S id = true → idsIn H' id = true) ∧ (∀ p ∈ E', (∃ x, lk E p.1 = some x ∧ Wv x p.2) ∧ inA (idsIn H') p.2 = true) ∧ (∀ p ∈ H', (∃ o, lk H p.1 = some o ∧ WvO o p.2) ∧ inO (idsIn H') p.2 = true)

theorem lk_mem {β : Type} : ∀ {l : List (Nat × β)} {k : Nat} {b : β}, lk l k = some b → (k, b) ∈ l
  | [], _, _, h => by cases h
  | (a, c) :: r, k, b, h => by
    simp only [lk] at h
    cases hq : Nat.beq k a with
    | true => rw [hq] at h; simp only [cond_true] at h; injection h with h; subst h; have := Nat.eq_of_beq_eq_true hq; subst this; simp
    | false => rw [hq] at h; simp only [cond_false] at h; simp [lk_mem h]
theorem lk_some {β : Type} : ∀ {l : List (Nat × β)} {k : Nat} {b : β}, (k, b) ∈ l → ∃ b', lk l k = some b'
  | [], _, _, h => by cases h
  | (a, c) :: r, k, b, h => by
    simp only [lk]
    cases hq : Nat.beq k a with
    | true => exact ⟨c, rfl⟩
    | false =>
      rcases List.mem_cons.1 h with h | h
      · injection h with h1 h2; subst h1; simp at hq
      · simpa using lk_some h

theorem AW.trimW {P : Program} {S : Nat → Bool} {Q : Exit → St → Prop} {c : Code} {n : Nat} {E : List (Nat × AV)} {H : List (Nat × AObj)} {E' : List (Nat × AV)} {H' : List (Nat × AObj)} (h : TrimsW S E H E' H') (k : AW P S c Q (mkS n E' H')) : AW P S c Q (mkS n E H) := by
  obtain ⟨hS, hE, hH⟩ := h
  refine AW.weakW ⟨n, lk E', fun id => match lk H' id with | some o => some o | none => lk H id⟩ rfl (fun d y q => (hE _ (lk_mem q)).1) (fun id => ?_) ?_
  · show (lk H id = none ∧ (match lk H' id with | some o => some o | none => lk H id) = none) ∨ ∃ o o', lk H id = some o ∧ (match lk H' id with | some o => some o | none => lk H id) = some o' ∧ WvO o o'
    cases q : lk H' id with
    | none =>
      cases q2 : lk H id with
      | none => exact .inl ⟨rfl, rfl⟩
      | some o => exact .inr ⟨o, o, rfl, rfl, WvO.refl o⟩
    | some o' => obtain ⟨o, k1, k2⟩ := (hH _ (lk_mem q)).1; exact .inr ⟨o, o', k1, rfl, k2⟩
  · refine AW.forget (mkS n E' H') (idsIn H') hS rfl (fun d v q => ⟨q, (hE _ (lk_mem q)).2⟩) (fun id => ?_) (fun id o q => (hH _ (lk_mem q)).2) k
    show lk H' id = if idsIn H' id = true then (match lk H' id with | some o => some o | none => lk H id) else none
    cases hq : idsIn H' id with
    | true =>
      obtain ⟨o, ho⟩ := idsIn_iff.1 hq
      obtain ⟨o', ho'⟩ := lk_some ho
      rw [if_pos rfl, ho']
    | false =>
      rw [if_neg (by simp)]
      cases hl : lk H' id with
      | none => rfl
      | some o => have := idsIn_iff.2 ⟨o, lk_mem hl⟩; rw [hq] at this; cases this

theorem AW.lpw {P : Program} {S : Nat → Bool} {Q : Exit → St → Prop} {c : Code} {n : Nat} {E : List (Nat × AV)} {H : List (Nat × AObj)} {α : Type} (E' : α → List (Nat × AV)) (H' : α → List (Nat × AObj)) (φ : α → Prop) (μ : α → Nat) (x0 : α)
    (h0 : TrimsW S E H (E' x0) (H' x0)) (hφ : φ x0)
    (round : ∀ x, φ x → AW P S c (AThen (fun s' => ∃ y E2 H2, s' = mkS n E2 H2 ∧ TrimsW S E2 H2 (E' y) (H' y) ∧ φ y ∧ μ y < μ x) Q) (mkS n (E' x) (H' x))) : AW P S (.loop c) Q (mkS n E H) := by
  refine AW.loop (fun x s => ∃ E2 H2, s = mkS n E2 H2 ∧ TrimsW S E2 H2 (E' x) (H' x) ∧ φ x) μ x0 ⟨E, H, rfl, h0, hφ⟩ ?_
  rintro x s ⟨E2, H2, rfl, ht, hx⟩
  refine AW.trimW ht ?_
  refine AW.mono (round x hx) ?_
  rintro e s h
  cases e with
  | normal =>
    obtain ⟨y, E3, H3, h1, h2, h3, h4⟩ := h
    exact ⟨y, ⟨E3, H3, h1, h2, h3⟩, h4⟩
  | _ => exact h

/-! ### lengths -/
mutual
def Lens : AV → Prop
  | .sl _ _ rows => rows.length ≤ 9223372036854775807
  | .agg l => LensL l
  | .tup l => LensL l
  | .ep l => LensL l
  | _ => True
def LensL : List AV → Prop
  | [] => True
  | x :: xs => Lens x ∧ LensL xs
end
mutual
theorem Lens.of {C : Cx} : ∀ (x : AV) (v : Value), Rd C x v → Lens x
  | .sl _ _ _, v, h => by simp only [Rd] at h; obtain ⟨_, _, _, _, q, _⟩ := h; exact q
  | .agg l, v, h => by simp only [Rd] at h; obtain ⟨vs, _, q, _⟩ := h; exact LensL.of l _ q
  | .tup l, v, h => by simp only [Rd] at h; obtain ⟨vs, _, q⟩ := h; exact LensL.of l _ q
  | .ep l, v, h => by simp only [Rd] at h; obtain ⟨b, off, _, q⟩ := h; exact LensL.ofC l b off q
  | .int _ _, _, _ => trivial
  | .bool _, _, _ => trivial
  | .str _, _, _ => trivial
  | .undef, _, _ => trivial
  | .nilp, _, _ => trivial
  | .nilf, _, _ => trivial
  | .ptr _ _, _, _ => trivial
  | .mv _ _ _, _, _ => trivial
  | .func _ _ _, _, _ => trivial
theorem LensL.of {C : Cx} : ∀ (x : List AV) (v : List Value), RdL C x v → LensL x
  | [], _, _ => trivial
  | _ :: _, [], h => by simp [RdL] at h
  | x :: xs, v :: vs, h => by simp only [RdL] at h; exact ⟨Lens.of x v h.1, LensL.of xs vs h.2⟩
theorem LensL.ofC {C : Cx} : ∀ (x : List AV) (b off : Nat), RdC C x b off → LensL x
  | [], _, _, _ => trivial
  | x :: xs, b, off, h => by simp only [RdC] at h; obtain ⟨_, ⟨u, _, _, q⟩, h⟩ := h; exact ⟨Lens.of x u q, LensL.ofC xs b (off + 1) h⟩
end
theorem AW.lens {P : Program} {S : Nat → Bool} {Q : Exit → St → Prop} {c : Code} {n : Nat} {E : List (Nat × AV)} {H : List (Nat × AObj)} (d : Nat) {x : AV} (hd : lk E d = some x) (h : Lens x → AW P S c Q (mkS n E H)) : AW P S c Q (mkS n E H) := fun C a hr =>
  h (Lens.of _ _ (hr.env d _ hd)) C a hr
theorem AW.lensB {P : Program} {S : Nat → Bool} {Q : Exit → St → Prop} {c : Code} {n : Nat} {E : List (Nat × AV)} {H : List (Nat × AObj)} (id : Nat) {t : TypeId} {cells : List AV} (hd : lk H id = some (.box t cells)) (h : LensL cells → AW P S c Q (mkS n E H)) : AW P S c Q (mkS n E H) := fun C a hr => by
  obtain ⟨v, hv⟩ := hr.real id _ hd
  obtain ⟨o, k1, k2⟩ := hr.inv.obj id v hv
  have k1 : lk H id = some o := by have := k1; rw [hr.H] at this; exact this
  rw [hd] at k1
  injection k1 with k1
  subst k1
  obtain ⟨b, cs, _, _, _, q, _⟩ := k2
  exact h (LensL.of _ _ q) C a hr
theorem wnx {k m : Nat} (h : decide ((k : Int) < (m : Int)) = true) (hm : m ≤ 9223372036854775807) : Wv (.int .i64 (IntKind.i64.wrap ((k : Int) + 1))) (.int .i64 ((k + 1 : Nat) : Int)) := by
  have h := of_decide_eq_true h
  show AV.int .i64 _ = AV.int .i64 _
  rw [wrap64 (by omega) (by omega)]
  rfl

def sbOp (op : BinOp) (s t : ByteArray) : Option Bool :=
  match op with
  | .eql => some (s.data.toList == t.data.toList)
  | .neq => some (s.data.toList != t.data.toList)
  | .lss => some (Op.bytesLess s.data.toList t.data.toList)
  | .leq => some (Op.bytesLess s.data.toList t.data.toList || s.data.toList == t.data.toList)
  | .gtr => some (!(Op.bytesLess s.data.toList t.data.toList || s.data.toList == t.data.toList))
  | .geq => some (!(Op.bytesLess s.data.toList t.data.toList))
  | _ => none

/-! ### what is told of a definition's result -/
theorem cnd_t {α : Type} {c : Bool} {a b : Option α} {r : α} (h : c = true) (hr : (bif c then a else b) = some r) : a = some r := by rw [h] at hr; exact hr
theorem cnd_f {α : Type} {c : Bool} {a b : Option α} {r : α} (h : c = false) (hr : (bif c then a else b) = some r) : b = some r := by rw [h] at hr; exact hr
theorem bneT {α : Type} [BEq α] {a b : α} (h : (a != b) = true) : (a == b) = false := by simpa [bne] using h
theorem bneF {α : Type} [BEq α] {a b : α} (h : (a != b) = false) : (a == b) = true := by simpa [bne] using h
theorem bnd1 {α β : Type} {x : Option α} {f : α → Option β} {r : β} (h : x.bind f = some r) : ∃ a, x = some a ∧ f a = some r := Option.bind_eq_some_iff.1 h
theorem grd {α : Type} {p : Prop} [Decidable p] {a : Option α} {r : α} (h : (if p then a else none) = some r) : p ∧ a = some r := by
  split at h
  · rename_i q; exact ⟨q, h⟩
  · cases h
theorem avq_quo {T : TI} {ty : TypeId} {k : IntKind} {a b : Int} (h : b ≠ 0) : (match (some (AV.int k a) : Option AV), (some (AV.int k b) : Option AV) with | some x, some y => (abin T .quo ty x y).map (fun z => (z, ([] : List (Nat × AObj)))) | _, _ => none) = some (AV.int k (k.wrap (a.tdiv b)), []) := by
  simp [abin, h]
theorem idsIn_sub {rd H' : List (Nat × AObj)} (h : rd.all (fun p => idsIn H' p.1) = true) : ∀ id, idsIn rd id = true → idsIn H' id = true := fun id q => by
  obtain ⟨o, ho⟩ := idsIn_iff.1 q
  exact List.all_eq_true.1 h _ ho
theorem avq_rem {T : TI} {ty : TypeId} {k : IntKind} {a b : Int} (h : b ≠ 0) : (match (some (AV.int k a) : Option AV), (some (AV.int k b) : Option AV) with | some x, some y => (abin T .rem ty x y).map (fun z => (z, ([] : List (Nat × AObj)))) | _, _ => none) = some (AV.int k (a.tmod b), []) := by
  simp [abin, h]

section
variable {P : Program} {T : TI} (hT : T.Good P) {ops : Array Oper} {M : Nat → Mk} {o : Oper} {rest : List Oper} {i n : Nat} [nc : NC M i] {E : List (Nat × AV)} {H : List (Nat × AObj)} {Q : St → Prop}
include hT
theorem AL.st2 (hd : o.dst = none) (hg : gdec ops (lk E) o = some true) {ty : TypeId} {x y : Operand} (ho : o.op = .store ty x y) {id off : Nat} (hx : evE E x = some (.ptr id off)) {v : AV} (hy : evE E y = some v) {l : List AV} (hl : cellsA v = some l)
    {g : Bool} {m : Nat} (hlay : gt T.lay ty = some (g, m)) (hlm : Nat.beq l.length m = true) {t : TypeId} {cells : List AV} (hH : lk H id = some (.box t cells)) (hb : Nat.ble (off + l.length) cells.length = true) (hm : (M i).b = true) {c2 : List AV} (hc : spl cells off l = c2)
    (k : AL P ops M rest (i + 1) (mkS n (E) ((id, .box t c2) :: H)) Q) : AL P ops M (o :: rest) i (mkS n E H) Q :=
  AL.st hT hd hg ho hx hy hl hlay hlm hH hb hm (by rw [hc]; exact k)
theorem AL.sx {d : Nat} (hd : o.dst = some d) (hn : Nat.blt d n = true) (hg : gdec ops (lk E) o = some true) {ty : TypeId} {x j : Operand} (ho : o.op = .index ty x j) (hs : gt T.srt ty = some .string) {s : ByteArray} (hx : evE E x = some (.str s)) {k0 : IntKind} {m : Int} (hj : evE E j = some (.int k0 m)) (h0 : 0 ≤ m) {b : UInt8} (hb : s.data[m.toNat]? = some b)
    (k : AL P ops M rest (i + 1) (mkS n ((d, .int .u8 (b.toNat : Int)) :: E) H) Q) : AL P ops M (o :: rest) i (mkS n E H) Q := by
  refine AL.v hT hd hn hg (rd := []) ?_ k
  rw [ho]
  simp only [aval, hs, hx, hj]
  rw [if_pos h0, hb]
theorem AL.sb {d : Nat} (hd : o.dst = some d) (hn : Nat.blt d n = true) (hg : gdec ops (lk E) o = some true) {op : BinOp} {ty yT : TypeId} {x y : Operand} (ho : o.op = .binOp op ty x y yT) {s t : ByteArray} (hx : evE E x = some (.str s)) (hy : evE E y = some (.str t)) {b : Bool}
    (hb : sbOp op s t = some b)
    (k : AL P ops M rest (i + 1) (mkS n ((d, .bool b) :: E) H) Q) : AL P ops M (o :: rest) i (mkS n E H) Q := by
  refine AL.v hT hd hn hg (rd := []) ?_ k
  rw [ho]
  simp only [aval, hx, hy]
  cases op <;> simp only [sbOp, Option.some.injEq] at hb <;> first | (cases hb; done) | (subst hb; simp only [abin, ByteArray.toList_eq]; rfl)
theorem AL.cat {d : Nat} (hd : o.dst = some d) (hn : Nat.blt d n = true) (hg : gdec ops (lk E) o = some true) {ty yT : TypeId} {x y : Operand} (ho : o.op = .binOp .add ty x y yT) {s t : ByteArray} (hx : evE E x = some (.str s)) (hy : evE E y = some (.str t)) (hl : s.size + t.size ≤ 1000000)
    (k : AL P ops M rest (i + 1) (mkS n ((d, .str (s ++ t)) :: E) H) Q) : AL P ops M (o :: rest) i (mkS n E H) Q := by
  refine AL.v hT hd hn hg (rd := []) ?_ k
  rw [ho]
  simp only [aval, hx, hy, abin]
  rw [if_pos (by omega)]
  rfl
theorem AL.ln {d : Nat} (hd : o.dst = some d) (hn : Nat.blt d n = true) (hg : gdec ops (lk E) o = some true) {x : Operand} {ty e : TypeId} (ho : o.op = .call { callee := .builtin .len, args := #[x], argTypes := #[ty] }) (hs : gt T.srt ty = some (.slice e)) {tag : Tag} {sz m : Nat} {rows : List (List AV)} (hx : evE E x = some (.sl tag sz rows)) (hm : rows.length = m)
    (k : AL P ops M rest (i + 1) (mkS n ((d, .int .i64 (m : Int)) :: E) H) Q) : AL P ops M (o :: rest) i (mkS n E H) Q := by
  refine AL.v hT hd hn hg (rd := []) ?_ k
  rw [ho]
  simp only [aval, hs, hx, hm]
theorem AL.gln {d : Nat} (hd : o.dst = some d) (hn : Nat.blt d n = true) {c : Bool} (hg : gdec ops (lk E) o = some c) {x : Operand} {ty e : TypeId} (ho : o.op = .call { callee := .builtin .len, args := #[x], argTypes := #[ty] }) (hs : gt T.srt ty = some (.slice e)) {tag : Tag} {sz m : Nat} {rows : List (List AV)} (hx : c = true → evE E x = some (.sl tag sz rows)) (hm : rows.length = m)
    (k : AL P ops M rest (i + 1) (mkS n ((d, bif c then .int .i64 (m : Int) else .tup []) :: E) H) Q) : AL P ops M (o :: rest) i (mkS n E H) Q := by
  refine AL.gv hT hd hn hg (rd := []) (fun h => ?_) k
  rw [ho]
  simp only [aval, hs, hx h, hm]
theorem AL.gsb {d : Nat} (hd : o.dst = some d) (hn : Nat.blt d n = true) {c : Bool} (hg : gdec ops (lk E) o = some c) {op : BinOp} {ty yT : TypeId} {x y : Operand} (ho : o.op = .binOp op ty x y yT) {s t : ByteArray} (hx : c = true → evE E x = some (.str s)) (hy : c = true → evE E y = some (.str t)) {b : Bool}
    (hb : sbOp op s t = some b)
    (k : AL P ops M rest (i + 1) (mkS n ((d, bif c then .bool b else .tup []) :: E) H) Q) : AL P ops M (o :: rest) i (mkS n E H) Q := by
  refine AL.gv hT hd hn hg (rd := []) (fun h => ?_) k
  rw [ho]
  simp only [aval, hx h, hy h]
  cases op <;> simp only [sbOp, Option.some.injEq] at hb <;> first | (cases hb; done) | (subst hb; simp only [abin, ByteArray.toList_eq]; rfl)
theorem AL.aw2 {d : Nat} (hd : o.dst = some d) (hn : Nat.blt d n = true) (hg : gdec ops (lk E) o = some true) {ty : TypeId} {s : Operand} {t : Tmp} (ho : o.op = .call { callee := .builtin .append, args := #[s, .tmp t], argTypes := #[ty, ty] }) {e sz : Nat} (he : gt T.elm ty = some (e, sz + 1)) {z : List AV} (hz : gt T.zr e = some z) (hzl : Nat.beq z.length (sz + 1) = true) {by_ : Nat} (hby : gt T.byt e = some by_)
    {id : Nat} {tagx : Tag} {rows news0 news rows2 : List (List AV)} (hs : evE E s = some (.sl (.own id) (sz + 1) rows)) (hst : s ≠ .tmp t) (hx : lk E t = some (.sl tagx (sz + 1) news0)) (hH : lk H id = some (.row e (sz + 1) rows.length)) (hm : (M i).b = true) (hw : WvR news0 news) (hr : rows ++ news = rows2) (hl : rows2.length ≤ 1000000) (hb : Nat.ble by_ 1000000 = true)
    (k : AL P ops M rest (i + 1) (mkS n ((d, (.sl (.own id) (sz + 1) rows2)) :: E) ((id, .row e (sz + 1) rows2.length) :: H)) Q) : AL P ops M (o :: rest) i (mkS n E H) Q := by
  subst hr
  rw [List.length_append] at hl k
  by_cases hne : news = []
  · subst hne
    have h0 : news0 = [] := List.eq_nil_of_length_eq_zero (by simpa using hw.length)
    subst h0
    simp only [List.append_nil, List.length_nil, Nat.add_zero] at k
    refine AL.app0 hT hd hn hg ho he hs (szx := sz + 1) (tagx := tagx) hx ?_
    have key : mkS n ((d, .sl (.own id) (sz + 1) rows) :: E) ((id, .row e (sz + 1) rows.length) :: H) = mkS n ((d, .sl (.own id) (sz + 1) rows) :: E) H := by
      unfold mkS
      congr 1
      rw [lk_cons]
      funext j
      simp only [upd]
      split
      · rename_i q; rw [q, hH]
      · rfl
    rw [← key]
    exact k
  · exact AL.aw hT hd hn hg ho he hz hzl hby hs hst hx hH hm hne hw (by
      have h1 := Nat.le_of_ble_eq_true hb
      have h2 : (rows.length + news.length) * by_ ≤ 1000000 * 1000000 := Nat.mul_le_mul hl h1
      omega) (by omega) k
end
end Go.Proofs.YtbcjcekoonebiaaGreat.Tl

set_option linter.unusedVariables false
set_option linter.unusedSimpArgs false
set_option linter.unusedSectionVars false
namespace Go.Proofs.YtbcjcekoonebiaaGreat.Tl
open Go Go.RowKit
def NilO (sz : Nat) (o : AObj) : Prop := ∃ e, o = .row e sz 0 ∨ o = .arr e sz 0 []
theorem adopt_o {C : Cx} (hI : Inv C) (id sz : Nat) (o : AObj) (ho : NilO sz o) (hsz : 0 < sz) (hH : C.H id = none) :
    Inv { C with H := upd C.H id o, G := upd C.G id (.slice none 0 0) } ∧ Le C { C with H := upd C.H id o, G := upd C.G id (.slice none 0 0) } := by
  have hG : C.G id = none := by
    cases q : C.G id with
    | none => rfl
    | some v => obtain ⟨o, h1, _⟩ := hI.obj id v q; rw [hH] at h1; cases h1
  let C' : Cx := { C with H := upd C.H id o, G := upd C.G id (.slice none 0 0) }
  have hne : ∀ id', id' ≠ id → C'.H id' = C.H id' ∧ C'.G id' = C.G id' := fun id' q => ⟨upd_ne _ _ q, upd_ne _ _ q⟩
  have hGi : C'.G id = some (.slice none 0 0) := upd_same _ _ _
  have hHi : C'.H id = some o := upd_same _ _ _
  have hblk : ∀ id' v b, C'.G id' = some v → blk v = some b → id' ≠ id ∧ C.G id' = some v := fun id' v b q1 q2 => by
    by_cases q : id' = id
    · subst q
      rw [hGi] at q1
      injection q1 with q1
      subst q1
      cases q2
    · exact ⟨q, by rw [← (hne id' q).2]; exact q1⟩
  have hle : Le C C' := by
    refine ⟨fun b j u h1 h2 => ⟨⟨h1.1, fun id' v q1 q2 => ?_⟩, h2⟩, fun id' b q => ?_, fun id' m v q => ?_, fun id' m z v q => ?_, Nat.le_refl _, fun b hb q => ⟨rfl, fun id' v q1 q2 => ?_⟩⟩
    · obtain ⟨k1, k2⟩ := hblk id' v b q1 q2
      rw [(hne id' k1).1]
      exact h1.2 id' v k2 q2
    · have k : id' ≠ id := fun k => by subst k; rw [hG] at q; cases q
      rw [(hne id' k).2]; exact q
    · obtain ⟨e1, sz1, m1, t1, t2, t3⟩ := q
      have k : id' ≠ id := fun k => by subst k; rw [hH] at t1; cases t1
      exact ⟨e1, sz1, m1, by rw [(hne id' k).1]; exact t1, t2, fun z => by rw [(hne id' k).2]; exact t3 z⟩
    · obtain ⟨sh, e1, sz1, m1, rs, t1, t2, t3⟩ := q
      have k : id' ≠ id := fun k => by subst k; rw [hH] at t1; cases t1
      exact ⟨sh, e1, sz1, m1, rs, by rw [(hne id' k).1]; exact t1, t2, fun z => by rw [(hne id' k).2]; exact t3 z⟩
    · obtain ⟨k1, k2⟩ := hblk id' v b q1 q2
      exact q id' v k2 q2
  refine ⟨⟨hI.below, fun id' v q => ?_, fun id1 id2 v1 v2 b q1 q2 q3 q4 => hI.apart id1 id2 v1 v2 b (hblk _ _ _ q1 q3).2 (hblk _ _ _ q2 q4).2 q3 q4, hI.fresh, fun id' v b q1 q2 => hI.okG id' v b (hblk _ _ _ q1 q2).2 q2⟩, hle⟩
  by_cases k : id' = id
  · subst k
    rw [hGi] at q
    injection q with q
    subst q
    refine ⟨_, hHi, ?_⟩
    rcases ho with ⟨e, rfl | rfl⟩
    · exact ⟨hsz, [], World.ownsRow_nil _ _ _ _⟩
    · exact ⟨hsz, by simp, [], World.ownsRow_nil _ _ _ _, by simp [RdL], by simp⟩
  · rw [(hne id' k).2] at q
    obtain ⟨o, k1, k2⟩ := hI.obj id' v q
    exact ⟨o, by rw [(hne id' k).1]; exact k1, Held.kept hle rfl k2 fun _ _ => rfl⟩

theorem adopt_cx {C : Cx} (hI : Inv C) (id sz : Nat) (e : TypeId) (hsz : 0 < sz) (hH : C.H id = none) :
    Inv { C with H := upd C.H id (.row e sz 0), G := upd C.G id (.slice none 0 0) } ∧ Le C { C with H := upd C.H id (.row e sz 0), G := upd C.G id (.slice none 0 0) } := adopt_o hI id sz _ ⟨e, .inl rfl⟩ hsz hH
theorem RdL.set {C : Cx} : ∀ {xs : List AV} {vs : List Value} (j : Nat) (y : AV), RdL C xs vs → (∀ v, vs[j]? = some v → Rd C y v) → RdL C (xs.set j y) vs
  | [], [], _, _, h, _ => h
  | [], _ :: _, _, _, h, _ => by simp [RdL] at h
  | _ :: _, [], _, _, h, _ => by simp [RdL] at h
  | x :: xs, v :: vs, 0, y, h, k => by simp only [List.set_cons_zero, RdL] at h ⊢; exact ⟨k v (by simp), h.2⟩
  | x :: xs, v :: vs, j + 1, y, h, k => by simp only [List.set_cons_succ, RdL] at h ⊢; exact ⟨h.1, RdL.set j y h.2 (fun u hu => k u (by simpa using hu))⟩

theorem retell {C : Cx} (hI : Inv C) {id : Nat} {t : TypeId} {cells cells' : List AV} (hH : C.H id = some (.box t cells)) (hc : ∀ vs, RdL C cells vs → RdL C cells' vs) :
    Inv { C with H := upd C.H id (.box t cells') } ∧ Le C { C with H := upd C.H id (.box t cells') } := by
  let C' : Cx := { C with H := upd C.H id (.box t cells') }
  have hne : ∀ id', id' ≠ id → C'.H id' = C.H id' := fun id' q => upd_ne _ _ q
  have hf : ∀ id' e sz n, C.H id' = some (.row e sz n) → C'.H id' = some (.row e sz n) := fun id' e sz n q => by
    have k : id' ≠ id := fun k => by subst k; rw [hH] at q; cases q
    rw [hne id' k]; exact q
  have hfa : ∀ id' e sz ver rows, C.H id' = some (.arr e sz ver rows) → C'.H id' = some (.arr e sz ver rows) := fun id' e sz ver rows q => by
    have k : id' ≠ id := fun k => by subst k; rw [hH] at q; cases q
    rw [hne id' k]; exact q
  have hle : Le C C' := ⟨fun b j u k k2 => ⟨⟨k.1, fun id v q1 q2 => let ⟨e, sz, n, k3, k4⟩ := k.2 id v q1 q2; ⟨e, sz, n, hf _ _ _ _ k3, k4⟩⟩, k2⟩, fun _ _ h => h, fun id n v ⟨e, sz, m, t1, t2, t3⟩ => ⟨e, sz, m, hf _ _ _ _ t1, t2, t3⟩, fun id n z v ⟨sh, e, sz, m, rs, t1, t2, t3⟩ => ⟨sh, e, sz, m, rs, hfa _ _ _ _ _ t1, t2, t3⟩, Nat.le_refl _, fun b _ h => ⟨rfl, h⟩⟩
  refine ⟨⟨hI.below, fun id' v q => ?_, hI.apart, hI.fresh, hI.okG⟩, hle⟩
  obtain ⟨o, k1, k2⟩ := hI.obj id' v q
  by_cases k : id' = id
  · subst k
    rw [hH] at k1
    injection k1 with k1
    subst k1
    obtain ⟨b, cs, q1, q2, q3, q4, q5⟩ := k2
    exact ⟨.box t cells', upd_same _ _ _, b, cs, q1, q2, q3, (hc _ q4).le hle, q5⟩
  · exact ⟨o, by rw [hne id' k]; exact k1, Held.kept hle rfl k2 fun _ _ => rfl⟩

theorem AW.adoptB {P : Program} {S : Nat → Bool} {Q : Exit → St → Prop} {c : Code} {n : Nat} {E : List (Nat × AV)} {H : List (Nat × AObj)} (id : Nat) {t : TypeId} {cells : List AV} (hb : lk H id = some (.box t cells)) (j : Nat) {s0 : Nat} (hj : cells[j]? = some (.sl .nil s0 [])) (id2 sz : Nat) (e : TypeId) (hsz : Nat.blt 0 sz = true) (hid : lk H id2 = none)
    (h : AW P S c Q (mkS n E ((id, .box t (cells.set j (.sl (.own id2) sz []))) :: (id2, .row e sz 0) :: H))) : AW P S c Q (mkS n E H) := fun C a hr => by
  have hsz : 0 < sz := Nat.le_of_ble_eq_true hsz
  have hH : C.H id2 = none := by rw [hr.H]; exact hid
  have hne : id ≠ id2 := fun q => by subst q; rw [hb] at hid; cases hid
  obtain ⟨hI1, hle1⟩ := adopt_cx hr.inv id2 sz e hsz hH
  let C1 : Cx := { C with H := upd C.H id2 (.row e sz 0), G := upd C.G id2 (.slice none 0 0) }
  have hb1 : C1.H id = some (.box t cells) := by
    show upd C.H id2 _ id = _
    rw [upd_ne _ _ hne, hr.H]; exact hb
  obtain ⟨hI2, hle2⟩ := retell hI1 (cells' := cells.set j (.sl (.own id2) sz [])) hb1 (fun vs hv => hv.set j _ (fun v q => by
    obtain ⟨u, q1, q2⟩ := hv.get hj
    rw [q] at q1
    injection q1 with q1
    subst q1
    simp only [Rd] at q2 ⊢
    obtain ⟨A, cp, e0, h1, h2, _, h4⟩ := q2
    rw [h4]
    exact ⟨none, 0, rfl, Nat.le_refl _, by simp, .inl trivial, e, sz, 0, upd_same _ _ _, Nat.le_refl _, fun _ => upd_same _ _ _⟩))
  let C2 : Cx := { C1 with H := upd C1.H id (.box t (cells.set j (.sl (.own id2) sz []))) }
  have hle : Le C C2 := hle1.trans hle2
  have hI2 : Inv C2 := hI2
  refine wp_mono (h C2 a ⟨hI2, ?_, fun id' o q => ?_, fun d v q => (hr.env d v q).le hle, hr.size, hr.defers⟩) (fun e a w z => Lift.later z rfl rfl (hle.leS S))
  · show upd (upd C.H id2 _) id _ = lk _
    rw [lk_cons, lk_cons, hr.H]
  · have q : lk ((id, _) :: (id2, _) :: H) id' = some o := q
    rw [lk_cons, lk_cons] at q
    by_cases k : id' = id2
    · subst k; exact ⟨_, upd_same _ _ _⟩
    · have : ∃ o', lk H id' = some o' := by
        by_cases k2 : id' = id
        · subst k2; exact ⟨_, hb⟩
        · rw [upd_ne _ _ k2, upd_ne _ _ k] at q; exact ⟨o, q⟩
      obtain ⟨o', ho⟩ := this
      obtain ⟨u, hu⟩ := hr.real id' o' ho
      exact ⟨u, by show upd C.G id2 _ id' = _; rw [upd_ne _ _ k]; exact hu⟩


theorem AW.adoptM {P : Program} {S : Nat → Bool} {Q : Exit → St → Prop} {c : Code} {n : Nat} {E : List (Nat × AV)} {H : List (Nat × AObj)} (id : Nat) {t : TypeId} {cells : List AV} (hb : lk H id = some (.box t cells)) (j : Nat) {s0 : Nat} (hj : cells[j]? = some (.sl .nil s0 [])) (id2 sz : Nat) (e : TypeId) (hsz : Nat.blt 0 sz = true) (hid : lk H id2 = none)
    (h : AW P S c Q (mkS n E ((id, .box t (cells.set j (.mv id2 0 .hdr))) :: (id2, .arr e sz 0 []) :: H))) : AW P S c Q (mkS n E H) := fun C a hr => by
  have hsz : 0 < sz := Nat.le_of_ble_eq_true hsz
  have hH : C.H id2 = none := by rw [hr.H]; exact hid
  have hne : id ≠ id2 := fun q => by subst q; rw [hb] at hid; cases hid
  obtain ⟨hI1, hle1⟩ := adopt_o hr.inv id2 sz (.arr e sz 0 []) ⟨e, .inr rfl⟩ hsz hH
  let C1 : Cx := { C with H := upd C.H id2 (.arr e sz 0 []), G := upd C.G id2 (.slice none 0 0) }
  have hb1 : C1.H id = some (.box t cells) := by
    show upd C.H id2 _ id = _
    rw [upd_ne _ _ hne, hr.H]; exact hb
  obtain ⟨hI2, hle2⟩ := retell hI1 (cells' := cells.set j (.mv id2 0 .hdr)) hb1 (fun vs hv => hv.set j _ (fun v q => by
    obtain ⟨u, q1, q2⟩ := hv.get hj
    rw [q] at q1
    injection q1 with q1
    subst q1
    simp only [Rd] at q2 ⊢
    obtain ⟨A, cp, e0, h1, h2, _, h4⟩ := q2
    rw [h4]
    exact ⟨⟨none, 0, 0, rfl⟩, e, sz, 0, [], upd_same _ _ _, Nat.le_refl _, fun _ => ⟨_, upd_same _ _ _, rfl⟩⟩))
  let C2 : Cx := { C1 with H := upd C1.H id (.box t (cells.set j (.mv id2 0 .hdr))) }
  have hle : Le C C2 := hle1.trans hle2
  have hI2 : Inv C2 := hI2
  refine wp_mono (h C2 a ⟨hI2, ?_, fun id' o q => ?_, fun d v q => (hr.env d v q).le hle, hr.size, hr.defers⟩) (fun e a w z => Lift.later z rfl rfl (hle.leS S))
  · show upd (upd C.H id2 _) id _ = lk _
    rw [lk_cons, lk_cons, hr.H]
  · have q : lk ((id, _) :: (id2, _) :: H) id' = some o := q
    rw [lk_cons, lk_cons] at q
    by_cases k : id' = id2
    · subst k; exact ⟨_, upd_same _ _ _⟩
    · have : ∃ o', lk H id' = some o' := by
        by_cases k2 : id' = id
        · subst k2; exact ⟨_, hb⟩
        · rw [upd_ne _ _ k2, upd_ne _ _ k] at q; exact ⟨o, q⟩
      obtain ⟨o', ho⟩ := this
      obtain ⟨u, hu⟩ := hr.real id' o' ho
      exact ⟨u, by show upd C.G id2 _ id' = _; rw [upd_ne _ _ k]; exact hu⟩

end Go.Proofs.YtbcjcekoonebiaaGreat.Tl

set_option linter.unusedVariables false
set_option linter.unusedSimpArgs false
set_option linter.unusedSectionVars false
namespace Go.Proofs.YtbcjcekoonebiaaGreat.Tl
open Go Go.RowKit
theorem updL_rev (H : List (Nat × AObj)) : ∀ l : List (Nat × AObj), updL (lk H) l = lk (l.reverse ++ H) := by
  intro l
  induction l generalizing H with
  | nil => rfl
  | cons p r ih =>
    simp only [updL]
    rw [← lk_cons, ih]
    simp
theorem none_lk : (fun _ => none : Nat → Option AObj) = lk [] := rfl

theorem ACallH.go {P : Program} {f : FuncId} {fn : Func} {c : Code} {args : List AV} {res : AV} {rd up : List (Nat × AObj)} {n : Nat} (E : List (Nat × AV)) (H : List (Nat × AObj)) (hf : P.funcs[f]? = some fn) (hb : fn.body = some c) (hn : fn.ntmps = n) (hE : (List.range args.length).zip args = E) (hH : rd.reverse = H) (hl : Nat.ble args.length n = true)
    (ha : inL (idsIn rd) args = true) (hrd : ∀ p ∈ rd, inO (idsIn rd) p.2 = true) (hu : ∀ p ∈ up, idsIn rd p.1 = true ∧ inO (idsIn rd) p.2 = true) (hr : inA (idsIn rd) res = true)
    (h : AW P (idsIn rd) c (RetH P fn res rd up) (mkS n E H)) : ACallH P f args rd up res := by
  subst hn hE hH
  refine ACallH.body hf hb (Nat.le_of_ble_eq_true hl) ha hrd hu hr ?_
  rw [argE_lk, none_lk, updL_rev, List.append_nil]
  exact h
theorem RetH.w {P : Program} {T : TI} (hT : T.Good P) {fn : Func} {e : Exit} {rs : List ResultVar} {n : Nat} {E : List (Nat × AV)} {H : List (Nat × AObj)} {xs : List AV} {res : AV} {rd up : List (Nat × AObj)} (he : e = .normal ∨ e = .ret) (hr : fn.results.toList = rs) (h : resL T E H rs = some xs) (hw : Wv (tupA xs) res)
    (ho : ∀ p ∈ rd, lk H p.1 = updL (updL (fun _ => none) rd) up p.1) : RetH P fn res rd up e (mkS n E H) := ⟨he, ⟨_, ResA.of hT hr h, fun C v q => Wv.rd _ _ v hw q⟩, ho⟩

def AdL (id sz : Nat) : List AV → List AV → Prop
  | [], [] => True
  | x :: xs, y :: ys => (Wv x y ∨ ((∃ s0, x = .sl .nil s0 []) ∧ y = .sl (.own id) sz [])) ∧ AdL id sz xs ys
  | _, _ => False
theorem AdL.rd {C C' : Cx} (l : Le C C') {id sz : Nat} {e : TypeId} (hH : C'.H id = some (.row e sz 0)) (hG : C'.G id = some (.slice none 0 0)) : ∀ (xs ys : List AV) (vs : List Value), AdL id sz xs ys → RdL C xs vs → RdL C' ys vs
  | [], [], _, _, hr => by cases ‹List Value› <;> simp_all [RdL]
  | [], _ :: _, _, h, _ => by simp [AdL] at h
  | _ :: _, [], _, h, _ => by simp [AdL] at h
  | _ :: _, _ :: _, [], _, hr => by simp [RdL] at hr
  | x :: xs, y :: ys, v :: vs, h, hr => by
    simp only [AdL, RdL] at h hr ⊢
    refine ⟨?_, AdL.rd l hH hG xs ys vs h.2 hr.2⟩
    rcases h.1 with h1 | ⟨⟨s0, rfl⟩, rfl⟩
    · exact Wv.rd _ _ _ h1 (hr.1.le l)
    · have q2 := hr.1
      simp only [Rd] at q2 ⊢
      obtain ⟨A, cp, e0, h1, h2, _, h4⟩ := q2
      rw [h4]
      exact ⟨none, 0, rfl, Nat.le_refl _, by simp, .inl trivial, e, sz, 0, hH, Nat.le_refl _, fun _ => hG⟩

theorem clW_op {P : Program} {T : TI} (hT : T.Good P) {o : Oper} {E : List (Nat × AV)} {cf : Operand} {args : Array Operand} {tys : Array TypeId} (ho : o.op = .call { callee := .value cf, args := args, argTypes := tys }) {f : FuncId} {first caps : List AV}
    (hf : evE E cf = some (.func f first caps)) (hc : gt T.fns f = some true) {aw : List AV} (ha : listA (evE E) args.toList = some aw) {xs : List AV} {rd up : List (Nat × AObj)} {res : AV} (h : ACallH P f xs rd up res) (hx : WvL (first ++ aw ++ caps) xs) (hur : ∀ p ∈ up, ∃ ob, (p.1, ob) ∈ rd) : OpS P o (evE E) rd up res := by
  intro C a next Q hI hρ hrd hup hk
  obtain ⟨m1, m2⟩ := mem_call ho
  have q := hρ cf m1 _ hf
  simp only [Rd] at q
  obtain ⟨vs, us, q0, q1, q2⟩ := q
  have qa := listA_rd (C := C) (a := a) ha (fun x hx => hρ x (m2 x hx))
  unfold Oper.wp
  rw [run_call (C := C) ho q0 (hT.fns hc), Oper.upon_enter]
  have hall : RdL C xs (vs ++ args.map a.eval ++ us).toList := by
    refine WvL.rd _ _ _ hx ?_
    simp only [Array.toList_append, Array.toList_map]
    exact (q1.append qa).append q2
  refine (h C _ hI hrd hall).mono fun e w' hr => ?_
  obtain ⟨v, C', rfl, rfl, hI', hle, e0, e1, e2, hG, hv⟩ := hr
  refine hk C' v hI' hle e0 e1 e2 hG (fun p hp => ?_) hv
  obtain ⟨ob, hob⟩ := hur p hp
  obtain ⟨_, u, hu⟩ := hrd _ hob
  exact hG _ u hu

section
variable {P : Program} {T : TI} (hT : T.Good P) {ops : Array Oper} {M : Nat → Mk} {o : Oper} {rest : List Oper} {i n : Nat} [nc : NC M i] {E : List (Nat × AV)} {H : List (Nat × AObj)} {Q : St → Prop}
include hT
theorem AL.clW {d : Nat} (hd : o.dst = some d) (hn : Nat.blt d n = true) (hg : gdec ops (lk E) o = some true) {cf : Operand} {args : Array Operand} {tys : Array TypeId} (ho : o.op = .call { callee := .value cf, args := args, argTypes := tys }) {f : FuncId} {first caps : List AV}
    (hf : evE E cf = some (.func f first caps)) (hc : gt T.fns f = some true) {aw : List AV} (ha : listA (evE E) args.toList = some aw) {xs : List AV} {rd up : List (Nat × AObj)} {res : AV} (h : ACallH P f xs rd up res) (hx : WvL (first ++ aw ++ caps) xs) (hrd : ∀ p ∈ rd, lk H p.1 = some p.2) (hur : ∀ p ∈ up, ∃ ob, (p.1, ob) ∈ rd) (hm : (M i).b = true)
    {H2 : List (Nat × AObj)} (hH2 : up.reverse ++ H = H2) (k : AL P ops M rest (i + 1) (mkS n ((d, res) :: E) H2) Q) : AL P ops M (o :: rest) i (mkS n E H) Q := by
  have hS : OpS P o (evE E) rd up res := clW_op hT ho hf hc ha h hx hur
  refine AL.op (dOk1 hd hn) hg (rd := rd) (up := up) (v := res) ⟨by rw [ev_lk]; exact hS, hrd, fun p hp => .inl (hur p hp), .inl hm, NC.no⟩ ?_
  unfold St.step
  rw [hd, lk_pt, updL_rev, hH2]
  exact k

end
def ColN (M : Nat → Mk) (i : Nat) (H : Nat → Option AObj) (rd up : List (Nat × AObj)) : Prop :=
  ∀ l, (M i).c = some l → l.lk = none ∧ (∀ p ∈ rd, p.1 ∈ l.ids) ∧ (∀ p ∈ up, p.1 ∈ l.ids) ∧ ∀ q ∈ l.kp, cellsAt (updL H up) q = cellsAt H q
theorem ColN.no {M : Nat → Mk} {i : Nat} [nc : NC M i] {H : Nat → Option AObj} {rd up : List (Nat × AObj)} : ColN M i H rd up := NC.no
theorem ColN.mk {M : Nat → Mk} {i : Nat} {H : Nat → Option AObj} {rd up : List (Nat × AObj)} {l : Col} (hl : (M i).c = some l) (h0 : l.lk = none) (h1 : ∀ p ∈ rd, p.1 ∈ l.ids) (h2 : ∀ p ∈ up, p.1 ∈ l.ids) (h3 : ∀ q ∈ l.kp, cellsAt (updL H up) q = cellsAt H q) : ColN M i H rd up := fun l' q => by
  rw [hl] at q; injection q with q; subst q; exact ⟨h0, h1, h2, h3⟩
theorem ColN.col {P : Program} {M : Nat → Mk} {i : Nat} {o : Oper} {s : St} {rd up : List (Nat × AObj)} {v : AV} (h : ColN M i s.H rd up) :
    ∀ l, (M i).c = some l → (∀ p ∈ rd, p.1 ∈ l.ids) ∧ (∀ p ∈ up, p.1 ∈ l.ids) ∧
    (∀ q, l.lk = some q → up = [] ∧ (∃ p ∈ rd, p.1 = q.1) ∧ ∀ H', cellsAt H' q = cellsAt s.H q → ∃ rd', rd'.map (·.1) = rd.map (·.1) ∧ OpS P o s.ev rd' [] v ∧ ∀ p ∈ rd', H' p.1 = some p.2) ∧
    (∀ q ∈ l.kp, cellsAt (updL s.H up) q = cellsAt s.H q) := fun l hl => by
  obtain ⟨h0, h1, h2, h3⟩ := h l hl
  exact ⟨h1, h2, (fun q hq => by rw [h0] at hq; cases hq), h3⟩

theorem AL.clWc {P : Program} {T : TI} (hT : T.Good P) {ops : Array Oper} {M : Nat → Mk} {o : Oper} {rest : List Oper} {i n : Nat} {E : List (Nat × AV)} {H : List (Nat × AObj)} {Q : St → Prop} {d : Nat} (hd : o.dst = some d) (hn : Nat.blt d n = true) (hg : gdec ops (lk E) o = some true) {cf : Operand} {args : Array Operand} {tys : Array TypeId} (ho : o.op = .call { callee := .value cf, args := args, argTypes := tys }) {f : FuncId} {first caps : List AV}
    (hf : evE E cf = some (.func f first caps)) (hc : gt T.fns f = some true) {aw : List AV} (ha : listA (evE E) args.toList = some aw) {xs : List AV} {rd up : List (Nat × AObj)} {res : AV} (h : ACallH P f xs rd up res) (hx : WvL (first ++ aw ++ caps) xs) (hrd : ∀ p ∈ rd, lk H p.1 = some p.2) (hur : ∀ p ∈ up, ∃ ob, (p.1, ob) ∈ rd) (hm : (M i).b = true)
    {H2 : List (Nat × AObj)} (hH2 : up.reverse ++ H = H2) (hcol : ColN M i (lk H) rd up) (k : AL P ops M rest (i + 1) (mkS n ((d, res) :: E) H2) Q) : AL P ops M (o :: rest) i (mkS n E H) Q := by
  have hS : OpS P o (evE E) rd up res := clW_op hT ho hf hc ha h hx hur
  refine AL.op (dOk1 hd hn) hg (rd := rd) (up := up) (v := res) ⟨by rw [ev_lk]; exact hS, hrd, fun p hp => .inl (hur p hp), .inl hm, hcol.col⟩ ?_
  unfold St.step
  rw [hd, lk_pt, updL_rev, hH2]
  exact k
theorem AL.vc {P : Program} {T : TI} (hT : T.Good P) {ops : Array Oper} {M : Nat → Mk} {o : Oper} {rest : List Oper} {i n : Nat} {E : List (Nat × AV)} {H : List (Nat × AObj)} {Q : St → Prop} {d : Nat} (hd : o.dst = some d) (hn : Nat.blt d n = true) (hg : gdec ops (lk E) o = some true) {v : AV} {rd : List (Nat × AObj)} (hv : aval T (lk H) (evE E) o.op = some (v, rd))
    {l : Col} (hl : (M i).c = some l) (h0 : l.lk = none) (hcol : ∀ p ∈ rd, p.1 ∈ l.ids) (k : AL P ops M rest (i + 1) (mkS n ((d, v) :: E) H) Q) : AL P ops M (o :: rest) i (mkS n E H) Q := by
  obtain ⟨h1, h2⟩ := aval_rd hv
  refine AL.op (dOk1 hd hn) hg (rd := rd) (up := []) (v := v) ⟨by rw [ev_lk]; exact aval_sound hT.toOk hv, h2, by simp, .inr ⟨by rw [ev_lk]; exact h1, .inl rfl⟩, (ColN.mk hl h0 hcol (by simp) (fun _ _ => rfl)).col⟩ ?_
  unfold St.step
  rw [hd, lk_pt]
  exact k

theorem AL.st2c {P : Program} {T : TI} (hT : T.Good P) {ops : Array Oper} {M : Nat → Mk} {o : Oper} {rest : List Oper} {i n : Nat} {E : List (Nat × AV)} {H : List (Nat × AObj)} {Q : St → Prop} (hd : o.dst = none) (hg : gdec ops (lk E) o = some true) {ty : TypeId} {x y : Operand} (ho : o.op = .store ty x y) {id off : Nat} (hx : evE E x = some (.ptr id off)) {v : AV} (hy : evE E y = some v) {l : List AV} (hl : cellsA v = some l)
    {g : Bool} {m : Nat} (hlay : gt T.lay ty = some (g, m)) (hlm : Nat.beq l.length m = true) {t : TypeId} {cells : List AV} (hH : lk H id = some (.box t cells)) (hb : Nat.ble (off + l.length) cells.length = true) (hm : (M i).b = true) {c2 : List AV} (hc : spl cells off l = c2) (hcl : (M i).c = some { ids := [id] })
    (k : AL P ops M rest (i + 1) (mkS n (E) ((id, .box t c2) :: H)) Q) : AL P ops M (o :: rest) i (mkS n E H) Q := by
  have e := Nat.eq_of_beq_eq_true hlm
  subst hc
  refine AL.op (fun d h => by rw [hd] at h; cases h) hg (rd := [(id, .box t cells)]) (up := [(id, .box t (spl cells off l))]) (v := .undef) ⟨by rw [ev_lk]; exact OpS.store ho hx hy hl (by rw [e]; exact hT.lay hlay) (Nat.le_of_ble_eq_true hb), fun p hp => ?_, fun p hp => ?_, .inl hm, (ColN.mk hcl rfl (by simp) (by simp) (fun _ h => by cases h)).col⟩ ?_
  · simp only [List.mem_singleton] at hp; subst hp; exact hH
  · simp only [List.mem_singleton] at hp; subst hp; exact .inl ⟨_, List.mem_singleton.2 rfl⟩
  · unfold St.step
    rw [hd, updL_lk]
    exact k

theorem AL.aw2c {P : Program} {T : TI} (hT : T.Good P) {ops : Array Oper} {M : Nat → Mk} {o : Oper} {rest : List Oper} {i n : Nat} {E : List (Nat × AV)} {H : List (Nat × AObj)} {Q : St → Prop} {d : Nat} (hd : o.dst = some d) (hn : Nat.blt d n = true) (hg : gdec ops (lk E) o = some true) {ty : TypeId} {s : Operand} {t : Tmp} (ho : o.op = .call { callee := .builtin .append, args := #[s, .tmp t], argTypes := #[ty, ty] }) {e sz : Nat} (he : gt T.elm ty = some (e, sz + 1)) {z : List AV} (hz : gt T.zr e = some z) (hzl : Nat.beq z.length (sz + 1) = true) {by_ : Nat} (hby : gt T.byt e = some by_)
    {id : Nat} {tagx : Tag} {rows news0 news rows2 : List (List AV)} (hs : evE E s = some (.sl (.own id) (sz + 1) rows)) (hst : s ≠ .tmp t) (hx : lk E t = some (.sl tagx (sz + 1) news0)) (hH : lk H id = some (.row e (sz + 1) rows.length)) (hm : (M i).b = true) (hcl : (M i).c = some { ids := [id] }) (hw : WvR news0 news) (hr : rows ++ news = rows2) (hl : rows2.length ≤ 1000000) (hb : Nat.ble by_ 1000000 = true)
    (k : AL P ops M rest (i + 1) (mkS n ((d, (.sl (.own id) (sz + 1) rows2)) :: E) ((id, .row e (sz + 1) rows2.length) :: H)) Q) : AL P ops M (o :: rest) i (mkS n E H) Q := by
  subst hr
  rw [List.length_append] at hl k
  by_cases hne : news = []
  · subst hne
    have h0 : news0 = [] := List.eq_nil_of_length_eq_zero (by simpa using hw.length)
    subst h0
    simp only [List.append_nil, List.length_nil, Nat.add_zero] at k
    have key : mkS n ((d, .sl (.own id) (sz + 1) rows) :: E) ((id, .row e (sz + 1) rows.length) :: H) = mkS n ((d, .sl (.own id) (sz + 1) rows) :: E) H := by
      unfold mkS
      congr 1
      rw [lk_cons]
      funext j
      simp only [upd]
      split
      · rename_i q; rw [q, hH]
      · rfl
    rw [key] at k
    refine AL.op (dOk1 hd hn) hg (rd := []) (up := []) (v := .sl (.own id) (sz + 1) rows) ⟨by rw [ev_lk]; exact OpS.append0 ho (hT.elm he) hs (by exact hx), by simp, by simp, .inl hm, (ColN.mk hcl rfl (by simp) (by simp) (fun _ h => by cases h)).col⟩ ?_
    unfold St.step
    rw [hd, lk_pt]
    exact k
  · have h1 := Nat.le_of_ble_eq_true hb
    have h2 : (rows.length + news.length) * by_ ≤ 1000000 * 1000000 := Nat.mul_le_mul hl h1
    have hE : WE E ((t, .sl tagx (sz + 1) news) :: E) := (WE.refl E).put t hx ⟨.inl rfl, hw, .inl rfl⟩
    have hs' : evE ((t, .sl tagx (sz + 1) news) :: E) s = some (.sl (.own id) (sz + 1) rows) := by
      cases s with
      | tmp u => 
        show lk ((t, _) :: E) u = _
        rw [lk_cons, upd_ne _ _ (fun q => hst (by rw [q]))]
        exact hs
      | const v => exact hs
      | func f => exact hs
      | global g => exact hs
    have hx' : evE ((t, .sl tagx (sz + 1) news) :: E) (.tmp t) = some (.sl tagx (sz + 1) news) := by
      show lk ((t, _) :: E) t = _
      rw [lk_cons, upd_same]
    refine AL.op (dOk1 hd hn) hg (rd := [(id, .row e (sz + 1) rows.length)]) (up := [(id, .row e (sz + 1) (rows.length + news.length))]) (v := .sl (.own id) (sz + 1) (rows ++ news)) ⟨by rw [ev_lk]; exact (OpS.append ho (hT.elm he) (Nat.succ_pos _) (hT.zr hz) (Nat.eq_of_beq_eq_true hzl) (hT.byt hby) hs' hx' hne (by omega) (by omega)).weak hE.ev, fun p hp => ?_, fun p hp => ?_, .inl hm, (ColN.mk hcl rfl (by simp) (by simp) (fun _ h => by cases h)).col⟩ ?_
    · simp only [List.mem_singleton] at hp; subst hp; exact hH
    · simp only [List.mem_singleton] at hp; subst hp; exact .inl ⟨_, List.mem_singleton.2 rfl⟩
    · unfold St.step
      rw [hd, lk_pt, updL_lk]
      exact k

section
variable {P : Program} {T : TI} (hT : T.Good P) {ops : Array Oper} {M : Nat → Mk} {o : Oper} {rest : List Oper} {i n : Nat} [nc : NC M i] {E : List (Nat × AV)} {H : List (Nat × AObj)} {Q : St → Prop}
include hT
end
end Go.Proofs.YtbcjcekoonebiaaGreat.Tl

set_option linter.unusedVariables false
set_option linter.unusedSimpArgs false
set_option linter.unusedSectionVars false
namespace Go.Proofs.YtbcjcekoonebiaaGreat.Tl
open Go Go.RowKit
theorem arr_at {C : Cx} (hI : Inv C) {id ver : Nat} {k : MK} {v : Value} {e : TypeId} {sz : Nat} {rows : List (List AV)} (h : Rd C (.mv id ver k) v) (hH : C.H id = some (.arr e sz ver rows)) :
    ∃ g, C.G id = some g ∧ Mat g sz rows.length k v ∧ 0 < sz ∧ (∀ r ∈ rows, r.length = sz) ∧ ∃ xs, C.w.ownsRow C.w0.heap.size e sz g rows.length xs ∧ RdL C rows.flatten xs ∧ ∀ u ∈ xs, u.oneCell' = true := by
  simp only [Rd] at h
  obtain ⟨_, e', sz', cur, rows', h1, h2, h3⟩ := h
  rw [hH] at h1
  injection h1 with h1
  injection h1 with a1 a2 a3 a4
  subst a1 a2 a3 a4
  obtain ⟨g, g1, g2⟩ := h3 rfl
  obtain ⟨o, k3, k4⟩ := hI.obj id _ g1
  rw [hH] at k3
  injection k3 with k3
  subst k3
  obtain ⟨z1, z2, xs, z3, z4, z5⟩ := k4
  exact ⟨g, g1, g2, z1, z2, xs, z3, z4, z5⟩
theorem own_shape {w : World} {base : Nat} {e : TypeId} {sz : Nat} {v : Value} {n : Nat} {xs : List Value} (h : w.ownsRow base e sz v n xs) : ∃ A c, v = .slice A n c ∧ n ≤ c ∧ (A = none → n = 0 ∧ c = 0) ∧ ∀ a, A = some a → ∃ b, a = ⟨b, 0, none⟩ := by
  rcases h.2 with ⟨rfl, rfl⟩ | ⟨g, cap, cur, rfl, h1, h2, h3, h4⟩
  · exact ⟨none, 0, rfl, Nat.le_refl _, fun _ => ⟨rfl, rfl⟩, by simp⟩
  · exact ⟨_, cap, rfl, h3, by simp, fun a q => by injection q with q; exact ⟨g, q.symm⟩⟩
theorem flat_take {sz : Nat} : ∀ {rows : List (List AV)} (k : Nat), (∀ r ∈ rows, r.length = sz) → (rows.take k).flatten = rows.flatten.take (k * sz)
  | [], k, _ => by simp
  | r :: rows, 0, h => by simp
  | r :: rows, k + 1, h => by
    have hr := h r (by simp)
    rw [List.take_succ_cons, List.flatten_cons, List.flatten_cons, flat_take k (fun x hx => h x (by simp [hx])), Nat.add_mul, Nat.one_mul, Nat.add_comm, ← hr, List.take_length_add_append]
theorem flat_drop {sz : Nat} : ∀ {rows : List (List AV)} (k : Nat), (∀ r ∈ rows, r.length = sz) → (rows.drop k).flatten = rows.flatten.drop (k * sz)
  | [], k, _ => by simp
  | r :: rows, 0, h => by simp
  | r :: rows, k + 1, h => by
    have hr := h r (by simp)
    rw [List.drop_succ_cons, List.flatten_cons, flat_drop k (fun x hx => h x (by simp [hx])), Nat.add_mul, Nat.one_mul, Nat.add_comm, ← hr, List.drop_length_add_append]
theorem flat_set {sz : Nat} : ∀ {rows : List (List AV)} {i : Nat} {r : List AV} (k : Nat) (l : List AV), (∀ r ∈ rows, r.length = sz) → rows[i]? = some r → k + l.length ≤ sz → (rows.set i (spl r k l)).flatten = spl rows.flatten (i * sz + k) l
  | [], i, r, k, l, _, hi, _ => by simp at hi
  | x :: rows, 0, r, k, l, h, hi, hk => by
    simp at hi
    subst hi
    have hr := h x (by simp)
    simp only [List.set_cons_zero, List.flatten_cons, spl, Nat.zero_mul, Nat.zero_add, List.append_assoc]
    rw [List.take_append_of_le_length (by omega), List.drop_append_of_le_length (by omega)]
  | x :: rows, i + 1, r, k, l, h, hi, hk => by
    simp at hi
    have hr := h x (by simp)
    have ih := flat_set k l (fun y hy => h y (by simp [hy])) hi hk
    simp only [List.set_cons_succ, List.flatten_cons]
    rw [ih]
    simp only [spl]
    rw [show (i + 1) * sz + k = x.length + (i * sz + k) by rw [Nat.add_mul, hr]; omega, List.take_length_add_append, show x.length + (i * sz + k) + l.length = x.length + (i * sz + k + l.length) by omega, List.drop_length_add_append, List.append_assoc]

section
variable {P : Program} {o : Oper} {ρ : Operand → Option AV} {id ver : Nat} {e : TypeId} {sz : Nat} {rows : List (List AV)}
theorem OpS.mlen {ty el : TypeId} {x : Operand} (ho : o.op = .call { callee := .builtin .len, args := #[x], argTypes := #[ty] }) (hs : sort0 P ty = .slice el) (hx : ρ x = some (.mv id ver .hdr)) : OpS P o ρ [(id, .arr e sz ver rows)] [] (.int .i64 rows.length) := by
  refine OpS.val fun C a hI hρ hrd => ?_
  have q := hρ x (by simp [ho, Op.operands, Call.operands]) _ hx
  obtain ⟨g, g1, g2, _, _, xs, g3, _⟩ := arr_at hI q (hrd (id, .arr e sz ver rows) (by simp)).1
  obtain ⟨A, c, rfl, _⟩ := own_shape g3
  simp only [Mat] at g2
  have e1 := sort0_slice hs
  refine ⟨.int .i64 rows.length, ?_, by simp [Rd]⟩
  unfold execOp
  simp [ho, resolve, invoke, builtin, g2, Builtin.len_, run_underlying e1, goInt]

theorem OpS.mview {ty el e2 : TypeId} {x lo : Operand} (ho : o.op = .slice ty x (some lo) none none) (hs : sort0 P ty = .slice el) (he : elm P ty = some (e2, sz)) (hx : ρ x = some (.mv id ver .hdr)) {k : IntKind} {l : Int} (hl : ρ lo = some (.int k l)) (h0 : 0 ≤ l) (h1 : l.toNat ≤ rows.length) :
    OpS P o ρ [(id, .arr e sz ver rows)] [] (.mv id ver (.view l.toNat (rows.length - l.toNat) false)) := by
  refine OpS.val fun C a hI hρ hrd => ?_
  have q := hρ x (by simp [ho, Op.operands]) _ hx
  have ql := hρ lo (by simp [ho, Op.operands]) _ hl
  have hH := (hrd (id, .arr e sz ver rows) (by simp)).1
  obtain ⟨g, g1, g2, _, _, xs, g3, _⟩ := arr_at hI q hH
  obtain ⟨A, c, rfl, hc, hA, hA2⟩ := own_shape g3
  simp only [Mat] at g2
  simp only [Rd] at ql
  obtain ⟨e1, inf, e2, e3⟩ := elm_spec he
  have n0 : ¬ (l < 0) := by omega
  have hsb : (Instr.sliceBounds true rows.length c (some (a.eval lo)) none none).run P C.w = .ok (l.toNat, rows.length, c) C.w := by
    have : l.toNat ≤ rows.length := h1
    simp [Instr.sliceBounds, Instr.sliceBound, asIntOf, ql, n0, this, show l ≤ (rows.length : Int) by omega]
  have key : (Instr.sliceAt ty (a.eval x) (some (a.eval lo)) none none).run P C.w = .ok (.slice (if c = l.toNat then A else A.map (·.add (l.toNat * sz))) (rows.length - l.toNat) (c - l.toNat)) C.w := by
    simp [Instr.sliceAt, run_underlying e1, Instr.slice, g2, hsb, sizeOf, typeInfo, e2, e3]
  refine ⟨_, by unfold execOp; simp only [ho, Option.map_none, Option.map_some, Sem.run_bind, key, Result.andThen_ok, Sem.run_pure]; rfl, ?_⟩
  simp only [Rd]
  refine ⟨⟨_, _, _, rfl, by simp⟩, e, sz, ver, rows, hH, Nat.le_refl _, fun _ => ⟨_, g1, by omega, _, _, rfl, by omega, ?_, fun q => ?_⟩⟩
  rotate_left
  · cases A with
    | none => have := (hA rfl).2; omega
    | some a' => split at q <;> simp at q
  by_cases hn : rows.length - l.toNat = 0
  · exact .inl hn
  · right
    cases A with
    | none => have := (hA rfl).1; omega
    | some a' =>
      obtain ⟨b, rfl⟩ := hA2 a' rfl
      refine ⟨b, c, rfl, ?_⟩
      rw [if_neg (by omega)]
      simp [add_plain']

theorem OpS.mcut {ty el e2 : TypeId} {x hi : Operand} (ho : o.op = .slice ty x none (some hi) none) (hs : sort0 P ty = .slice el) (he : elm P ty = some (e2, sz)) (hx : ρ x = some (.mv id ver .hdr)) {k : IntKind} {h : Int} (hh : ρ hi = some (.int k h)) (h0 : 0 ≤ h) (h1 : h.toNat ≤ rows.length) :
    OpS P o ρ [(id, .arr e sz ver rows)] [(id, .arr e sz (ver + 1) (rows.take h.toNat))] (.mv id (ver + 1) .hdr) := by
  intro C a next Q hI hρ hrd hup hk
  have q := hρ x (by simp [ho, Op.operands]) _ hx
  have qh := hρ hi (by simp [ho, Op.operands]) _ hh
  have hH := (hrd (id, .arr e sz ver rows) (by simp)).1
  simp only at hH
  obtain ⟨g, g1, g2, z1, z2, xs, g3, z4, z5⟩ := arr_at hI q hH
  obtain ⟨A, c, rfl, hc, hA, hA2⟩ := own_shape g3
  simp only [Mat] at g2
  simp only [Rd] at qh
  obtain ⟨e1, inf, e2, e3⟩ := elm_spec he
  have n0 : ¬ (h < 0) := by omega
  have hsb : (Instr.sliceBounds true rows.length c none (some (a.eval hi)) none).run P C.w = .ok (0, h.toNat, c) C.w := by
    simp [Instr.sliceBounds, Instr.sliceBound, asIntOf, qh, n0, show h ≤ (c : Int) by omega]
  have key : (Instr.sliceAt ty (a.eval x) none (some (a.eval hi)) none).run P C.w = .ok (.slice A h.toNat c) C.w := by
    have : (if c = 0 then A else A.map (·.add (0 * sz))) = A := by
      split
      · rfl
      · cases A with
        | none => rfl
        | some a' => obtain ⟨b, rfl⟩ := hA2 a' rfl; simp [add_plain']
    simp [Instr.sliceAt, run_underlying e1, Instr.slice, g2, hsb, sizeOf, typeInfo, e2, e3]
    cases A with
    | none => simp
    | some a' => obtain ⟨b, rfl⟩ := hA2 a' rfl; simp [add_plain']
  have hln : (rows.take h.toNat).length = h.toNat := by rw [List.length_take]; omega
  have hmul : h.toNat * sz ≤ rows.length * sz := Nat.mul_le_mul_right _ h1
  have hown : C.w.ownsRow C.w0.heap.size e sz (.slice A h.toNat c) (rows.take h.toNat).length (xs.take (h.toNat * sz)) := by
    rw [hln]
    refine ⟨by rw [List.length_take, g3.1]; omega, ?_⟩
    rcases g3.2 with ⟨k1, k2⟩ | ⟨g, cap, cur, k1, k2, k3, k4, k5, k6, k7⟩
    · injection k1 with k1 k3 k4
      subst k1 k4
      left
      exact ⟨by rw [show h.toNat = 0 by omega], by omega⟩
    · injection k1 with k1 _ k8
      subst k1 k8
      right
      refine ⟨g, c, cur, rfl, k2, k3, by omega, k5, k6, ?_⟩
      rw [← k7, List.take_take, Nat.min_eq_left hmul]
  have hrd2 : RdL C (rows.take h.toNat).flatten (xs.take (h.toNat * sz)) := by
    rw [flat_take _ z2]
    have := z4.extract 0 (h.toNat * sz)
    simpa using this
  have hn := hI.arrUp g1 hH (ver' := ver + 1) (rows' := rows.take h.toNat) (v2 := .slice A h.toNat c) (.inl (Nat.lt_succ_self _)) C.w (xs.take (h.toNat * sz)) hown (fun r hr => z2 r (List.mem_of_mem_take hr)) hrd2 (fun u hu => z5 u (List.mem_of_mem_take hu))
    ⟨rfl, rfl, rfl, Nat.le_refl _, fun _ _ _ => rfl⟩ (.inl (by cases A <;> rfl))
  have hrun : (execOp a.eval o).run P C.w = .ok (.value (.slice A h.toNat c)) C.w := by
    unfold execOp
    simp only [ho, Option.map_none, Option.map_some, Sem.run_bind, key, Result.andThen_ok, Sem.run_pure]
  unfold Oper.wp
  rw [hrun, Oper.upon_value]
  refine hk { C with H := upd C.H id (.arr e sz (ver + 1) (rows.take h.toNat)), G := upd C.G id (.slice A h.toNat c), w := C.w } _ hn.1 hn.2 rfl rfl rfl (fun id' u q => ?_) (fun p hp => ?_) ?_
  · by_cases e' : id' = id
    · subst e'; exact ⟨_, upd_same _ _ _⟩
    · exact ⟨u, by simpa only [upd_ne _ _ e'] using q⟩
  · simp only [List.mem_singleton] at hp
    subst hp
    exact ⟨_, upd_same _ _ _⟩
  · simp only [Rd]
    exact ⟨⟨_, _, _, rfl⟩, e, sz, ver + 1, _, upd_same _ _ _, Nat.le_refl _, fun _ => ⟨_, upd_same _ _ _, rfl⟩⟩

theorem OpS.mapp {t : TypeId} {s x : Operand} (ho : o.op = .call { callee := .builtin .append, args := #[s, x], argTypes := #[t, t] }) (he : elm P t = some (e, sz)) {z : List AV} (hz : zr P e = some z) (hzl : z.length = sz) {by_ : Nat} (hby : byt P e = some by_) {tagx : Tag} {news : List (List AV)}
    (hs : ρ s = some (.mv id ver .hdr)) (hx : ρ x = some (.sl tagx sz news)) (hne : news ≠ []) (hb : (rows.length + news.length) * by_ ≤ 140737488355328) (hb2 : rows.length + news.length ≤ 9223372036854775807) :
    OpS P o ρ [(id, .arr e sz ver rows)] [(id, .arr e sz (ver + 1) (rows ++ news))] (.mv id (ver + 1) .hdr) := by
  intro C a next Q hI hρ hrd hup hk
  obtain ⟨m1, m2⟩ := operands_append t t s x ho
  have q := hρ s m1 _ hs
  have q' := hρ x m2 _ hx
  obtain ⟨e1, i, e2, e3⟩ := elm_spec he
  obtain ⟨i', zv, f1, f2, f3, _⟩ := zr_spec hz
  rw [e2] at f1
  injection f1 with f1
  subst f1
  have hH := (hrd (id, .arr e sz ver rows) (by simp)).1
  simp only at hH
  obtain ⟨g, g1, g2, hsz, z2, xs, hown, z4, z5⟩ := arr_at hI q hH
  simp only [Mat] at g2
  subst g2
  obtain ⟨b, off, c, vs, p0, p1, p2, p3, p4, p5⟩ := sl_vals q' hne
  have hm : 0 < news.length := List.length_pos_iff.2 hne
  have hzs : zv.cells.size = sz := by
    have := (listV_rd (C := C) f3).1.length
    simp at this
    omega
  have hbi : i.bytes = by_ := by simpa [byt, e2] using hby
  obtain ⟨v', w', hr, h2, h3, h4⟩ := run_app (P := P) C.w C.w0.heap.size t o.type e i zv sz by_ e1 e2 f2 e3 hbi hzs hsz (a.eval s) rows.length xs hown ⟨b, off, none⟩ news.length c vs p3 p4 p2 hm (by simp only [maxLen]; omega) hb hI.below.size
  have hn := hI.arrUp g1 hH (ver' := ver + 1) (rows' := rows ++ news) (v2 := v') (.inl (Nat.lt_succ_self _)) w' (xs ++ vs) (by rw [List.length_append]; exact h2) (fun r hr => (List.mem_append.1 hr).elim (z2 r) (p5 r)) (by rw [List.flatten_append]; exact z4.append p1)
    (fun u hu => (List.mem_append.1 hu).elim (z5 u) (p2 u)) h3 (h4.imp (·.1) (·.1))
  have hrun : (execOp a.eval o).run P C.w = .ok (.value v') w' := by
    unfold execOp
    simp only [ho, resolve, invoke, builtin, Sem.run_bind, Sem.run_pure, Result.andThen_ok, List.map_toArray, List.map_cons, List.map_nil, p0, hr]
  unfold Oper.wp
  rw [hrun, Oper.upon_value]
  refine hk _ v' hn.1 hn.2 rfl rfl rfl (fun id' u q => ?_) (fun p hp => ?_) ?_
  · by_cases e' : id' = id
    · subst e'; exact ⟨_, upd_same _ _ _⟩
    · exact ⟨u, by simpa only [upd_ne _ _ e'] using q⟩
  · simp only [List.mem_singleton] at hp
    subst hp
    exact ⟨_, upd_same _ _ _⟩
  · simp only [Rd]
    obtain ⟨A, c', rfl, _⟩ := own_shape h2
    exact ⟨⟨_, _, _, rfl⟩, e, sz, ver + 1, _, upd_same _ _ _, Nat.le_refl _, fun _ => ⟨_, upd_same _ _ _, rfl⟩⟩

theorem OpS.midx {ty e2 : TypeId} {x i : Operand} (ho : o.op = .indexAddr ty x i) (he : elm P ty = some (e2, sz)) (hx : ρ x = some (.mv id ver .hdr)) {k : IntKind} {j : Int} (hi : ρ i = some (.int k j)) (h0 : 0 ≤ j) (h1 : j.toNat < rows.length) :
    OpS P o ρ [(id, .arr e sz ver rows)] [] (.mv id ver (.cell (j.toNat * sz))) := by
  refine OpS.val fun C a hI hρ hrd => ?_
  have q := hρ x (by simp [ho, Op.operands]) _ hx
  have qi := hρ i (by simp [ho, Op.operands]) _ hi
  have hH := (hrd (id, .arr e sz ver rows) (by simp)).1
  obtain ⟨g, g1, g2, hsz, _, xs, g3, _⟩ := arr_at hI q hH
  simp only [Mat] at g2
  simp only [Rd] at qi
  obtain ⟨e1, inf, e2, e3⟩ := elm_spec he
  rcases g3.2 with ⟨_, k2⟩ | ⟨b, cap, cur, rfl, k2⟩
  · omega
  · have hlt' : j < (rows.length : Int) := by omega
    refine ⟨.pointer (some ⟨b, j.toNat * sz, none⟩), ?_, ?_⟩
    · unfold execOp
      simp [ho, g2, qi, Instr.indexAt, asIntOf, run_underlying e1, h0, hlt', sizeOf, typeInfo, e2, e3, add_plain']
    · simp only [Rd]
      refine ⟨⟨_, rfl⟩, e, sz, ver, rows, hH, Nat.le_refl _, fun _ => ⟨_, g1, ?_, b, cap, rfl, rfl⟩⟩
      have : (j.toNat + 1) * sz ≤ rows.length * sz := Nat.mul_le_mul_right _ h1
      rw [Nat.add_mul] at this
      omega

theorem OpS.mstore {T : TypeId} {x y : Operand} (ho : o.op = .store T x y) {off : Nat} (hx : ρ x = some (.mv id ver (.cell off))) {v : AV} (hy : ρ y = some v) {l : List AV} (hl : cellsA v = some l) {g : Bool} (hlay : lay P T = some (g, l.length)) {rows' : List (List AV)} (hln : rows'.length = rows.length) (hrl : ∀ r ∈ rows', r.length = sz)
    (hf : rows'.flatten = spl rows.flatten off l) (hb : off + l.length ≤ rows.length * sz) : OpS P o ρ [(id, .arr e sz ver rows)] [(id, .arr e sz ver rows')] .undef := by
  intro C a next Q hI hρ hrd hup hk
  have q := hρ x (by simp [ho, Op.operands]) _ hx
  have q' := hρ y (by simp [ho, Op.operands]) _ hy
  have hH := (hrd (id, .arr e sz ver rows) (by simp)).1
  simp only at hH
  obtain ⟨gv, g1, g2, hsz, z2, xs, g3, z4, z5⟩ := arr_at hI q hH
  obtain ⟨_, b, c', rfl, q1⟩ := g2
  obtain ⟨m1, m2⟩ := cellsA_rd hl q'
  obtain ⟨inf, hi, hs, hag, hsz2⟩ := lay_spec hlay
  have hll := m1.length
  simp only [Array.length_toList] at hll
  rcases g3.2 with ⟨k1, _⟩ | ⟨b2, cap, cur, k1, k2, k3, k4, k5, k6, k7⟩
  · cases k1
  · injection k1 with k1 _ k8
    injection k1 with k1
    injection k1 with k1 _ _
    subst k1 k8
    have hcap : rows.length * sz ≤ c' * sz := Nat.mul_le_mul_right _ k4
    have hst := run_storeCells_at P b off e (a.eval y).cells.toList 0 cur C.w k3 (by simp; omega) m2
    simp only [Nat.add_zero] at hst
    have hrun : (execOp a.eval o).run P C.w = .ok .skip (C.w.setRow b (splV cur.toList off (a.eval y).cells.toList).toArray) := by
      unfold execOp
      simp only [ho, Instr.storeAt, Instr.sureAddr, q1, Sem.run_bind, Sem.run_pure, Result.andThen_ok, storeVar, hsz2]
      rw [if_neg (by simp; omega)]
      rw [hst]
      simp [splV]
    have hxl : xs.length = rows.length * sz := g3.1
    have hown : (C.w.setRow b (splV cur.toList off (a.eval y).cells.toList).toArray).ownsRow C.w0.heap.size e sz (.slice (some ⟨b, 0, none⟩) rows.length c') rows'.length (splV xs off (a.eval y).cells.toList) := by
      rw [hln]
      refine ⟨by simp only [splV, List.length_append, List.length_take, List.length_drop, Array.length_toList]; omega, .inr ⟨b, c', _, rfl, k2, setRow_heap C.w b cur _ e _ k3, k4, k5, ?_, ?_⟩⟩
      · simp only [List.size_toArray, splV, List.length_append, List.length_take, List.length_drop, Array.length_toList]; omega
      · rw [← k7]
        simp only [splV]
        have hA : (a.eval y).cells.toList.length = l.length := by simp; omega
        rw [List.take_append, List.take_append, List.take_take, List.take_take, List.drop_take]
        simp only [List.length_take, Array.length_toList, hA]
        rw [List.take_of_length_le (l := (a.eval y).cells.toList) (by rw [hA]; omega)]
        congr 1
        · rw [Nat.min_eq_right (by omega), Nat.min_eq_left (by omega)]
        · congr 1
          congr 1
          omega
    have hn := hI.arrUp g1 hH (ver' := ver) (rows' := rows') (v2 := .slice (some ⟨b, 0, none⟩) rows.length c') (.inr ⟨rfl, rfl, hln⟩) _ (splV xs off (a.eval y).cells.toList) hown hrl (by rw [hf]; exact z4.spl m1 off) (fun u hu => by
      rcases mem_splV hu with hu | hu
      · exact z5 u hu
      · exact m2 u hu) ⟨rfl, rfl, rfl, by simp, fun k hk hne => setRow_other C.w b k _ (fun e => hne (by rw [e]; rfl))⟩ (.inl rfl)
    unfold Oper.wp
    rw [hrun, Oper.upon_skip]
    refine hk _ undef hn.1 hn.2 rfl rfl rfl (fun id' u q => ?_) (fun p hp => ?_) (by simp [Rd])
    · by_cases e' : id' = id
      · subst e'; exact ⟨_, upd_same _ _ _⟩
      · exact ⟨u, by simpa only [upd_ne _ _ e'] using q⟩
    · simp only [List.mem_singleton] at hp
      subst hp
      exact ⟨_, upd_same _ _ _⟩

theorem OpS.appV {t : TypeId} {s x : Operand} (ho : o.op = .call { callee := .builtin .append, args := #[s, x], argTypes := #[t, t] }) {e1 : TypeId} (he : elm P t = some (e1, sz)) {z : List AV} (hz : zr P e1 = some z) (hzl : z.length = sz) {by_ : Nat} (hby : byt P e1 = some by_) {id1 lo n : Nat} {nn : Bool} {rows1 : List (List AV)}
    (hs : ρ s = some (.sl (.own id1) sz rows1)) (hx : ρ x = some (.mv id ver (.view lo n nn))) (hn0 : n ≠ 0) (hln : lo + n ≤ rows.length) (hb : (rows1.length + n) * by_ ≤ 140737488355328) (hb2 : rows1.length + n ≤ 9223372036854775807) :
    OpS P o ρ [(id1, .row e1 sz rows1.length), (id, .arr e sz ver rows)] [(id1, .row e1 sz (rows1.length + n))] (.sl (.own id1) sz (rows1 ++ (rows.drop lo).take n)) := by
  intro C a next Q hI hρ hrd hup hk
  obtain ⟨m1, m2⟩ := operands_append t t s x ho
  have q := hρ s m1 _ hs
  have q' := hρ x m2 _ hx
  obtain ⟨e1', i, e2, e3⟩ := elm_spec he
  obtain ⟨i', zv, f1, f2, f3, _⟩ := zr_spec hz
  rw [e2] at f1
  injection f1 with f1
  subst f1
  obtain ⟨k1, kG⟩ := hrd (id1, .row e1 sz rows1.length) (by simp)
  simp only at k1 kG
  obtain ⟨gv, kG⟩ := kG
  obtain ⟨ob, k3, k4⟩ := hI.obj id1 _ kG
  rw [k1] at k3
  injection k3 with k3
  subst k3
  obtain ⟨hsz, xs, hown⟩ := k4
  have hGs : C.G id1 = some (a.eval s) := by
    have q2 := q
    simp only [Rd] at q2
    obtain ⟨A, c, _, _, _, _, e4, sz4, m, t1, t2, t3⟩ := q2
    rw [k1] at t1
    injection t1 with t1
    injection t1 with _ _ t1
    exact t3 t1
  rw [kG] at hGs
  injection hGs with hGs
  subst hGs
  obtain ⟨_, r1, r2, r3⟩ := own_flat q k1 rfl hown
  obtain ⟨g, g1, g2, _, z2, ys, g3, z4, z5⟩ := arr_at hI q' (hrd (id, .arr e sz ver rows) (by simp)).1
  obtain ⟨_, A, c, p0, hc, hA⟩ := g2
  obtain ⟨b, c', rfl, rfl⟩ := hA.1.resolve_left hn0
  have hc := g3.cells (g := b) rfl
  have hyl : ys.length = rows.length * sz := g3.1
  have hmul : (lo + n) * sz ≤ rows.length * sz := Nat.mul_le_mul_right _ hln
  rw [Nat.add_mul] at hmul
  let vs := (ys.drop (lo * sz)).take (n * sz)
  have hvl : vs.length = n * sz := by simp only [vs, List.length_take, List.length_drop]; omega
  have hflat : ((rows.drop lo).take n).flatten = (rows.flatten.drop (lo * sz)).take (n * sz) := by
    rw [flat_take n (fun r hr => z2 r (List.mem_of_mem_drop hr)), flat_drop lo z2]
  have hvr : RdL C ((rows.drop lo).take n).flatten vs := by rw [hflat]; exact z4.extract (lo * sz) (n * sz)
  have p4 : ∀ j u, vs[j]? = some u → C.w.cell? ((⟨b, lo * sz, none⟩ : Addr).add j) = some u := fun j u hj => by
    have hjl : j < vs.length := (List.getElem?_eq_some_iff.1 hj).1
    simp only [vs] at hj
    rw [List.getElem?_take, if_pos (by omega), List.getElem?_drop] at hj
    have := hc _ _ hj
    rw [add_plain'] at this ⊢
    simpa using this
  have p2 : ∀ u ∈ vs, u.oneCell' = true := fun u hu => z5 u (List.mem_of_mem_drop (List.mem_of_mem_take hu))
  have hzs : zv.cells.size = sz := by
    have := (listV_rd (C := C) f3).1.length
    simp at this
    omega
  have hbi : i.bytes = by_ := by simpa [byt, e2] using hby
  obtain ⟨v', w', hr, h2, h3, h4⟩ := run_app (P := P) C.w C.w0.heap.size t o.type e1 i zv sz by_ e1' e2 f2 e3 hbi hzs hsz (a.eval s) rows1.length xs hown ⟨b, lo * sz, none⟩ n c vs hvl p4 p2 (by omega) (by simp only [maxLen]; omega) hb hI.below.size
  have hn := hI.appended kG k1 (by omega : 0 < n) w' xs vs hown h2 h3 h4
  have hrun : (execOp a.eval o).run P C.w = .ok (.value v') w' := by
    unfold execOp
    simp only [ho, resolve, invoke, builtin, Sem.run_bind, Sem.run_pure, Result.andThen_ok, List.map_toArray, List.map_cons, List.map_nil, p0, hr]
  have hlt : ((rows.drop lo).take n).length = n := by rw [List.length_take, List.length_drop]; omega
  unfold Oper.wp
  rw [hrun, Oper.upon_value]
  refine hk _ v' hn.1 hn.2 rfl rfl rfl (fun id' u h => ?_) (fun p hp => ?_) ?_
  · by_cases e' : id' = id1
    · subst e'; exact ⟨_, upd_same _ _ _⟩
    · exact ⟨u, by simpa only [upd_ne _ _ e'] using h⟩
  · simp only [List.mem_singleton] at hp
    subst hp
    exact ⟨_, upd_same _ _ _⟩
  · refine own_rd hn.1 (e := e1) (n := rows1.length + n) (ys := xs ++ vs) (upd_same _ _ _) (upd_same _ _ _) (by rw [List.length_append, hlt]) (fun r hr => ?_) h2 ?_ (fun u hu => ?_)
    · rcases List.mem_append.1 hr with h | h
      · exact r3 r h
      · exact z2 r (List.mem_of_mem_drop (List.mem_of_mem_take h))
    · rw [List.flatten_append]
      exact (r1.le hn.2).append (hvr.le hn.2)
    · rcases List.mem_append.1 hu with h | h
      · exact r2 u h
      · exact p2 u h
theorem OpS.appV0 {t : TypeId} {s x : Operand} (ho : o.op = .call { callee := .builtin .append, args := #[s, x], argTypes := #[t, t] }) {e1 : TypeId} (he : elm P t = some (e1, sz)) {lo : Nat} {nn : Bool} {tag : Tag} {szs : Nat} {rows1 : List (List AV)}
    (hs : ρ s = some (.sl tag szs rows1)) (hx : ρ x = some (.mv id ver (.view lo 0 nn))) : OpS P o ρ [(id, .arr e sz ver rows)] [] (.sl tag szs rows1) := by
  refine OpS.val fun C a hI hρ hrd => ?_
  obtain ⟨m1, m2⟩ := operands_append t t s x ho
  have q := hρ s m1 _ hs
  have q' := hρ x m2 _ hx
  refine ⟨a.eval s, ?_, q⟩
  obtain ⟨g, g1, g2, _, z2, ys, g3, z4, z5⟩ := arr_at hI q' (hrd (id, .arr e sz ver rows) (by simp)).1
  obtain ⟨_, A', c', q0', _⟩ := g2
  simp only [Rd] at q
  obtain ⟨A, c, q0, hc, _⟩ := q
  obtain ⟨e1', i, e2, e3⟩ := elm_spec he
  have key : (Builtin.append_ #[t, t] o.type #[a.eval s, a.eval x]).run P C.w = .ok (a.eval s) C.w := by
    rw [q0, q0']
    cases A' with
    | none => cases A <;> simp [Builtin.append_, run_underlying e1', sizeOf, typeInfo, e2, Builtin.lenOf, hc, Builtin.firstCells, storeCells]
    | some a' => cases A <;> simp [Builtin.append_, run_underlying e1', sizeOf, typeInfo, e2, Builtin.lenOf, hc, Builtin.firstCells, loadCells, loadCellsFrom, storeCells]
  unfold execOp
  simp only [ho, resolve, invoke, builtin, Sem.run_bind, Sem.run_pure, Result.andThen_ok, List.map_toArray, List.map_cons, List.map_nil, key]
end
section
variable {P : Program} {T : TI} (hT : T.Good P) {ops : Array Oper} {M : Nat → Mk} {o : Oper} {rest : List Oper} {i n : Nat} {E : List (Nat × AV)} {H : List (Nat × AObj)} {Q : St → Prop} {id ver : Nat} {e : TypeId} {sz : Nat} {rows : List (List AV)}
include hT
theorem AL.mln {d : Nat} (hd : o.dst = some d) (hn : Nat.blt d n = true) (hg : gdec ops (lk E) o = some true) {ty el : TypeId} {x : Operand} (ho : o.op = .call { callee := .builtin .len, args := #[x], argTypes := #[ty] }) (hs : gt T.srt ty = some (.slice el)) (hx : evE E x = some (.mv id ver .hdr)) (hH : lk H id = some (.arr e sz ver rows)) {m : Nat} (hm : rows.length = m)
    (hc : ColN M i (lk H) [(id, .arr e sz ver rows)] []) (k : AL P ops M rest (i + 1) (mkS n ((d, .int .i64 (m : Int)) :: E) H) Q) : AL P ops M (o :: rest) i (mkS n E H) Q := by
  subst hm
  refine AL.op (dOk1 hd hn) hg (rd := [(id, .arr e sz ver rows)]) (up := []) (v := .int .i64 rows.length) ⟨by rw [ev_lk]; exact OpS.mlen ho (hT.srt hs) hx, fun p hp => ?_, by simp, .inr ⟨.inr ⟨by rw [ho]; rfl, fun p hp => ⟨x, by rw [ho]; simp [Op.operands, Call.operands], .inr ⟨ver, .hdr, ?_⟩⟩⟩, .inl rfl⟩, hc.col⟩ ?_
  · simp only [List.mem_singleton] at hp; subst hp; exact hH
  · simp only [List.mem_singleton] at hp; subst hp; rw [ev_lk]; exact hx
  · unfold St.step
    rw [hd, lk_pt]
    exact k
theorem AL.mvw {d : Nat} (hd : o.dst = some d) (hn : Nat.blt d n = true) (hg : gdec ops (lk E) o = some true) {ty el e2 : TypeId} {x lo : Operand} (ho : o.op = .slice ty x (some lo) none none) (hs : gt T.srt ty = some (.slice el)) (he : gt T.elm ty = some (e2, sz)) (hx : evE E x = some (.mv id ver .hdr)) (hH : lk H id = some (.arr e sz ver rows)) {kk : IntKind} {l : Int} (hl : evE E lo = some (.int kk l)) {m : Nat} (hm : rows.length = m) (h0 : 0 ≤ l ∧ l.toNat ≤ m) (hb : (M i).b = true)
    (hc : ColN M i (lk H) [(id, .arr e sz ver rows)] []) (k : AL P ops M rest (i + 1) (mkS n ((d, .mv id ver (.view l.toNat (m - l.toNat) false)) :: E) H) Q) : AL P ops M (o :: rest) i (mkS n E H) Q := by
  subst hm
  refine AL.op (dOk1 hd hn) hg (rd := [(id, .arr e sz ver rows)]) (up := []) (v := .mv id ver (.view l.toNat (rows.length - l.toNat) false)) ⟨by rw [ev_lk]; exact OpS.mview ho (hT.srt hs) (hT.elm he) hx hl h0.1 h0.2, fun p hp => ?_, by simp, .inl hb, hc.col⟩ ?_
  · simp only [List.mem_singleton] at hp; subst hp; exact hH
  · unfold St.step
    rw [hd, lk_pt]
    exact k
theorem AL.mct {d : Nat} (hd : o.dst = some d) (hn : Nat.blt d n = true) (hg : gdec ops (lk E) o = some true) {ty el e2 : TypeId} {x hi : Operand} (ho : o.op = .slice ty x none (some hi) none) (hs : gt T.srt ty = some (.slice el)) (he : gt T.elm ty = some (e2, sz)) (hx : evE E x = some (.mv id ver .hdr)) (hH : lk H id = some (.arr e sz ver rows)) {kk : IntKind} {h : Int} (hh : evE E hi = some (.int kk h)) {m : Nat} (hm : rows.length = m) (h0 : 0 ≤ h ∧ h.toNat ≤ m) {rows2 : List (List AV)} (hr : rows.take h.toNat = rows2) (hb : (M i).b = true)
    (hc : ColN M i (lk H) [(id, .arr e sz ver rows)] [(id, .arr e sz (ver + 1) rows2)]) (k : AL P ops M rest (i + 1) (mkS n ((d, .mv id (ver + 1) .hdr) :: E) ((id, .arr e sz (ver + 1) rows2) :: H)) Q) : AL P ops M (o :: rest) i (mkS n E H) Q := by
  subst hm hr
  refine AL.op (dOk1 hd hn) hg (rd := [(id, .arr e sz ver rows)]) (up := [(id, .arr e sz (ver + 1) (rows.take h.toNat))]) (v := .mv id (ver + 1) .hdr) ⟨by rw [ev_lk]; exact OpS.mcut ho (hT.srt hs) (hT.elm he) hx hh h0.1 h0.2, fun p hp => ?_, fun p hp => ?_, .inl hb, hc.col⟩ ?_
  · simp only [List.mem_singleton] at hp; subst hp; exact hH
  · simp only [List.mem_singleton] at hp; subst hp; exact .inl ⟨_, List.mem_singleton.2 rfl⟩
  · unfold St.step
    rw [hd, lk_pt, updL_lk]
    exact k
theorem AL.mpp {d : Nat} (hd : o.dst = some d) (hn : Nat.blt d n = true) (hg : gdec ops (lk E) o = some true) {ty : TypeId} {s : Operand} {t : Tmp} (ho : o.op = .call { callee := .builtin .append, args := #[s, .tmp t], argTypes := #[ty, ty] }) (he : gt T.elm ty = some (e, sz)) {z : List AV} (hz : gt T.zr e = some z) (hzl : Nat.beq z.length sz = true) {by_ : Nat} (hby : gt T.byt e = some by_) {tagx : Tag} {news0 news rows2 : List (List AV)}
    (hs : evE E s = some (.mv id ver .hdr)) (hst : s ≠ .tmp t) (hx : lk E t = some (.sl tagx sz news0)) (hH : lk H id = some (.arr e sz ver rows)) (hb : (M i).b = true) (hne : news ≠ []) (hw : WvR news0 news) (hr : rows ++ news = rows2) (hl : rows2.length ≤ 1000000) (hbb : Nat.ble by_ 1000000 = true)
    (hc : ColN M i (lk H) [(id, .arr e sz ver rows)] [(id, .arr e sz (ver + 1) rows2)]) (k : AL P ops M rest (i + 1) (mkS n ((d, .mv id (ver + 1) .hdr) :: E) ((id, .arr e sz (ver + 1) rows2) :: H)) Q) : AL P ops M (o :: rest) i (mkS n E H) Q := by
  subst hr
  rw [List.length_append] at hl
  have h1 := Nat.le_of_ble_eq_true hbb
  have h2 : (rows.length + news.length) * by_ ≤ 1000000 * 1000000 := Nat.mul_le_mul hl h1
  have hE : WE E ((t, .sl tagx sz news) :: E) := (WE.refl E).put t hx ⟨.inl rfl, hw, .inl rfl⟩
  have hs' : evE ((t, .sl tagx sz news) :: E) s = some (.mv id ver .hdr) := by
    cases s with
    | tmp u =>
      show lk ((t, _) :: E) u = _
      rw [lk_cons, upd_ne _ _ (fun q => hst (by rw [q]))]
      exact hs
    | const v => exact hs
    | func f => exact hs
    | global g => exact hs
  have hx' : evE ((t, .sl tagx sz news) :: E) (.tmp t) = some (.sl tagx sz news) := by
    show lk ((t, _) :: E) t = _
    rw [lk_cons, upd_same]
  refine AL.op (dOk1 hd hn) hg (rd := [(id, .arr e sz ver rows)]) (up := [(id, .arr e sz (ver + 1) (rows ++ news))]) (v := .mv id (ver + 1) .hdr) ⟨by rw [ev_lk]; exact (OpS.mapp ho (hT.elm he) (hT.zr hz) (Nat.eq_of_beq_eq_true hzl) (hT.byt hby) hs' hx' hne (by omega) (by omega)).weak hE.ev, fun p hp => ?_, fun p hp => ?_, .inl hb, hc.col⟩ ?_
  · simp only [List.mem_singleton] at hp; subst hp; exact hH
  · simp only [List.mem_singleton] at hp; subst hp; exact .inl ⟨_, List.mem_singleton.2 rfl⟩
  · unfold St.step
    rw [hd, lk_pt, updL_lk]
    exact k
theorem AL.mix {d : Nat} (hd : o.dst = some d) (hn : Nat.blt d n = true) (hg : gdec ops (lk E) o = some true) {ty e2 : TypeId} {x ix : Operand} (ho : o.op = .indexAddr ty x ix) (he : gt T.elm ty = some (e2, sz)) (hx : evE E x = some (.mv id ver .hdr)) (hH : lk H id = some (.arr e sz ver rows)) {kk : IntKind} {j : Int} (hi : evE E ix = some (.int kk j)) {q : Nat} (h0 : 0 ≤ j) (hq : j.toNat = q) {row : List AV} (hrow : rows[q]? = some row) (hb : (M i).b = true)
    (hc : ColN M i (lk H) [(id, .arr e sz ver rows)] []) (k : AL P ops M rest (i + 1) (mkS n ((d, .mv id ver (.cell (q * sz + 0))) :: E) H) Q) : AL P ops M (o :: rest) i (mkS n E H) Q := by
  subst hq
  have hlt : j.toNat < rows.length := (List.getElem?_eq_some_iff.1 hrow).1
  refine AL.op (dOk1 hd hn) hg (rd := [(id, .arr e sz ver rows)]) (up := []) (v := .mv id ver (.cell (j.toNat * sz))) ⟨by rw [ev_lk]; exact OpS.midx ho (hT.elm he) hx hi h0 hlt, fun p hp => ?_, by simp, .inl hb, hc.col⟩ ?_
  · simp only [List.mem_singleton] at hp; subst hp; exact hH
  · unfold St.step
    rw [hd, lk_pt]
    exact k
theorem AL.mst (hd : o.dst = none) (hg : gdec ops (lk E) o = some true) {ty : TypeId} {x y : Operand} (ho : o.op = .store ty x y) {q k0 : Nat} (hx : evE E x = some (.mv id ver (.cell (q * sz + k0)))) {v : AV} (hy : evE E y = some v) {l : List AV} (hl : cellsA v = some l) {g : Bool} {m : Nat} (hlay : gt T.lay ty = some (g, m)) (hlm : Nat.beq l.length m = true) (hH : lk H id = some (.arr e sz ver rows)) {row : List AV} (hrow : rows[q]? = some row) (hks : Nat.ble (k0 + l.length) sz = true) (hb : (M i).b = true) {rows2 : List (List AV)} (hr : rows.set q (spl row k0 l) = rows2)
    (hc : ColN M i (lk H) [(id, .arr e sz ver rows)] [(id, .arr e sz ver rows2)]) (k : AL P ops M rest (i + 1) (mkS n E ((id, .arr e sz ver rows2) :: H)) Q) : AL P ops M (o :: rest) i (mkS n E H) Q := by
  subst hr
  have e1 := Nat.eq_of_beq_eq_true hlm
  have h3 := Nat.le_of_ble_eq_true hks
  have hS : OpS P o (evE E) [(id, .arr e sz ver rows)] [(id, .arr e sz ver (rows.set q (spl row k0 l)))] .undef := by
    intro C a next Q hI hρ hrd hup hk
    obtain ⟨_, _, _, _, z2, _⟩ := arr_at hI (hρ x (by rw [ho]; simp [Op.operands]) _ hx) (hrd (id, .arr e sz ver rows) (by simp)).1
    have hlt : q < rows.length := (List.getElem?_eq_some_iff.1 hrow).1
    have h2 : (q + 1) * sz ≤ rows.length * sz := Nat.mul_le_mul_right _ hlt
    rw [Nat.add_mul] at h2
    refine OpS.mstore ho hx hy hl (by rw [e1]; exact hT.lay hlay) (rows' := rows.set q (spl row k0 l)) (by simp) (fun r hr => ?_) (flat_set k0 l z2 hrow h3) (by omega) C a next Q hI hρ hrd hup hk
    rcases List.mem_or_eq_of_mem_set hr with h | h
    · exact z2 r h
    · rw [h]
      have := z2 row (List.mem_of_getElem? hrow)
      simp only [spl, List.length_append, List.length_take, List.length_drop]
      omega
  refine AL.op (fun d h => by rw [hd] at h; cases h) hg (rd := [(id, .arr e sz ver rows)]) (up := [(id, .arr e sz ver (rows.set q (spl row k0 l)))]) (v := .undef) ⟨by rw [ev_lk]; exact hS, fun p hp => ?_, fun p hp => ?_, .inl hb, hc.col⟩ ?_
  · simp only [List.mem_singleton] at hp; subst hp; exact hH
  · simp only [List.mem_singleton] at hp; subst hp; exact .inl ⟨_, List.mem_singleton.2 rfl⟩
  · unfold St.step
    rw [hd, updL_lk]
    exact k
theorem AL.avw {d : Nat} (hd : o.dst = some d) (hn : Nat.blt d n = true) (hg : gdec ops (lk E) o = some true) {ty : TypeId} {s x : Operand} (ho : o.op = .call { callee := .builtin .append, args := #[s, x], argTypes := #[ty, ty] }) {e1 : TypeId} (he : gt T.elm ty = some (e1, sz)) {z : List AV} (hz : gt T.zr e1 = some z) (hzl : Nat.beq z.length sz = true) {by_ : Nat} (hby : gt T.byt e1 = some by_) {id1 lo m : Nat} {nn : Bool}
    (hs : evE E s = some (.sl (.own id1) sz [])) (hx : evE E x = some (.mv id ver (.view lo m nn))) (hH1 : lk H id1 = some (.row e1 sz 0)) (hH : lk H id = some (.arr e sz ver rows)) (hln : lo + m ≤ rows.length) (hl : m ≤ 1000000) (hbb : Nat.ble by_ 1000000 = true) (hb : (M i).b = true)
    (hc : ∀ up, (∀ p ∈ up, p.1 = id1) → ColN M i (lk H) [(id1, .row e1 sz 0), (id, .arr e sz ver rows)] up ∧ ColN M i (lk H) [(id, .arr e sz ver rows)] []) (k : AL P ops M rest (i + 1) (mkS n ((d, .sl (.own id1) sz ((rows.drop lo).take m)) :: E) ((id1, .row e1 sz m) :: H)) Q) : AL P ops M (o :: rest) i (mkS n E H) Q := by
  by_cases h0 : m = 0
  · subst h0
    rw [List.take_zero] at k
    have key : mkS n ((d, .sl (.own id1) sz []) :: E) ((id1, .row e1 sz 0) :: H) = mkS n ((d, .sl (.own id1) sz []) :: E) H := by
      unfold mkS
      congr 1
      rw [lk_cons]
      funext j
      simp only [upd]
      split
      · rename_i q; rw [q, hH1]
      · rfl
    rw [key] at k
    refine AL.op (dOk1 hd hn) hg (rd := [(id, .arr e sz ver rows)]) (up := []) (v := .sl (.own id1) sz []) ⟨by rw [ev_lk]; exact OpS.appV0 ho (hT.elm he) hs hx, fun p hp => ?_, by simp, .inl hb, (hc [] (by simp)).2.col⟩ ?_
    · simp only [List.mem_singleton] at hp; subst hp; exact hH
    · unfold St.step
      rw [hd, lk_pt]
      exact k
  · have h1 := Nat.le_of_ble_eq_true hbb
    have h2 : m * by_ ≤ 1000000 * 1000000 := Nat.mul_le_mul hl h1
    have hS := OpS.appV (P := P) (o := o) (ρ := evE E) ho (hT.elm he) (hT.zr hz) (Nat.eq_of_beq_eq_true hzl) (hT.byt hby) hs hx h0 hln (by simp only [List.length_nil, Nat.zero_add]; omega) (by simp only [List.length_nil, Nat.zero_add]; omega) (e := e)
    simp only [List.length_nil, Nat.zero_add, List.nil_append] at hS
    refine AL.op (dOk1 hd hn) hg (rd := [(id1, .row e1 sz 0), (id, .arr e sz ver rows)]) (up := [(id1, .row e1 sz m)]) (v := .sl (.own id1) sz ((rows.drop lo).take m)) ⟨by rw [ev_lk]; exact hS, fun p hp => ?_, fun p hp => ?_, .inl hb, (hc _ (by simp)).1.col⟩ ?_
    · simp only [List.mem_cons, List.not_mem_nil, or_false] at hp
      rcases hp with rfl | rfl
      · exact hH1
      · exact hH
    · simp only [List.mem_singleton] at hp; subst hp; exact .inl ⟨_, List.mem_cons_self⟩
    · unfold St.step
      rw [hd, lk_pt, updL_lk]
      exact k
end
theorem ACallH.alt {P : Program} {f : FuncId} {args args1 args2 : List AV} {rd up : List (Nat × AObj)} {res : AV} (h1 : ACallH P f args1 rd up res) (h2 : ACallH P f args2 rd up res)
    (hs : ∀ (C : Cx) (vs : List Value), Inv C → (∀ p ∈ rd, C.H p.1 = some p.2 ∧ ∃ u, C.G p.1 = some u) → RdL C args vs → RdL C args1 vs ∨ RdL C args2 vs) : ACallH P f args rd up res := fun C vs hI hC ha => by
  rcases hs C vs.toList hI hC ha with h | h
  · exact h1 C vs hI hC h
  · exact h2 C vs hI hC h
theorem view_alt {C : Cx} {id ver lo n sz : Nat} {e : TypeId} {rows : List (List AV)} (hI : Inv C) (hC : C.H id = some (.arr e sz ver rows)) {v : Value} (h : Rd C (.mv id ver (.view lo n false)) v) : (n = 0 ∧ Rd C (.sl .nil sz []) v) ∨ Rd C (.mv id ver (.view lo n true)) v := by
  obtain ⟨g, g1, g2, g3⟩ := arr_at hI h hC
  obtain ⟨q1, A, c, rfl, q2, q3, q4⟩ := g2
  cases A with
  | none =>
    left
    have hn : n = 0 := by
      rcases q3 with q3 | ⟨b, c', _, q3⟩
      · exact q3
      · cases q3
    subst hn
    refine ⟨rfl, ?_⟩
    rw [q4 rfl]
    simp only [Rd]
    exact ⟨none, 0, rfl, Nat.le_refl _, by simp, .inl trivial, trivial⟩
  | some a =>
    right
    simp only [Rd] at h ⊢
    exact ⟨⟨_, _, _, rfl, by simp⟩, h.2⟩
section
variable {P : Program} {T : TI} (hT : T.Good P) {ops : Array Oper} {M : Nat → Mk} {o : Oper} {rest : List Oper} {i n : Nat} {E : List (Nat × AV)} {H : List (Nat × AObj)} {Q : St → Prop}
include hT
theorem AL.newObjC {d : Nat} (hd : o.dst = some d) (hn : Nat.blt d n = true) (hg : gdec ops (lk E) o = some true) (id : Nat) (hid : lk H id = none) {ob : AObj} {v : AV} (hnw : isNew o.op = true) (h : OpS P o (evE E) [] [(id, ob)] v)
    (hc : ColN M i (lk H) [] [(id, ob)]) (k : AL P ops M rest (i + 1) (mkS n ((d, v) :: E) ((id, ob) :: H)) Q) : AL P ops M (o :: rest) i (mkS n E H) Q := by
  refine AL.op (dOk1 hd hn) hg (rd := []) (up := [(id, ob)]) (v := v) ⟨by rw [ev_lk]; exact h, by simp, fun p hp => ?_, .inr ⟨.inl rfl, .inr ⟨hnw, fun p hp => ?_⟩⟩, hc.col⟩ ?_
  · simp only [List.mem_singleton] at hp; subst hp; exact .inr hid
  · simp only [List.mem_singleton] at hp; subst hp; exact hid
  · unfold St.step
    rw [hd, lk_pt, updL_lk]
    exact k
theorem AL.alcC {d : Nat} (hd : o.dst = some d) (hn : Nat.blt d n = true) (hg : gdec ops (lk E) o = some true) {ty : TypeId} (ho : o.op = .alloc ty) {z : List AV} (hz : gt T.zr ty = some z) (id : Nat) (hid : lk H id = none)
    (hc : ColN M i (lk H) [] [(id, .box ty z)]) (k : AL P ops M rest (i + 1) (mkS n ((d, (.ptr id 0)) :: E) ((id, .box ty z) :: H)) Q) : AL P ops M (o :: rest) i (mkS n E H) Q :=
  AL.newObjC hT hd hn hg id hid (by rw [ho]; rfl) (OpS.alloc ho (hT.zr hz) id) hc k
theorem AL.litC {d : Nat} (hd : o.dst = some d) (hn : Nat.blt d n = true) (hg : gdec ops (lk E) o = some true) {ty : TypeId} {len : Nat} {parts : Array (Nat × Operand)} (ho : o.op = .buildSlice ty len parts) {e sz : Nat} (he : gt T.elm ty = some (e, sz + 1))
    {z : List AV} (hz : gt T.zr e = some z) {rows : List (List AV)} (hs : seqA (evE E) (sz + 1) 0 parts.toList = some rows) (hl : Nat.beq rows.length len = true) (hb : Nat.ble (len * (sz + 1)) 16777216 = true) (id : Nat) (hid : lk H id = none)
    (hc : ColN M i (lk H) [] [(id, .row e (sz + 1) rows.length)]) (k : AL P ops M rest (i + 1) (mkS n ((d, (.sl (.own id) (sz + 1) rows)) :: E) ((id, .row e (sz + 1) rows.length) :: H)) Q) : AL P ops M (o :: rest) i (mkS n E H) Q :=
  AL.newObjC hT hd hn hg id hid (by rw [ho]; rfl) (OpS.lit ho (hT.elm he) (Nat.succ_pos _) (hT.zr hz) hs (Nat.eq_of_beq_eq_true hl) (Nat.le_of_ble_eq_true hb) id) hc k
end
theorem valA_take {g : Bool} {m : Nat} (hm : 0 < m) (a : List AV) : valA g m (a.take m) = valA g m a := by
  unfold valA
  cases g
  · simp only [Bool.false_eq_true, if_false]
    cases a with
    | nil => simp
    | cons x a => cases m with
      | zero => omega
      | succ m => simp
  · simp only [if_true, List.length_take, List.take_take, Nat.min_self]
    by_cases h : m ≤ a.length
    · rw [if_pos (by omega), if_pos h]
    · rw [if_neg (by omega), if_neg h]
theorem AL.vl {P : Program} {T : TI} (hT : T.Good P) {ops : Array Oper} {M : Nat → Mk} {o : Oper} {rest : List Oper} {i n : Nat} {E : List (Nat × AV)} {H : List (Nat × AObj)} {Q : St → Prop} {d : Nat} (hd : o.dst = some d) (hn : Nat.blt d n = true) (hg : gdec ops (lk E) o = some true) {ty : TypeId} {x : Operand} (ho : o.op = .load ty x) {id off : Nat} (hx : evE E x = some (.ptr id off)) {g : Bool} {m : Nat} (hlay : gt T.lay ty = some (g, m)) (hm : Nat.blt 0 m = true) {t : TypeId} {cells : List AV} (hH : lk H id = some (.box t cells)) {v : AV} (hv : valA g m (cells.drop off) = some v)
    {l : Col} (hl : (M i).c = some l) (hlk : l.lk = some (id, off, m)) (hid : l.ids = [id]) (hkp : l.kp = []) (k : AL P ops M rest (i + 1) (mkS n ((d, v) :: E) H) Q) : AL P ops M (o :: rest) i (mkS n E H) Q := by
  have hm := Nat.le_of_ble_eq_true hm
  have key : ∀ (H' : Nat → Option AObj) (cells' : List AV), H' id = some (.box t cells') → valA g m (cells'.drop off) = some v → OpS P o (evE E) [(id, .box t cells')] [] v := fun H' cells' h1 h2 =>
    aval_sound (H := H') hT.toOk (by rw [ho]; simp only [aval, hlay, hx, h1, h2]; rfl)
  refine AL.op (dOk1 hd hn) hg (rd := [(id, .box t cells)]) (up := []) (v := v) ⟨by rw [ev_lk]; exact key _ _ hH hv, fun p hp => ?_, by simp, .inr ⟨.inr ⟨by rw [ho]; rfl, fun p hp => ⟨x, by rw [ho]; simp [Op.operands], .inl ⟨off, ?_⟩⟩⟩, .inl rfl⟩, fun l' q => ?_⟩ ?_
  · simp only [List.mem_singleton] at hp; subst hp; exact hH
  · simp only [List.mem_singleton] at hp; subst hp; rw [ev_lk]; exact hx
  · rw [hl] at q
    injection q with q
    subst q
    refine ⟨by rw [hid]; simp, by simp, fun q hq => ?_, fun q hq => by rw [hkp] at hq; cases hq⟩
    rw [hlk] at hq
    injection hq with hq
    subst hq
    refine ⟨rfl, ⟨_, List.mem_singleton.2 rfl, rfl⟩, fun H' hH' => ?_⟩
    have h0 : cellsAt (mkS n E H).H (id, off, m) = some (t, cells.length, (cells.drop off).take m) := by
      show cellsAt (lk H) _ = _
      simp only [cellsAt, hH]
    rw [h0] at hH'
    simp only [cellsAt] at hH'
    split at hH'
    · rename_i t' cells' h1
      injection hH' with hH'
      injection hH' with e1 hH'
      injection hH' with e2 e3
      subst e1
      refine ⟨[(id, .box t' cells')], rfl, by rw [ev_lk]; exact key H' cells' h1 (by rw [← valA_take hm, e3, valA_take hm]; exact hv), fun p hp => ?_⟩
      simp only [List.mem_singleton] at hp
      subst hp
      exact h1
    · cases hH'
  · unfold St.step
    rw [hd, lk_pt]
    exact k
/-! ### results -/
theorem wk_mv {H : Nat → Option AObj} {id ver : Nat} {e : TypeId} {sz : Nat} {rows rows' : List (List AV)} (h : H id = some (.arr e sz ver rows)) (hp : puR rows = rows') : Wk (fz H (.mv id ver .hdr)) (.sl .ro sz rows') := by
  have e1 : fz H (.mv id ver .hdr) = .sl .ro sz (puR rows) := by simp only [fz, h, if_true]
  rw [e1, hp]
  exact Wk.refl _
theorem wk_own {H : Nat → Option AObj} {id sz : Nat} {rows : List (List AV)} (hp : pureR rows = true) : Wk (fz H (.sl (.own id) sz rows)) (.sl .ro sz rows) := by
  have e1 : fz H (.sl (.own id) sz rows) = .sl .ro sz rows := by simp only [fz, fzR_pure H rows hp]
  rw [e1]
  exact Wk.refl _
/-! ### functions that hand back a row of their own: it is the caller's own then -/
def ACallN (P : Program) (f : FuncId) (args : List AV) (id : Nat) (ob : AObj) (res : AV) : Prop :=
  ∀ (C : Cx) (vs : Array Value), Inv C → C.H id = none → RdL C args vs.toList →
    Calls P f vs C.w fun e w' => ∃ v C', e = .returned v ∧ C'.w = w' ∧ Inv C' ∧ Le C C' ∧ C'.w0 = C.w0 ∧ C'.ok0 = C.ok0 ∧ C'.H = updL C.H [(id, ob)] ∧ (∀ id u, C.G id = some u → ∃ u', C'.G id = some u') ∧ (∃ u, C'.G id = some u) ∧ Rd C' res v
def RetN (P : Program) (fn : Func) (e0 sz : Nat) (rows : List (List AV)) (e : Exit) (s : St) : Prop :=
  (e = .normal ∨ e = .ret) ∧ ∃ k, ResA P fn s (.sl (.own k) sz rows) ∧ s.H k = some (.row e0 sz rows.length)

theorem ACallN.body {P : Program} {f : FuncId} {fn : Func} {c : Code} {args : List AV} {e0 sz : Nat} {rows : List (List AV)} (hf : P.funcs[f]? = some fn) (hb : fn.body = some c) (hn : args.length ≤ fn.ntmps) (ha : pureL args = true) (hp : pureR rows = true)
    (h : AW P (fun _ => false) c (RetN P fn e0 sz rows) ⟨fn.ntmps, argE args, fun _ => none⟩) (id : Nat) : ACallN P f args id (.row e0 sz rows.length) (.sl (.own id) sz rows) := by
  intro C vs hI hid hargs
  refine calls_of_wp hf hb ?_
  have hrel := enter_rel (inv_pu C.ok C.w) (pureL_in ha hargs) hn (fun id o h => by cases h)
  have h' := h (Pu C.ok C.w) _ hrel
  refine wp_mono h' (fun e a w' hl => ?_)
  obtain ⟨s', D, q, r, rfl, e0', e1, l⟩ := hl
  obtain ⟨he, k, hres, hk⟩ := q
  obtain ⟨u, h1, h2⟩ := hres D a r
  have hDH : D.H k = some (.row e0 sz rows.length) := by rw [r.H]; exact hk
  have hDG : D.G k = some u := by
    have h3 := h2
    simp only [Rd] at h3
    obtain ⟨A, cp, _, _, _, _, e4, sz4, m, t1, t2, t3⟩ := h3
    rw [hDH] at t1
    injection t1 with t1
    injection t1 with _ _ t1
    exact t3 t1
  have hw0 : D.w0 = C.w := e0'
  have hbel : Below C.w.heap.size C.w D.w := by have := r.inv.below; rw [hw0] at this; exact this
  have hub : ∀ b, blk u = some b → C.w.heap.size ≤ b ∧ b < D.w.heap.size := fun b hb => by
    obtain ⟨o, k1, k2⟩ := r.inv.obj k u hDG
    have := Held.blk k2 hb
    rw [hw0] at this
    exact this
  have hG0 : C.G id = none := by
    cases q : C.G id with
    | none => rfl
    | some v => obtain ⟨o, k1, _⟩ := hI.obj id v q; rw [hid] at k1; cases k1
  let C' : Cx := ⟨C.w0, C.ok0, upd C.H id (.row e0 sz rows.length), upd C.G id u, D.w⟩
  have hne : ∀ id', id' ≠ id → C'.H id' = C.H id' ∧ C'.G id' = C.G id' := fun id' q => ⟨upd_ne _ _ q, upd_ne _ _ q⟩
  have hGi : C'.G id = some u := upd_same _ _ _
  have hHi : C'.H id = some (.row e0 sz rows.length) := upd_same _ _ _
  have hold : ∀ id' v b, C.G id' = some v → blk v = some b → b < C.w.heap.size := fun id' v b q1 q2 => (hI.blk_lt q1 q2).2
  have hle : Le C C' := by
    refine ⟨fun b j u' k1 k2 => ⟨⟨k1.1, fun id' v' k3 k4 => ?_⟩, (cell_eq (hbel.block b (cell_lt k2))).trans k2⟩, fun id' b q => ?_, fun id' m v q => ?_, fun id' m z v q => ?_, hbel.size, fun b hb q => ⟨hbel.block b hb, fun id' v' k3 k4 => ?_⟩⟩
    · by_cases e' : id' = id
      · subst e'
        rw [hGi] at k3
        injection k3 with k3
        subst k3
        have := (hub b k4).1
        have := cell_lt k2
        omega
      · rw [(hne id' e').2] at k3
        rw [(hne id' e').1]
        exact k1.2 id' v' k3 k4
    · have e' : id' ≠ id := fun e' => by subst e'; rw [hG0] at q; cases q
      rw [(hne id' e').2]; exact q
    · obtain ⟨e1, sz1, m1, t1, t2, t3⟩ := q
      have e' : id' ≠ id := fun e' => by subst e'; rw [hid] at t1; cases t1
      exact ⟨e1, sz1, m1, by rw [(hne id' e').1]; exact t1, t2, fun z => by rw [(hne id' e').2]; exact t3 z⟩
    · obtain ⟨sh, e1, sz1, m1, rs, t1, t2, t3⟩ := q
      have e' : id' ≠ id := fun e' => by subst e'; rw [hid] at t1; cases t1
      exact ⟨sh, e1, sz1, m1, rs, by rw [(hne id' e').1]; exact t1, t2, fun z => by rw [(hne id' e').2]; exact t3 z⟩
    · by_cases e' : id' = id
      · subst e'
        rw [hGi] at k3
        injection k3 with k3
        subst k3
        have := (hub b k4).1
        omega
      · rw [(hne id' e').2] at k3
        exact q id' v' k3 k4
  have hI' : Inv C' := by
    refine ⟨hI.below.trans ⟨hbel.os, hbel.tape, hbel.output, hbel.size, fun k hk => hbel.block k (Nat.lt_of_lt_of_le hk hI.below.size)⟩, fun id' v q => ?_, fun id1 id2 v1 v2 b q1 q2 q3 q4 => ?_, fun b j q => hI.fresh b j (Nat.le_trans hbel.size q), fun id' v b q1 q2 j => ?_⟩
    · by_cases e' : id' = id
      · subst e'
        rw [hGi] at q
        injection q with q
        subst q
        obtain ⟨o, k1, k2⟩ := r.inv.obj k u hDG
        rw [hDH] at k1
        injection k1 with k1
        subst k1
        obtain ⟨z1, xs, z2⟩ := k2
        refine ⟨_, hHi, z1, xs, z2.1, ?_⟩
        rcases z2.2 with z3 | ⟨g, cap, cur, rfl, z4, z5⟩
        · exact .inl z3
        · right
          rw [hw0] at z4
          exact ⟨g, cap, cur, rfl, Nat.le_trans hI.below.size z4, z5⟩
      · rw [(hne id' e').2] at q
        obtain ⟨o, k1, k2⟩ := hI.obj id' v q
        exact ⟨o, by rw [(hne id' e').1]; exact k1, Held.kept hle rfl k2 fun b q2 => hbel.block b (Held.blk k2 q2).2⟩
    · by_cases e1 : id1 = id <;> by_cases e2 : id2 = id
      · rw [e1, e2]
      · subst e1
        rw [hGi] at q1
        injection q1 with q1
        subst q1
        rw [(hne id2 e2).2] at q2
        have := hold _ _ _ q2 q4
        have := (hub b q3).1
        omega
      · subst e2
        rw [hGi] at q2
        injection q2 with q2
        subst q2
        rw [(hne id1 e1).2] at q1
        have := hold _ _ _ q1 q3
        have := (hub b q4).1
        omega
      · rw [(hne id1 e1).2] at q1
        rw [(hne id2 e2).2] at q2
        exact hI.apart id1 id2 v1 v2 b q1 q2 q3 q4
    · by_cases e' : id' = id
      · subst e'
        rw [hGi] at q1
        injection q1 with q1
        subst q1
        exact hI.fresh b j (hub b q2).1
      · rw [(hne id' e').2] at q1
        exact hI.okG id' v b q1 q2 j
  have hl0 : Le0 D C' (fun _ => false) := Le0.ofOk fun b j u' k1 k2 => by
    refine ⟨?_, k2⟩
    have k3 := k1.1
    rw [e1] at k3
    rcases Nat.lt_or_ge b C.w.heap.size with hb | hb
    · have k4 : C.ok b j := k3 hb
      refine ⟨k4.1, fun id' v' q1 q2 => ?_⟩
      by_cases e' : id' = id
      · subst e'
        rw [hGi] at q1
        injection q1 with q1
        subst q1
        have := (hub b q2).1
        omega
      · rw [(hne id' e').2] at q1
        rw [(hne id' e').1]
        exact k4.2 id' v' q1 q2
    · refine ⟨hI.fresh b j hb, fun id' v' q1 q2 => ?_⟩
      by_cases e' : id' = id
      · subst e'
        rw [hGi] at q1
        injection q1 with q1
        subst q1
        obtain ⟨e5, sz5, n5, k5, k6⟩ := k1.2 k u hDG q2
        rw [hDH] at k5
        exact ⟨e5, sz5, n5, by rw [hHi]; exact k5, k6⟩
      · rw [(hne id' e').2] at q1
        have := hold _ _ _ q1 q2
        omega
  have hres' : Rd C' (.sl (.own id) sz rows) u := by
    have h3 := h2
    simp only [Rd] at h3 ⊢
    obtain ⟨A, cp, k1, k2, k3, k4, _⟩ := h3
    refine ⟨A, cp, k1, k2, k3, ?_, e0, sz, rows.length, hHi, Nat.le_refl _, fun _ => hGi⟩
    rcases k4 with k4 | ⟨b, off, k5, k6⟩
    · exact .inl k4
    · exact .inr ⟨b, off, k5, RdR.mono hl0 sz rows b off hp k6⟩
  have hG : ∀ id' u', C.G id' = some u' → ∃ u2, C'.G id' = some u2 := fun id' u' q => by
    by_cases e' : id' = id
    · subst e'; exact ⟨_, hGi⟩
    · exact ⟨u', by rw [(hne id' e').2]; exact q⟩
  rcases he with rfl | rfl
  · exact ⟨r.defers, u, h1, u, C', rfl, rfl, hI', hle, rfl, rfl, rfl, hG, ⟨u, hGi⟩, hres'⟩
  · exact ⟨r.defers, u, h1, u, C', rfl, rfl, hI', hle, rfl, rfl, rfl, hG, ⟨u, hGi⟩, hres'⟩

theorem ACallN.go {P : Program} {f : FuncId} {fn : Func} {c : Code} {args : List AV} {e0 sz : Nat} {rows : List (List AV)} {n : Nat} (E : List (Nat × AV)) (hf : P.funcs[f]? = some fn) (hb : fn.body = some c) (hn : fn.ntmps = n) (hE : (List.range args.length).zip args = E) (hl : Nat.ble args.length n = true) (ha : pureL args = true) (hp : pureR rows = true)
    (h : AW P (fun _ => false) c (RetN P fn e0 sz rows) (mkS n E [])) (id : Nat) : ACallN P f args id (.row e0 sz rows.length) (.sl (.own id) sz rows) := by
  subst hn hE
  refine ACallN.body hf hb (Nat.le_of_ble_eq_true hl) ha hp ?_ id
  rw [argE_lk]
  exact h
theorem RetN.w {P : Program} {T : TI} (hT : T.Good P) {fn : Func} {e : Exit} {rs : List ResultVar} {n : Nat} {E : List (Nat × AV)} {H : List (Nat × AObj)} {k e0 sz : Nat} {rows0 rows : List (List AV)} (he : e = .normal ∨ e = .ret) (hr : fn.results.toList = rs) (h : resL T E H rs = some [.sl (.own k) sz rows0]) (hw : WvR rows0 rows)
    (hH : lk H k = some (.row e0 sz rows.length)) : RetN P fn e0 sz rows e (mkS n E H) :=
  ⟨he, k, (ResA.of hT hr h).weak (y := .sl (.own k) sz rows) (show Wv (.sl (.own k) sz rows0) (.sl (.own k) sz rows) from ⟨.inl rfl, hw, .inl rfl⟩), hH⟩
theorem AL.clF {P : Program} {T : TI} (hT : T.Good P) {ops : Array Oper} {M : Nat → Mk} {o : Oper} {rest : List Oper} {i n : Nat} {E : List (Nat × AV)} {H : List (Nat × AObj)} {Q : St → Prop} {d : Nat} (hd : o.dst = some d) (hn : Nat.blt d n = true) (hg : gdec ops (lk E) o = some true) {cf : Operand} {args : Array Operand} {tys : Array TypeId} (ho : o.op = .call { callee := .value cf, args := args, argTypes := tys }) {f : FuncId} {first caps : List AV}
    (hf : evE E cf = some (.func f first caps)) (hc : gt T.fns f = some true) {aw : List AV} (ha : listA (evE E) args.toList = some aw) {xs : List AV} (id : Nat) (hid : lk H id = none) {ob : AObj} {res : AV} (h : ACallN P f xs id ob res) (hx : WvL (first ++ aw ++ caps) xs) (hm : (M i).b = true) (hcol : ColN M i (lk H) [] [(id, ob)])
    (k : AL P ops M rest (i + 1) (mkS n ((d, res) :: E) ((id, ob) :: H)) Q) : AL P ops M (o :: rest) i (mkS n E H) Q := by
  have hS : OpS P o (evE E) [] [(id, ob)] res := by
    intro C a next Q hI hρ hrd hup hk
    obtain ⟨m1, m2⟩ := mem_call ho
    have q := hρ cf m1 _ hf
    simp only [Rd] at q
    obtain ⟨vs, us, q0, q1, q2⟩ := q
    have qa := listA_rd (C := C) (a := a) ha (fun x hx => hρ x (m2 x hx))
    unfold Oper.wp
    rw [run_call (C := C) ho q0 (hT.fns hc), Oper.upon_enter]
    have hH : C.H id = none := by
      have := hup (id, ob) (by simp)
      simpa using this
    have hall : RdL C xs (vs ++ args.map a.eval ++ us).toList := by
      refine WvL.rd _ _ _ hx ?_
      simp only [Array.toList_append, Array.toList_map]
      exact (q1.append qa).append q2
    refine (h C _ hI hH hall).mono fun e w' hr => ?_
    obtain ⟨v, C', rfl, rfl, hI', hle, e0, e1, e2, hG, hG2, hv⟩ := hr
    refine hk C' v hI' hle e0 e1 e2 hG (fun p hp => ?_) hv
    simp only [List.mem_singleton] at hp; subst hp; exact hG2
  refine AL.op (dOk1 hd hn) hg (rd := []) (up := [(id, ob)]) (v := res) ⟨by rw [ev_lk]; exact hS, by simp, fun p hp => ?_, .inl hm, hcol.col⟩ ?_
  · simp only [List.mem_singleton] at hp; subst hp; exact .inr hid
  · unfold St.step
    rw [hd, lk_pt, updL_lk]
    exact k
theorem AW.ren {P : Program} {S : Nat → Bool} {Q : Exit → St → Prop} {c : Code} {n : Nat} {E : List (Nat × AV)} {H : List (Nat × AObj)} (j2 j d : Nat) {e sz : Nat} {rows : List (List AV)} (hd : lk E d = some (.sl (.own j2) sz rows)) (hj2 : lk H j2 = some (.row e sz rows.length)) (E0 : List (Nat × AV)) (H0 : List (Nat × AObj))
    (hE : ∀ p ∈ E0, lk E p.1 = some p.2 ∧ inA (idsIn H0) p.2 = true) (hH : ∀ p ∈ H0, lk H p.1 = some p.2 ∧ inO (idsIn H0) p.2 = true) (hj : idsIn H0 j = false) (hj3 : idsIn H0 j2 = false) (hS : ∀ id, S id = true → idsIn H0 id = true) (hp : inR (idsIn H0) rows = true)
    (k : AW P S c Q (mkS n ((d, .sl (.own j) sz rows) :: E0) ((j, .row e sz rows.length) :: H0))) : AW P S c Q (mkS n E H) := fun C a hr => by
  let C' : Cx := ⟨C.w0, C.ok0, lk ((j, .row e sz rows.length) :: H0), fun id => if id = j then C.G j2 else if idsIn H0 id = true then C.G id else none, C.w⟩
  have hCH : ∀ id, C.H id = lk H id := fun id => congrFun hr.H id
  have hHj : C'.H j = some (.row e sz rows.length) := by show lk ((j, AObj.row e sz rows.length) :: H0) j = _; rw [lk_cons, upd_same]
  have hGj : C'.G j = C.G j2 := if_pos rfl
  have hne : ∀ id, idsIn H0 id = true → id ≠ j := fun id q e => by subst e; rw [hj] at q; cases q
  have hH0 : ∀ id, idsIn H0 id = true → C'.H id = C.H id := fun id q => by
    obtain ⟨o, ho⟩ := idsIn_iff.1 q
    obtain ⟨o', ho'⟩ := lk_some ho
    show lk _ id = _
    rw [lk_cons, upd_ne _ _ (hne id q), hCH, ho']
    exact ((hH _ (lk_mem ho')).1).symm
  have hG0 : ∀ id, idsIn H0 id = true → C'.G id = C.G id := fun id q => by
    show (if id = j then _ else if idsIn H0 id = true then C.G id else none) = _
    rw [if_neg (hne id q), if_pos q]
  have hG : ∀ id v, C'.G id = some v → (id = j ∧ C.G j2 = some v) ∨ (idsIn H0 id = true ∧ C.G id = some v) := fun id v q => by
    have q : (if id = j then C.G j2 else if idsIn H0 id = true then C.G id else none) = some v := q
    by_cases e1 : id = j
    · rw [if_pos e1] at q; exact .inl ⟨e1, q⟩
    · rw [if_neg e1] at q
      split at q
      · rename_i h; exact .inr ⟨h, q⟩
      · cases q
  have hCj2 : C.H j2 = some (.row e sz rows.length) := by rw [hCH]; exact hj2
  have hok : ∀ b i, C.ok b i → C'.ok b i := fun b i q => ⟨q.1, fun id v q1 q2 => by
    rcases hG id v q1 with ⟨rfl, q3⟩ | ⟨q3, q4⟩
    · obtain ⟨e1, s1, n1, k1, k2⟩ := q.2 j2 v q3 q2
      rw [hCj2] at k1
      exact ⟨e1, s1, n1, by rw [hHj]; exact k1, k2⟩
    · obtain ⟨e1, s1, n1, k1, k2⟩ := q.2 id v q4 q2
      exact ⟨e1, s1, n1, by rw [hH0 id q3]; exact k1, k2⟩⟩
  have htag : ∀ id, idsIn H0 id = true → ∀ m v, TagP C id m v → TagP C' id m v := fun id q m v ⟨e1, s1, m1, t1, t2, t3⟩ => ⟨e1, s1, m1, by rw [hH0 id q]; exact t1, t2, fun z => by rw [hG0 id q]; exact t3 z⟩
  have harr : ∀ id, idsIn H0 id = true → ∀ m z v, ArrP C id m z v → ArrP C' id m z v := fun id q m z v ⟨sh, e1, s1, m1, rs, t1, t2, t3⟩ => ⟨sh, e1, s1, m1, rs, by rw [hH0 id q]; exact t1, t2, fun z => by rw [hG0 id q]; exact t3 z⟩
  have hl : Le0 C C' (idsIn H0) := ⟨fun b i u k1 k2 => ⟨hok b i k1, k2⟩, fun id q b z => by rw [hG0 id q]; exact z, htag, harr⟩
  have hls : LeS S C C' := ⟨fun b i u k1 k2 => ⟨hok b i k1, k2⟩, fun id q b z => by rw [hG0 id (hS id q)]; exact z, fun id q => htag id (hS id q), fun id q => harr id (hS id q), Nat.le_refl _, fun b _ q => ⟨rfl, fun id v q1 => (hG id v q1).elim (fun z => q j2 v z.2) (fun z => q id v z.2)⟩⟩
  have hI : Inv C' := by
    refine ⟨hr.inv.below, fun id v q => ?_, fun id1 id2 v1 v2 b q1 q2 q3 q4 => ?_, hr.inv.fresh, fun id v b q1 q2 => ?_⟩
    · rcases hG id v q with ⟨rfl, q3⟩ | ⟨q3, q4⟩
      · obtain ⟨o, k1, k2⟩ := hr.inv.obj j2 v q3
        rw [hCj2] at k1
        injection k1 with k1
        subst k1
        exact ⟨_, hHj, k2⟩
      · obtain ⟨o, k1, k2⟩ := hr.inv.obj id v q4
        refine ⟨o, by rw [hH0 id q3]; exact k1, ?_⟩
        have hino : inO (idsIn H0) o = true := by
          obtain ⟨o1, ho1⟩ := idsIn_iff.1 q3
          obtain ⟨o', ho'⟩ := lk_some ho1
          have h1 := hH _ (lk_mem ho')
          rw [hCH] at k1
          have h2 := h1.1
          simp only at h2
          rw [k1] at h2
          injection h2 with h2
          rw [h2]
          exact h1.2
        cases o with
        | box t cells =>
          obtain ⟨b, cs, m1, m2, m3, m4, m5⟩ := k2
          exact ⟨b, cs, m1, m2, m3, RdL.mono hl _ _ hino m4, m5⟩
        | row e1 s1 n1 => exact k2
        | arr e1 s1 ver rs =>
          obtain ⟨z1, z2, xs, z3, z4, z5⟩ := k2
          exact ⟨z1, z2, xs, z3, RdL.mono hl _ _ (inR_flat hino) z4, z5⟩
    · rcases hG id1 v1 q1 with ⟨e1, k1⟩ | ⟨e1, k1⟩ <;> rcases hG id2 v2 q2 with ⟨e2, k2⟩ | ⟨e2, k2⟩
      · rw [e1, e2]
      · have := hr.inv.apart j2 id2 v1 v2 b k1 k2 q3 q4
        rw [← this, hj3] at e2
        cases e2
      · have := hr.inv.apart id1 j2 v1 v2 b k1 k2 q3 q4
        rw [this, hj3] at e1
        cases e1
      · exact hr.inv.apart id1 id2 v1 v2 b k1 k2 q3 q4
    · rcases hG id v q1 with ⟨_, k1⟩ | ⟨_, k1⟩
      · exact hr.inv.okG j2 v b k1 q2
      · exact hr.inv.okG id v b k1 q2
  refine wp_mono (k C' a ⟨hI, rfl, fun id o q => ?_, fun d' v q => ?_, hr.size, hr.defers⟩) (fun e a w z => Lift.later z rfl rfl hls)
  · by_cases e1 : id = j
    · subst e1
      obtain ⟨u, hu⟩ := hr.real j2 _ hj2
      exact ⟨u, by rw [hGj]; exact hu⟩
    · have q : lk ((j, AObj.row e sz rows.length) :: H0) id = some o := q
      rw [lk_cons, upd_ne _ _ e1] at q
      have h1 := hH _ (lk_mem q)
      obtain ⟨u, hu⟩ := hr.real id o h1.1
      exact ⟨u, by rw [hG0 id (idsIn_iff.2 ⟨o, lk_mem q⟩)]; exact hu⟩
  · have q : lk ((d, AV.sl (.own j) sz rows) :: E0) d' = some v := q
    rw [lk_cons] at q
    by_cases e1 : d' = d
    · subst e1
      rw [upd_same] at q
      injection q with q
      subst q
      have h3 := hr.env d' _ hd
      simp only [Rd] at h3 ⊢
      obtain ⟨A, cp, k1, k2, k3, k4, e4, sz4, m, t1, t2, t3⟩ := h3
      refine ⟨A, cp, k1, k2, k3, ?_, e, sz, rows.length, hHj, Nat.le_refl _, fun _ => ?_⟩
      · rcases k4 with k4 | ⟨b, off, k5, k6⟩
        · exact .inl k4
        · exact .inr ⟨b, off, k5, RdR.mono hl sz rows b off hp k6⟩
      · rw [hGj]
        rw [hCj2] at t1
        injection t1 with t1
        injection t1 with _ _ t1
        exact t3 t1
    · rw [upd_ne _ _ e1] at q
      have h1 := hE _ (lk_mem q)
      exact Rd.mono hl _ _ h1.2 (hr.env d' v h1.1)
end Go.Proofs.YtbcjcekoonebiaaGreat.Tl

set_option linter.unusedVariables false
namespace Go.Proofs.YtbcjcekoonebiaaGreat.Tl
open Go Go.RowKit
inductive Ty where
  | mk (kind : Int) (of : List Ty)
def Ty.kind : Ty → Int | .mk k _ => k
def Ty.of : Ty → List Ty | .mk _ l => l
mutual
def eny1 : Ty → List AV
  | .mk k l => [.int .i64 k, .sl .ro 2 (enys l)]
def enys : List Ty → List (List AV)
  | [] => []
  | v :: r => eny1 v :: enys r
end
abbrev tyC (v : Ty) : List AV := [.int .i64 v.kind, .sl .ro 2 (enys v.of)]
theorem eny1_eq (v : Ty) : eny1 v = tyC v := by cases v; rfl
theorem enys_map (l : List Ty) : enys l = l.map tyC := by
  induction l with
  | nil => rfl
  | cons v r ih => simp only [enys, ih, List.map_cons, eny1_eq]
theorem enys_length (l : List Ty) : (enys l).length = l.length := by rw [enys_map, List.length_map]
theorem enys_get {l : List Ty} {j : Nat} {v : Ty} (h : l[j]? = some v) : (enys l)[j]? = some (tyC v) := by rw [enys_map]; simp [h]
mutual
theorem eny1_pure (S : Nat → Bool) : ∀ v : Ty, inL S (eny1 v) = true
  | .mk k t => by simp only [eny1, inL, inA, enys_pure S t, Bool.and_self]
theorem enys_pure (S : Nat → Bool) : ∀ l : List Ty, inR S (enys l) = true
  | [] => rfl
  | v :: r => by simp only [enys, inR, eny1_pure S v, enys_pure S r, Bool.and_self]
end
theorem tyC_pure (S : Nat → Bool) (v : Ty) : inL S (tyC v) = true := by rw [← eny1_eq]; exact eny1_pure S v

theorem WvR_encs {l : List Val} {rows : List (List AV)} (h : WvR rows (l.map valC)) : WvR rows (encs l) := by rw [encs_map]; exact h
theorem WvR_enys {l : List Ty} {rows : List (List AV)} (h : WvR rows (l.map tyC)) : WvR rows (enys l) := by rw [enys_map]; exact h
def rowF {α : Type} (c : α → List AV) (l : List α) : List (List AV) := l.map c
theorem rowF_length {α : Type} (c : α → List AV) (l : List α) : (rowF c l).length = l.length := by simp [rowF]
theorem rowF_get {α : Type} {c : α → List AV} {l : List α} {j : Nat} {x : α} (h : l[j]? = some x) : (rowF c l)[j]? = some (c x) := by simp [rowF, h]
structure Ar (α : Type) where
  v : Nat
  l : List α
theorem encs_take (l : List Val) (k : Nat) : (encs l).take k = encs (l.take k) := by simp only [encs_map, List.map_take]
theorem encs_drop (l : List Val) (k : Nat) : (encs l).drop k = encs (l.drop k) := by simp only [encs_map, List.map_drop]
theorem encs_set (l : List Val) (k : Nat) (x : Val) : (encs l).set k (valC x) = encs (l.set k x) := by simp only [encs_map, List.map_set]
theorem rowF_pure {α : Type} {c : α → List AV} (S : Nat → Bool) (h : ∀ x, inL S (c x) = true) : ∀ l : List α, inR S (rowF c l) = true
  | [] => rfl
  | x :: r => by
    show inR S (c x :: rowF c r) = true
    simp only [inR, h x, rowF_pure S h r, Bool.and_self]
theorem fmc {α : Type} {p : α → Prop} {a : α} {l : List α} (h : p a ∧ ∀ x ∈ l, p x) : ∀ x ∈ a :: l, p x := List.forall_mem_cons.2 h
theorem AW.rg {P : Program} {S : Nat → Bool} {Q : Exit → St → Prop} {s : St} {id : Nat} {l : List Oper} (h : AL P l.toArray (fun i => ⟨true, none⟩) l 0 s (Q .normal)) : AW P S (.region id l.toArray false) Q s := AW.region (M := fun _ => true) h
theorem ACall.law {P : Program} {f : FuncId} {args : List AV} (h : ACall P f args (.bool true)) (w : World) (vs : Array Value) (hr : RdL (Pu (fun _ _ => True) w) args vs.toList) :
    Calls P f vs w fun e w' => e = .returned (.bool true) ∧ Below w.heap.size w w' := by
  refine (h.2 _ w vs hr).mono fun e w' h => ?_
  obtain ⟨v, rfl, hv, hb⟩ := h
  simp only [Rd] at hv
  subst hv
  exact ⟨rfl, hb⟩

theorem AW.sj {P : Program} {S : Nat → Bool} {Q : Exit → St → Prop} {x y : Code} {s : St} {n : Nat} {α : Type} (E' : α → List (Nat × AV)) (H' : α → List (Nat × AObj)) (φ : α → Prop)
    (hx : AW P S x (AThen (fun s' => ∃ z E2 H2, s' = mkS n E2 H2 ∧ TrimsW S E2 H2 (E' z) (H' z) ∧ φ z) Q) s) (hy : ∀ z, φ z → AW P S y Q (mkS n (E' z) (H' z))) : AW P S (.seq x y) Q s := by
  refine AW.seq (AW.mono hx ?_)
  rintro e s' h
  cases e with
  | normal =>
    obtain ⟨z, E2, H2, rfl, h1, h2⟩ := h
    exact AW.trimW h1 (hy z h2)
  | _ => exact h
end Go.Proofs.YtbcjcekoonebiaaGreat.Tl

set_option linter.unusedVariables false
set_option maxRecDepth 100000
namespace Go.Proofs.YtbcjcekoonebiaaGreat.Tl
open Go
def ti : TI where
  lay := [(2, (false, 1)), (3, (false, 1)), (4, (false, 1)), (9, (false, 1)), (22, (false, 1)), (24, (true, 2)), (25, (false, 1)), (26, (false, 1)), (28, (true, 5)), (30, (true, 8)), (32, (true, 15)), (36, (false, 1)), (38, (true, 2)), (39, (false, 1)), (40, (false, 1)), (42, (true, 5)), (44, (true, 8)), (46, (true, 15)), (57, (false, 1)), (69, (true, 7)), (71, (false, 1)), (74, (false, 1)), (76, (true, 6)), (88, (false, 1)), (90, (true, 7)), (94, (true, 7)), (101, (false, 1)), (130, (false, 1)), (137, (false, 1)), (144, (true, 2)), (147, (false, 1)), (148, (true, 2))]
  fld := [(24, [(0, 1, false), (1, 1, false)]), (28, [(0, 1, false), (1, 1, false), (2, 1, false), (3, 1, false), (4, 1, false)]), (30, [(0, 1, false), (1, 5, true), (6, 1, false), (7, 1, false)]), (32, [(0, 1, false), (1, 1, false), (2, 2, true), (4, 1, false), (5, 8, true), (13, 1, false), (14, 1, false)]), (38, [(0, 1, false), (1, 1, false)]), (42, [(0, 1, false), (1, 1, false), (2, 1, false), (3, 1, false), (4, 1, false)]), (44, [(0, 1, false), (1, 5, true), (6, 1, false), (7, 1, false)]), (46, [(0, 1, false), (1, 1, false), (2, 2, true), (4, 1, false), (5, 8, true), (13, 1, false), (14, 1, false)]), (69, [(0, 1, false), (1, 5, true), (6, 1, false)]), (76, [(0, 1, false), (1, 5, true)]), (90, [(0, 5, true), (5, 1, false), (6, 1, false)]), (94, [(0, 1, false), (1, 5, true), (6, 1, false)]), (144, [(0, 1, false), (1, 1, false)]), (148, [(0, 1, false), (1, 1, false)])]
  elm := [(22, (24, 2)), (25, (30, 8)), (26, (28, 5)), (36, (38, 2)), (39, (44, 8)), (40, (42, 5)), (57, (69, 7)), (59, (94, 7)), (71, (76, 6)), (74, (57, 1)), (88, (28, 5)), (133, (144, 2)), (140, (148, 2)), (157, (3, 1))]
  srt := [(2, .int .i64), (3, .int .i64), (4, .bool), (5, .int .u8), (9, .string), (22, .slice 24), (25, .slice 30), (26, .slice 28), (36, .slice 38), (39, .slice 44), (40, .slice 42), (53, .int .i64), (57, .slice 69), (59, .slice 94), (71, .slice 76), (74, .slice 57), (88, .slice 28), (133, .slice 144), (140, .slice 148), (157, .slice 3)]
  zr := [(3, [.int .i64 0]), (24, [.int .i64 0, .sl .nil 0 []]), (26, [.sl .nil 0 []]), (28, [.int .i64 0, .int .i64 0, .bool false, .str ⟨#[]⟩, .sl .nil 0 []]), (30, [.str ⟨#[]⟩, .int .i64 0, .int .i64 0, .bool false, .str ⟨#[]⟩, .sl .nil 0 [], .int .i64 0, .sl .nil 0 []]), (38, [.int .i64 0, .sl .nil 0 []]), (42, [.int .i64 0, .int .i64 0, .bool false, .str ⟨#[]⟩, .sl .nil 0 []]), (44, [.str ⟨#[]⟩, .int .i64 0, .int .i64 0, .bool false, .str ⟨#[]⟩, .sl .nil 0 [], .int .i64 0, .sl .nil 0 []]), (46, [.int .i64 0, .str ⟨#[]⟩, .int .i64 0, .sl .nil 0 [], .sl .nil 0 [], .str ⟨#[]⟩, .int .i64 0, .int .i64 0, .bool false, .str ⟨#[]⟩, .sl .nil 0 [], .int .i64 0, .sl .nil 0 [], .int .i64 0, .int .i64 0]), (57, [.sl .nil 0 []]), (69, [.str ⟨#[]⟩, .int .i64 0, .int .i64 0, .bool false, .str ⟨#[]⟩, .sl .nil 0 [], .int .i64 0]), (71, [.sl .nil 0 []]), (76, [.int .i64 0, .int .i64 0, .int .i64 0, .bool false, .str ⟨#[]⟩, .sl .nil 0 []]), (90, [.int .i64 0, .int .i64 0, .bool false, .str ⟨#[]⟩, .sl .nil 0 [], .sl .nil 0 [], .sl .nil 0 []]), (94, [.str ⟨#[]⟩, .int .i64 0, .int .i64 0, .bool false, .str ⟨#[]⟩, .sl .nil 0 [], .int .i64 0]), (101, [.nilf]), (144, [.str ⟨#[]⟩, .nilf]), (148, [.str ⟨#[]⟩, .nilf])]
  plc := [(28, [(0, 1), (1, 1), (2, 1), (3, 1), (4, 1)]), (38, [(0, 1), (1, 1)]), (42, [(0, 1), (1, 1), (2, 1), (3, 1), (4, 1)]), (44, [(0, 1), (1, 5), (6, 1), (7, 1)]), (46, [(0, 1), (1, 1), (2, 2), (4, 1), (5, 8), (13, 1), (14, 1)]), (69, [(0, 1), (1, 5), (6, 1)]), (76, [(0, 1), (1, 5)]), (90, [(0, 5), (5, 1), (6, 1)]), (94, [(0, 1), (1, 5), (6, 1)]), (144, [(0, 1), (1, 1)]), (148, [(0, 1), (1, 1)])]
  byt := [(3, 8), (24, 32), (28, 64), (30, 112), (38, 32), (42, 64), (44, 112), (57, 24), (69, 88), (76, 72), (94, 88), (144, 24), (148, 24)]
  fns := [(2, true), (3, true), (4, true), (5, true), (6, true), (7, true), (8, true), (9, true), (10, true), (11, true), (12, true), (13, true), (14, true), (15, true), (16, true), (17, true), (18, true), (19, true), (20, true), (21, true), (22, true), (23, true), (24, true), (25, true), (26, true), (27, true), (28, true), (29, true), (30, true), (31, true), (32, true), (33, true), (34, true), (35, true), (36, true), (37, true), (38, true), (39, true), (40, true), (41, true), (42, true), (43, true), (44, true), (45, true), (46, true), (47, true), (48, true), (49, true), (50, true), (51, true), (52, true), (53, true), (54, true), (55, true), (56, true), (57, true), (58, true), (59, true), (60, true), (61, true), (62, true), (63, true), (64, true), (65, true), (66, true), (67, true), (68, true), (69, true), (70, true), (71, true), (72, true), (73, true), (74, true), (75, true), (76, true), (77, true), (78, true), (79, true), (80, true), (81, true), (82, true), (83, true), (84, true), (85, true), (86, true), (87, true), (88, true), (89, true), (90, true), (91, true), (92, true), (93, true), (94, true), (95, true), (96, true), (97, true), (98, true), (99, true), (100, true), (101, true)]
theorem ti_lay : ∀ p ∈ ti.lay, Tl.lay Tryz.prog p.1 = some p.2 := List.map_inj_left.1 (by kernel_rfl)
theorem ti_fld : ∀ p ∈ ti.fld, (List.range p.2.length).map (Tl.fld Tryz.prog p.1) = p.2.map some := List.map_inj_left.1 (by kernel_rfl)
theorem ti_elm : ∀ p ∈ ti.elm, Tl.elm Tryz.prog p.1 = some p.2 := List.map_inj_left.1 (by kernel_rfl)
theorem ti_srt : ∀ p ∈ ti.srt, sort0 Tryz.prog p.1 = p.2 := List.map_inj_left.1 (by kernel_rfl)
theorem ti_zr : ∀ p ∈ ti.zr, Tl.zr Tryz.prog p.1 = some p.2 := List.map_inj_left.1 (by kernel_rfl)
theorem ti_plc : ∀ p ∈ ti.plc, plcs Tryz.prog p.1 = some p.2 := List.map_inj_left.1 (by kernel_rfl)
theorem ti_byt : ∀ p ∈ ti.byt, Tl.byt Tryz.prog p.1 = some p.2 := List.map_inj_left.1 (by kernel_rfl)
theorem ti_fns : ∀ p ∈ ti.fns, callable Tryz.prog p.1 = p.2 := List.map_inj_left.1 (by kernel_rfl)
theorem good : ti.Good Tryz.prog where
  lay h := ti_lay _ (gt_mem h)
  fld {s f r} h := by
    unfold TI.fl at h
    split at h
    · rename_i l hl
      have h1 := ti_fld _ (gt_mem hl)
      simp only at h1
      have h2 : f < l.length := (List.getElem?_eq_some_iff.1 h).1
      have h3 := congrArg (fun z => z[f]?) h1
      simp only [List.getElem?_map, List.getElem?_range h2, Option.map_some, h] at h3
      injection h3
    · cases h
  elm h := ti_elm _ (gt_mem h)
  srt h := ti_srt _ (gt_mem h)
  zr h := ti_zr _ (gt_mem h)
  plc h := ti_plc _ (gt_mem h)
  byt h := ti_byt _ (gt_mem h)
  fns h := ti_fns _ (gt_mem h)
  wide := by kernel_rfl
theorem Av {ops : Array Oper} {M : Nat → Mk} {o : Oper} {rest : List Oper} {i n : Nat} {E : List (Nat × AV)} {H : List (Nat × AObj)} {Q : St → Prop} [nc : NC M i] {d : Nat} (v : AV) {rd : List (Nat × AObj)}
    (h : (o.dst, Nat.blt d n, gdec ops (lk E) o, aval ti (lk H) (evE E) o.op) = (some d, true, some true, some (v, rd))) (k : AL Tryz.prog ops M rest (i + 1) (mkS n ((d, v) :: E) H) Q) : AL Tryz.prog ops M (o :: rest) i (mkS n E H) Q := by
  simp only [Prod.mk.injEq] at h
  obtain ⟨h1, h2, h3, h4⟩ := h
  exact AL.v good h1 h2 h3 h4 k
theorem Rg {S : Nat → Bool} {Q : Exit → St → Prop} {s : St} {id : Nat} {l : List Oper} (h : AL Tryz.prog l.toArray (fun i => ⟨true, none⟩) l 0 s (Q .normal)) : AW Tryz.prog S (.region id l.toArray false) Q s := AW.region (M := fun _ => true) h
theorem Aw {ops : Array Oper} {M : Nat → Mk} {o : Oper} {rest : List Oper} {i n : Nat} {E : List (Nat × AV)} {H : List (Nat × AObj)} {Q : St → Prop} [nc : NC M i] {d : Nat} {v : AV} {rd : List (Nat × AObj)}
    (h : (o.dst, Nat.blt d n, gdec ops (lk E) o, aval ti (lk H) (evE E) o.op) = (some d, true, some true, some (v, rd))) (k : AL Tryz.prog ops M rest (i + 1) (mkS n ((d, v) :: E) H) Q) : AL Tryz.prog ops M (o :: rest) i (mkS n E H) Q := Av v h k
theorem Gv {ops : Array Oper} {M : Nat → Mk} {o : Oper} {rest : List Oper} {i n : Nat} {E : List (Nat × AV)} {H : List (Nat × AObj)} {Q : St → Prop} [nc : NC M i] {d : Nat} (c : Bool) (v : AV)
    (h : (o.dst, Nat.blt d n) = (some d, true)) (p : gdec ops (lk E) o = some c ∧ (c = true → (aval ti (lk H) (evE E) o.op).map (·.1) = some v)) (k : AL Tryz.prog ops M rest (i + 1) (mkS n ((d, bif c then v else .tup []) :: E) H) Q) : AL Tryz.prog ops M (o :: rest) i (mkS n E H) Q := by
  simp only [Prod.mk.injEq] at h
  obtain ⟨h1, h2⟩ := h
  cases c with
  | false => exact AL.sk good h1 h2 p.1 k
  | true =>
    obtain ⟨q, hq, rfl⟩ := Option.map_eq_some_iff.1 (p.2 rfl)
    exact AL.v good h1 h2 p.1 (rd := q.2) hq k

end Go.Proofs.YtbcjcekoonebiaaGreat.Tl

set_option linter.unusedVariables false
set_option linter.unusedSimpArgs false
namespace Go.Proofs.YtbcjcekoonebiaaGreat.Tl
open Go Go.RowKit
theorem w28 (i : Int) : ACall Tryz.prog 20 [.int .i64 i] (.agg [.int .i64 1, .int .i64 i, .bool false, .str ⟨#[]⟩, .sl .ro 5 []]) := by
 refine ACall.go [(0, .int .i64 i)] Tryz.func20 rfl Tryz.ntmps20 rfl rfl rfl ?_
 refine AW.seq (Rg ?_)
 refine AL.alc good (d := 2) rfl rfl rfl rfl rfl 0 rfl ?_
 refine AW.seq (Rg ?_)
 refine Aw rfl ?_
 refine AL.bld good (d := 4) rfl rfl rfl rfl rfl rfl rfl ?_
 refine AL.st good rfl rfl rfl rfl rfl rfl rfl rfl rfl rfl rfl ?_
 refine AW.ret ?_
 refine RetQ.mk good (.inr rfl) rfl rfl ?_
 simp [Wk, WkL, fz, fzL, fzR, tupA, spl]

theorem w32 (b : Bool) : ACall Tryz.prog 75 [.bool b] (.agg [.int .i64 2, .int .i64 0, .bool b, .str ⟨#[]⟩, .sl .ro 5 []]) := by
 refine ACall.go [(0, .bool b)] Tryz.func75 rfl Tryz.ntmps75 rfl rfl rfl ?_
 refine AW.seq (Rg ?_)
 refine AL.alc good (d := 2) rfl rfl rfl rfl rfl 0 rfl ?_
 refine AW.seq (Rg ?_)
 refine Aw rfl ?_
 refine AL.bld good (d := 4) rfl rfl rfl rfl rfl rfl rfl ?_
 refine AL.st good rfl rfl rfl rfl rfl rfl rfl rfl rfl rfl rfl ?_
 refine AW.ret ?_
 refine RetQ.mk good (.inr rfl) rfl rfl ?_
 simp [Wk, WkL, fz, fzL, fzR, tupA, spl]

theorem w33 (s : ByteArray) : ACall Tryz.prog 97 [.str s] (.agg [.int .i64 3, .int .i64 0, .bool false, .str s, .sl .ro 5 []]) := by
 refine ACall.go [(0, .str s)] Tryz.func97 rfl Tryz.ntmps97 rfl rfl rfl ?_
 refine AW.seq (Rg ?_)
 refine AL.alc good (d := 2) rfl rfl rfl rfl rfl 0 rfl ?_
 refine AW.seq (Rg ?_)
 refine Aw rfl ?_
 refine AL.bld good (d := 4) rfl rfl rfl rfl rfl rfl rfl ?_
 refine AL.st good rfl rfl rfl rfl rfl rfl rfl rfl rfl rfl rfl ?_
 refine AW.ret ?_
 refine RetQ.mk good (.inr rfl) rfl rfl ?_
 simp [Wk, WkL, fz, fzL, fzR, tupA, spl]

theorem w67 (r : List AV) (rows : List (List AV)) (hp : pureR (r :: rows) = true) (hl : rows.length ≤ 1000000) : ACall Tryz.prog 68 [.sl .ro 5 (r :: rows)] (.sl .ro 5 (r :: rows)) := by
 refine ACall.go [(0, .sl .ro 5 (r :: rows))] Tryz.func68 rfl Tryz.ntmps68 rfl rfl (by simpa [pureA, inA] using hp) ?_
 refine AW.seq (Rg ?_)
 refine Aw rfl ?_
 refine AW.seq ?_
 refine AW.seq (Rg ?_)
 refine Aw rfl ?_
 refine Aw rfl ?_
 refine AW.if rfl (fun h => by cases h) (fun _ => ?_)
 refine AW.skip ?_
 refine AW.seq (Rg ?_)
 refine AL.lit good (d := 5) rfl rfl rfl rfl rfl rfl rfl rfl rfl 0 rfl ?_
 refine Aw rfl ?_
 refine AL.app good (d := 7) rfl rfl rfl rfl rfl rfl rfl rfl rfl rfl rfl rfl (by simp) (by simp only [List.length_nil, List.length_cons]; omega) (by simp only [List.length_nil, List.length_cons]; omega) ?_
 refine Aw rfl ?_
 refine AW.ret ?_
 refine RetQ.mk good (.inr rfl) rfl rfl ?_
 have hq : pureL r = true ∧ pureR rows = true := by simpa [pureR, inR] using hp
 simp [Wk, WkL, fz, fzL, fzR, tupA, fzL_pure _ _ hq.1, fzR_pure _ _ hq.2]

theorem w66 (rows : List (List AV)) (hp : pureR rows = true) : ACall Tryz.prog 67 [.sl .ro 5 rows] (.sl .ro 5 rows) := by
 refine ACall.go [(0, .sl .ro 5 rows)] Tryz.func67 rfl Tryz.ntmps67 rfl rfl (by simpa [pureA, inA] using hp) ?_
 refine AW.seq (Rg ?_)
 refine Aw rfl ?_
 refine AW.seq (Rg ?_)
 refine Aw rfl ?_
 refine Aw rfl ?_
 refine Aw rfl ?_
 refine Aw rfl ?_
 refine Aw rfl ?_
 refine AL.clip good (d := 8) rfl rfl rfl rfl rfl rfl rfl rfl rfl ?_
 refine Aw rfl ?_
 refine AW.ret ?_
 refine RetQ.mk good (.inr rfl) rfl rfl ?_
 simp [Wk, WkL, fz, fzL, fzR, tupA, fzR_pure _ _ hp]

theorem w27 (r : List AV) (rows : List (List AV)) (hp : pureR (r :: rows) = true) (hl : rows.length ≤ 1000000) : ACall Tryz.prog 55 [.sl .ro 5 (r :: rows)] (.agg [.int .i64 4, .int .i64 0, .bool false, .str ⟨#[]⟩, .sl .ro 5 (r :: rows)]) := by
 refine ACall.go [(0, .sl .ro 5 (r :: rows))] Tryz.func55 rfl Tryz.ntmps55 rfl rfl (by simpa [pureA, inA, inL] using hp) ?_
 refine AW.seq (Rg ?_)
 refine AL.alc good (d := 2) rfl rfl rfl rfl rfl 0 rfl ?_
 refine AW.seq (Rg ?_)
 refine Aw rfl ?_
 refine AL.clp good (d := 4) rfl rfl rfl rfl rfl rfl rfl (w67 r rows hp hl) ((by simpa [pureL, inL, inA, List.append] using hp)) ?_
 refine AL.clp good (d := 5) rfl rfl rfl rfl rfl rfl rfl (w66 (r :: rows) hp) ((by simpa [pureL, inL, inA, List.append] using hp)) ?_
 refine AL.bld good (d := 6) rfl rfl rfl rfl rfl rfl rfl ?_
 refine AL.st good rfl rfl rfl rfl rfl rfl rfl rfl rfl rfl rfl ?_
 refine AW.ret ?_
 refine RetQ.mk good (.inr rfl) rfl rfl ?_
 have hq : pureL r = true ∧ pureR rows = true := by simpa [pureR, inR] using hp
 simp [Wk, WkL, fz, fzL, fzR, tupA, spl, fzL_pure _ _ hq.1, fzR_pure _ _ hq.2]

theorem w104 (b : Bool) : ACall Tryz.prog 94 [.bool b] (.int .i64 (bI b)) := by
 refine ACall.go [(0, .bool b)] Tryz.func94 rfl Tryz.ntmps94 rfl rfl rfl ?_
 refine AW.seq (Rg ?_)
 refine Aw rfl ?_
 refine AW.seq ?_
 refine AW.seq (Rg ?_)
 refine Aw rfl ?_
 refine AW.if rfl (fun h1 => ?_) (fun h1 => ?_)
 ·skip
  refine AW.seq (Rg ?_)
  refine Aw rfl ?_
  refine AW.ret ?_
  refine RetQ.mk good (.inr rfl) rfl rfl ?_
  simp_all [Wk, fz, tupA, bI]
 ·skip
  refine AW.skip ?_
  refine AW.seq (Rg ?_)
  refine Aw rfl ?_
  refine AW.ret ?_
  refine RetQ.mk good (.inr rfl) rfl rfl ?_
  simp_all [Wk, fz, tupA, bI]

theorem w135 (x : Int) : ACall Tryz.prog 98 [.int .i64 x] (.bool false) := by
 refine ACall.go [(0, .int .i64 x)] Tryz.func98 rfl Tryz.ntmps98 rfl rfl rfl ?_
 refine AW.seq (Rg ?_)
 refine Aw rfl ?_
 refine AW.seq (Rg ?_)
 refine Aw rfl ?_
 refine Aw rfl ?_
 refine Aw rfl ?_
 refine Aw rfl ?_
 refine AW.ret ?_
 refine RetQ.mk good (.inr rfl) rfl rfl ?_
 simp [Wk, WkL, fz, fzL, fzR, tupA, spl]

theorem w136 (x : Int) : ACall Tryz.prog 99 [.int .i64 x] (.bool false) := by
 refine ACall.go [(0, .int .i64 x)] Tryz.func99 rfl Tryz.ntmps99 rfl rfl rfl ?_
 refine AW.seq (Rg ?_)
 refine Aw rfl ?_
 refine AW.seq (Rg ?_)
 refine Aw rfl ?_
 refine Aw rfl ?_
 refine Aw rfl ?_
 refine Aw rfl ?_
 refine AW.ret ?_
 refine RetQ.mk good (.inr rfl) rfl rfl ?_
 simp [Wk, WkL, fz, fzL, fzR, tupA, spl]

theorem w102 (x y : Int) : ACall Tryz.prog 92 [.int .i64 x, .int .i64 y] (.int .i64 (cmpI x y)) := by
 refine ACall.go [(0, .int .i64 x), (1, .int .i64 y)] Tryz.func92 rfl Tryz.ntmps92 rfl rfl rfl ?_
 refine AW.seq (Rg ?_)
 refine Aw rfl ?_
 refine AW.seq (Rg ?_)
 refine Aw rfl ?_
 refine AL.clp good (d := 8) rfl rfl rfl rfl rfl rfl rfl (w135 _) (rfl) ?_
 refine Aw rfl ?_
 refine AW.seq (Rg ?_)
 refine Aw rfl ?_
 refine AL.clp good (d := 10) rfl rfl rfl rfl rfl rfl rfl (w135 _) (rfl) ?_
 refine Aw rfl ?_
 refine AW.seq ?_
 refine AW.seq (Rg ?_)
 refine Aw rfl ?_
 refine AW.if rfl (fun h => by cases h) (fun _ => ?_)
 refine AW.skip ?_
 refine AW.seq ?_
 refine AW.seq (Rg ?_)
 refine Aw rfl ?_
 refine AW.if rfl (fun h => by cases h) (fun _ => ?_)
 refine AW.skip ?_
 refine AW.seq ?_
 refine AW.seq (Rg ?_)
 refine Aw rfl ?_
 refine Aw rfl ?_
 refine Aw rfl ?_
 refine AW.if rfl (fun h1 => ?_) (fun h1 => ?_)
 ·skip
  refine AW.seq (Rg ?_)
  refine Aw rfl ?_
  refine AW.ret ?_
  refine RetQ.mk good (.inr rfl) rfl rfl ?_
  simp_all [Wk, fz, tupA, cmpI] <;> ((repeat (split)) <;> omega)
 ·skip
  refine AW.skip ?_
  refine AW.seq ?_
  refine AW.seq (Rg ?_)
  refine Aw rfl ?_
  refine Aw rfl ?_
  refine Aw rfl ?_
  refine AW.if rfl (fun h2 => ?_) (fun h2 => ?_)
  ·skip
   refine AW.seq (Rg ?_)
   refine Aw rfl ?_
   refine AW.ret ?_
   refine RetQ.mk good (.inr rfl) rfl rfl ?_
   simp_all [Wk, fz, tupA, cmpI] <;> ((repeat (split)) <;> omega)
  ·skip
   refine AW.skip ?_
   refine AW.seq (Rg ?_)
   refine Aw rfl ?_
   refine AW.ret ?_
   refine RetQ.mk good (.inr rfl) rfl rfl ?_
   simp_all [Wk, fz, tupA, cmpI] <;> ((repeat (split)) <;> omega)

theorem w103 (x y : Int) : ACall Tryz.prog 93 [.int .i64 x, .int .i64 y] (.int .i64 (cmpI x y)) := by
 refine ACall.go [(0, .int .i64 x), (1, .int .i64 y)] Tryz.func93 rfl Tryz.ntmps93 rfl rfl rfl ?_
 refine AW.seq (Rg ?_)
 refine Aw rfl ?_
 refine AW.seq (Rg ?_)
 refine Aw rfl ?_
 refine AL.clp good (d := 8) rfl rfl rfl rfl rfl rfl rfl (w136 _) (rfl) ?_
 refine Aw rfl ?_
 refine AW.seq (Rg ?_)
 refine Aw rfl ?_
 refine AL.clp good (d := 10) rfl rfl rfl rfl rfl rfl rfl (w136 _) (rfl) ?_
 refine Aw rfl ?_
 refine AW.seq ?_
 refine AW.seq (Rg ?_)
 refine Aw rfl ?_
 refine AW.if rfl (fun h => by cases h) (fun _ => ?_)
 refine AW.skip ?_
 refine AW.seq ?_
 refine AW.seq (Rg ?_)
 refine Aw rfl ?_
 refine AW.if rfl (fun h => by cases h) (fun _ => ?_)
 refine AW.skip ?_
 refine AW.seq ?_
 refine AW.seq (Rg ?_)
 refine Aw rfl ?_
 refine Aw rfl ?_
 refine Aw rfl ?_
 refine AW.if rfl (fun h1 => ?_) (fun h1 => ?_)
 ·skip
  refine AW.seq (Rg ?_)
  refine Aw rfl ?_
  refine AW.ret ?_
  refine RetQ.mk good (.inr rfl) rfl rfl ?_
  simp_all [Wk, fz, tupA, cmpI] <;> ((repeat (split)) <;> omega)
 ·skip
  refine AW.skip ?_
  refine AW.seq ?_
  refine AW.seq (Rg ?_)
  refine Aw rfl ?_
  refine Aw rfl ?_
  refine Aw rfl ?_
  refine AW.if rfl (fun h2 => ?_) (fun h2 => ?_)
  ·skip
   refine AW.seq (Rg ?_)
   refine Aw rfl ?_
   refine AW.ret ?_
   refine RetQ.mk good (.inr rfl) rfl rfl ?_
   simp_all [Wk, fz, tupA, cmpI] <;> ((repeat (split)) <;> omega)
  ·skip
   refine AW.skip ?_
   refine AW.seq (Rg ?_)
   refine Aw rfl ?_
   refine AW.ret ?_
   refine RetQ.mk good (.inr rfl) rfl rfl ?_
   simp_all [Wk, fz, tupA, cmpI] <;> ((repeat (split)) <;> omega)

theorem w137 (s t : ByteArray) : ACall Tryz.prog 100 [.str s, .str t] (.int .i64 (cmpB s t)) := by
 refine ACall.go [(0, .str s), (1, .str t)] Tryz.func100 rfl Tryz.ntmps100 rfl rfl rfl ?_
 refine AW.seq (Rg ?_)
 refine Aw rfl ?_
 refine AW.seq (Rg ?_)
 refine Aw rfl ?_
 refine Aw rfl ?_
 refine AL.cmp good (d := 7) rfl rfl rfl rfl rfl rfl rfl Tryz.func102 (by kernel_rfl) (by kernel_rfl) (by kernel_rfl) (by kernel_rfl) ?_
 refine Aw rfl ?_
 refine AW.ret ?_
 refine RetQ.mk good (.inr rfl) rfl rfl ?_
 simp [Wk, WkL, fz, fzL, fzR, tupA, spl]

theorem w105 (s t : ByteArray) : ACall Tryz.prog 95 [.str s, .str t] (.int .i64 (cmpB s t)) := by
 refine ACall.go [(0, .str s), (1, .str t)] Tryz.func95 rfl Tryz.ntmps95 rfl rfl rfl ?_
 refine AW.seq (Rg ?_)
 refine Aw rfl ?_
 refine AW.seq (Rg ?_)
 refine Aw rfl ?_
 refine Aw rfl ?_
 refine AL.clp good (d := 7) rfl rfl rfl rfl rfl rfl rfl (w137 _ _) (rfl) ?_
 refine Aw rfl ?_
 refine AW.ret ?_
 refine RetQ.mk good (.inr rfl) rfl rfl ?_
 simp [Wk, WkL, fz, fzL, fzR, tupA, spl]

theorem orI_drop {l : List Int} {k : Nat} {x : Int} (h : l[k]? = some x) (h0 : x = 0) : orI (l.drop (k + 1)) = orI (l.drop k) := by
  have hlt : k < l.length := (List.getElem?_eq_some_iff.1 h).1
  have : l.drop k = x :: l.drop (k + 1) := by rw [List.drop_eq_getElem_cons hlt]; rw [List.getElem?_eq_getElem hlt] at h; injection h with h; rw [h]
  rw [this, orI, if_pos h0]
theorem orI_at {l : List Int} {k : Nat} {x : Int} (h : l[k]? = some x) (h0 : x ≠ 0) : orI (l.drop k) = x := by
  have hlt : k < l.length := (List.getElem?_eq_some_iff.1 h).1
  have : l.drop k = x :: l.drop (k + 1) := by rw [List.drop_eq_getElem_cons hlt]; rw [List.getElem?_eq_getElem hlt] at h; injection h with h; rw [h]
  rw [this, orI, if_neg h0]
def rowI (l : List Int) : List (List AV) := l.map (fun x => [.int .i64 x])
theorem rowI_length (l : List Int) : (rowI l).length = l.length := by simp [rowI]
theorem rowI_get {l : List Int} {j : Nat} {x : Int} (h : l[j]? = some x) : (rowI l)[j]? = some [.int .i64 x] := by simp [rowI, h]
theorem rowI_pure (S : Nat → Bool) : ∀ l : List Int, inR S (rowI l) = true
  | [] => rfl
  | x :: r => by show inR S ([.int .i64 x] :: rowI r) = true; simp [inR, inL, inA, rowI_pure S r]

theorem w101 (l : List Int) : ACall Tryz.prog 91 [.sl .ro 1 (rowI l)] (.int .i64 (orI l)) := by
 refine ACall.go [(0, .sl .ro 1 (rowI l))] Tryz.func91 rfl Tryz.ntmps91 rfl rfl rfl ?_
 refine AW.seq (Rg ?_)
 refine Aw rfl ?_
 refine AW.seq (Rg ?_)
 refine Aw rfl ?_
 refine AW.seq ?_
 refine AW.seq (Rg ?_)
 refine Aw rfl ?_
 refine Aw rfl ?_
 refine Aw rfl ?_
 refine AW.block ?_
 refine AW.len 6 rfl (fun hl => ?_)
 rw [rowI_length] at hl
 refine AW.lp (fun k : Nat => [(3, .int .i64 0), (6, .sl .ro 1 (rowI l)), (7, .int .i64 (l.length : Int)), (8, .int .i64 (k : Int))]) (fun k : Nat => []) (fun k : Nat => orI (l.drop k) = orI l) (fun k : Nat => l.length - k) 0 ⟨(fun _ h => by cases h), List.forall_mem_cons.2 ⟨⟨rfl, rfl⟩, List.forall_mem_cons.2 ⟨⟨rfl, (by simp [inA, rowI_pure])⟩, List.forall_mem_cons.2 ⟨⟨(by show some (AV.int .i64 ((rowI l).length : Int)) = _; rw [rowI_length]), rfl⟩, List.forall_mem_cons.2 ⟨⟨rfl, rfl⟩, (fun _ h => by cases h)⟩⟩⟩⟩, (fun _ h => by cases h)⟩ rfl (fun k hx => ?_)
 refine AW.seq (Rg ?_)
 refine Aw rfl ?_
 refine AW.seq ?_
 refine AW.if rfl (fun h1 => ?_) (fun h1 => ?_)
 ·skip
  refine AW.skip ?_
  refine AW.seq ?_
  refine AW.block ?_
  refine AW.seq (Rg ?_)
  have hk : k < l.length := by simpa using h1
  have hget : l[k]? = some l[k] := List.getElem?_eq_getElem hk
  refine AL.ix good (d := 10) rfl rfl rfl rfl rfl rfl rfl (Int.natCast_nonneg k) (rowI_get hget) ?_
  refine Aw rfl ?_
  refine Aw rfl ?_
  refine AW.seq (Rg ?_)
  refine Aw rfl ?_
  refine Aw rfl ?_
  refine Aw rfl ?_
  refine AW.if rfl (fun h2 => ?_) (fun h2 => ?_)
  ·skip
   refine AW.seq (Rg ?_)
   refine Aw rfl ?_
   refine Aw rfl ?_
   refine AW.ret ?_
   refine RetQ.mk good (.inr rfl) rfl rfl ?_
   simp only [Wk, fz, tupA]
   exact ⟨trivial, by rw [← hx, orI_at hget (by simpa using h2)]⟩
  ·skip
   refine AW.skip ?_
   refine Rg ?_
   refine Aw rfl ?_
   refine Aw rfl ?_
   exact ⟨k + 1, _, _, rfl, ⟨(fun _ h => by cases h), List.forall_mem_cons.2 ⟨⟨rfl, rfl⟩, List.forall_mem_cons.2 ⟨⟨rfl, (by simp [inA, rowI_pure])⟩, List.forall_mem_cons.2 ⟨⟨rfl, rfl⟩, List.forall_mem_cons.2 ⟨⟨(wnext hk hl), rfl⟩, (fun _ h => by cases h)⟩⟩⟩⟩, (fun _ h => by cases h)⟩, (by rw [orI_drop hget (by simpa using h2)]; exact hx), (by omega)⟩
 ·skip
  refine AW.exit ?_
  refine AW.seq (Rg ?_)
  refine Aw rfl ?_
  refine Aw rfl ?_
  refine AW.ret ?_
  refine RetQ.mk good (.inr rfl) rfl rfl ?_
  have hk : l.length ≤ k := by simpa using h1
  rw [List.drop_eq_nil_of_le hk] at hx
  simp only [Wk, fz, tupA]
  exact ⟨trivial, hx⟩

end Go.Proofs.YtbcjcekoonebiaaGreat.Tl

set_option linter.unusedVariables false
set_option linter.unusedSimpArgs false
namespace Go.Proofs.YtbcjcekoonebiaaGreat.Tl
open Go Go.RowKit
theorem w138 (l m : List Val) (h69 : ∀ (j : Nat) (x y : Val), l[j]? = some x → m[j]? = some y → ACall Tryz.prog 87 [.agg (valC x), .agg (valC y)] (.int .i64 (cmpV x y))) : ACall Tryz.prog 101 [.sl .ro 5 (encs l), .sl .ro 5 (encs m), .func 87 [] []] (.int .i64 (cmpVs l m)) := by
 refine ACall.go [(0, .sl .ro 5 (encs l)), (1, .sl .ro 5 (encs m)), (2, .func 87 [] [])] Tryz.func101 rfl Tryz.ntmps101 rfl rfl rfl ?_
 refine AW.seq (Rg ?_)
 refine Aw rfl ?_
 refine AW.seq ?_
 refine AW.seq (Rg ?_)
 refine Aw rfl ?_
 refine Aw rfl ?_
 refine Aw rfl ?_
 refine AW.block ?_
 refine AW.len 0 rfl (fun hl => ?_)
 rw [encs_length] at hl
 refine AW.lp (fun k : Nat => [(0, .sl .ro 5 (encs l)), (1, .sl .ro 5 (encs m)), (2, .func 87 [] []), (11, .sl .ro 5 (encs l)), (12, .int .i64 (l.length : Int)), (13, .int .i64 (k : Int))]) (fun k : Nat => []) (fun k : Nat => cmpVs (l.drop k) (m.drop k) = cmpVs l m ∧ k ≤ l.length) (fun k : Nat => l.length - k) 0 ⟨(fun _ h => by cases h), List.forall_mem_cons.2 ⟨⟨rfl, (by simp [inA, encs_pure])⟩, List.forall_mem_cons.2 ⟨⟨rfl, (by simp [inA, encs_pure])⟩, List.forall_mem_cons.2 ⟨⟨rfl, rfl⟩, List.forall_mem_cons.2 ⟨⟨rfl, (by simp [inA, encs_pure])⟩, List.forall_mem_cons.2 ⟨⟨(by show some (AV.int .i64 ((encs l).length : Int)) = _; rw [encs_length]), rfl⟩, List.forall_mem_cons.2 ⟨⟨rfl, rfl⟩, (fun _ h => by cases h)⟩⟩⟩⟩⟩⟩, (fun _ h => by cases h)⟩ ⟨rfl, Nat.zero_le _⟩ (fun k hx => ?_)
 obtain ⟨hx, hkl⟩ := hx
 refine AW.seq (Rg ?_)
 refine Aw rfl ?_
 refine AW.seq ?_
 refine AW.if rfl (fun h1 => ?_) (fun h1 => ?_)
 ·skip
  refine AW.skip ?_
  refine AW.seq ?_
  refine AW.block ?_
  refine AW.seq (Rg ?_)
  refine Aw rfl ?_
  have hk : k < l.length := by simpa using h1
  have hget : l[k]? = some l[k] := List.getElem?_eq_getElem hk
  refine AL.ix good (d := 16) rfl rfl rfl rfl rfl rfl rfl (Int.natCast_nonneg k) (encs_get hget) ?_
  refine Aw rfl ?_
  refine AL.alc good (d := 8) rfl rfl rfl rfl rfl 0 rfl ?_
  refine Aw rfl ?_
  refine AL.st good rfl rfl rfl rfl rfl rfl rfl rfl rfl rfl rfl ?_
  refine AW.seq ?_
  refine AW.seq (Rg ?_)
  refine Aw rfl ?_
  refine Aw rfl ?_
  refine Aw rfl ?_
  refine Aw rfl ?_
  refine AW.if rfl (fun h2 => ?_) (fun h2 => ?_)
  ·skip
   refine AW.seq (Rg ?_)
   refine Aw rfl ?_
   refine AW.ret ?_
   refine RetQ.mk good (.inr rfl) rfl rfl ?_
   have hk2 : m.length ≤ k := by simpa [encs_length] using h2
   rw [drop_get hget, List.drop_eq_nil_of_le hk2] at hx
   simp only [Wk, fz, tupA]
   exact ⟨trivial, hx⟩
  ·skip
   refine AW.skip ?_
   refine AW.seq (Rg ?_)
   refine Aw rfl ?_
   refine Aw rfl ?_
   have hk2 : k < m.length := by simpa [encs_length] using h2
   have hget2 : m[k]? = some m[k] := List.getElem?_eq_getElem hk2
   refine AL.ix good (d := 24) rfl rfl rfl rfl rfl rfl rfl (Int.natCast_nonneg k) (encs_get hget2) ?_
   refine Aw rfl ?_
   refine AL.alc good (d := 9) rfl rfl rfl rfl rfl 1 rfl ?_
   refine AL.st good rfl rfl rfl rfl rfl rfl rfl rfl rfl rfl rfl ?_
   refine AW.seq (Rg ?_)
   refine Aw rfl ?_
   refine Aw rfl ?_
   refine Aw rfl ?_
   refine AL.clp good (d := 29) rfl rfl rfl rfl rfl rfl rfl (h69 _ _ _ hget hget2) ((by simp [pureL, inL, inA, inR, spl, encs_pure])) ?_
   refine Aw rfl ?_
   refine AW.seq (Rg ?_)
   refine Aw rfl ?_
   refine Aw rfl ?_
   refine AW.if rfl (fun h3 => ?_) (fun h3 => ?_)
   ·skip
    refine AW.seq (Rg ?_)
    refine Aw rfl ?_
    refine Aw rfl ?_
    refine AW.ret ?_
    refine RetQ.mk good (.inr rfl) rfl rfl ?_
    rw [drop_get hget, drop_get hget2] at hx
    simp only [cmpVs] at hx
    rw [if_neg (by simpa using h3)] at hx
    simp only [Wk, fz, tupA]
    exact ⟨trivial, hx⟩
   ·skip
    refine AW.skip ?_
    refine Rg ?_
    refine Aw rfl ?_
    refine Aw rfl ?_
    exact ⟨k + 1, _, _, rfl, ⟨(fun _ h => by cases h), List.forall_mem_cons.2 ⟨⟨rfl, (by simp [inA, encs_pure])⟩, List.forall_mem_cons.2 ⟨⟨rfl, (by simp [inA, encs_pure])⟩, List.forall_mem_cons.2 ⟨⟨rfl, rfl⟩, List.forall_mem_cons.2 ⟨⟨rfl, (by simp [inA, encs_pure])⟩, List.forall_mem_cons.2 ⟨⟨rfl, rfl⟩, List.forall_mem_cons.2 ⟨⟨(wnext hk hl), rfl⟩, (fun _ h => by cases h)⟩⟩⟩⟩⟩⟩, (fun _ h => by cases h)⟩, (by rw [drop_get hget, drop_get hget2] at hx; simp only [cmpVs] at hx; rw [if_pos (by simpa using h3)] at hx; exact ⟨hx, by omega⟩), (by omega)⟩
 ·skip
  refine AW.exit ?_
  refine AW.seq ?_
  refine AW.seq (Rg ?_)
  refine Aw rfl ?_
  refine Aw rfl ?_
  refine Aw rfl ?_
  refine Aw rfl ?_
  refine Aw rfl ?_
  refine AW.if rfl (fun h4 => ?_) (fun h4 => ?_)
  ·skip
   refine AW.seq (Rg ?_)
   refine Aw rfl ?_
   refine AW.ret ?_
   refine RetQ.mk good (.inr rfl) rfl rfl ?_
   have hk : l.length ≤ k := by simpa using h1
   have hk2 : l.length < m.length := by simpa [encs_length] using h4
   rw [List.drop_eq_nil_of_le hk] at hx
   cases hm : m.drop k with
   | nil => exact absurd (List.drop_eq_nil_iff.1 hm) (by omega)
   | cons y ys => rw [hm] at hx; simp only [cmpVs] at hx; simp only [Wk, fz, tupA]; exact ⟨trivial, hx⟩
  ·skip
   refine AW.skip ?_
   refine AW.seq (Rg ?_)
   refine Aw rfl ?_
   refine AW.ret ?_
   refine RetQ.mk good (.inr rfl) rfl rfl ?_
   have hk : l.length ≤ k := by simpa using h1
   have hk2 : m.length ≤ l.length := by simpa [encs_length] using h4
   rw [List.drop_eq_nil_of_le hk, List.drop_eq_nil_of_le (by omega : m.length ≤ k)] at hx
   simp only [cmpVs] at hx
   simp only [Wk, fz, tupA]
   exact ⟨trivial, hx⟩

theorem w106 (l m : List Val) (h138 : ACall Tryz.prog 101 [.sl .ro 5 (encs l), .sl .ro 5 (encs m), .func 87 [] []] (.int .i64 (cmpVs l m))) : ACall Tryz.prog 96 [.sl .ro 5 (encs l), .sl .ro 5 (encs m), .func 87 [] []] (.int .i64 (cmpVs l m)) := by
 refine ACall.go [(0, .sl .ro 5 (encs l)), (1, .sl .ro 5 (encs m)), (2, .func 87 [] [])] Tryz.func96 rfl Tryz.ntmps96 rfl rfl rfl ?_
 refine AW.seq (Rg ?_)
 refine Aw rfl ?_
 refine AW.seq (Rg ?_)
 refine Aw rfl ?_
 refine Aw rfl ?_
 refine Aw rfl ?_
 refine AL.clp good (d := 10) rfl rfl rfl rfl rfl rfl rfl (h138) ((by simp [pureL, inL, inA, inR, spl, encs_pure])) ?_
 refine Aw rfl ?_
 refine AW.ret ?_
 refine RetQ.mk good (.inr rfl) rfl rfl ?_
 simp [Wk, WkL, fz, fzL, fzR, tupA, spl]

theorem w69a (a b : Val) (h106 : ACall Tryz.prog 96 [.sl .ro 5 (encs a.t), .sl .ro 5 (encs b.t), .func 87 [] []] (.int .i64 (cmpVs a.t b.t))) : ACall Tryz.prog 87 [.agg (valC a), .agg (valC b)] (.int .i64 (cmpV a b)) := by
 refine ACall.go [(0, .agg (valC a)), (1, .agg (valC b))] Tryz.func87 rfl Tryz.ntmps87 rfl rfl rfl ?_
 refine AW.seq (Rg ?_)
 refine AL.bx good (d := 2) rfl rfl rfl rfl rfl rfl 0 rfl ?_
 refine AL.bx good (d := 3) rfl rfl rfl rfl rfl rfl 1 rfl ?_
 refine Aw rfl ?_
 refine AW.seq ?_
 refine AW.seq ?_
 refine AW.draw (M := fun i => false) good.wide (by kernel_rfl) ?_
 refine Aw rfl ?_
 refine Aw rfl ?_
 refine Aw rfl ?_
 refine Aw rfl ?_
 refine AL.clp good (d := 10) rfl rfl rfl rfl rfl rfl rfl (w102 _ _) (rfl) ?_
 refine Aw rfl ?_
 refine Aw rfl ?_
 refine Aw rfl ?_
 refine Aw rfl ?_
 refine AL.clp good (d := 15) rfl rfl rfl rfl rfl rfl rfl (w103 _ _) (rfl) ?_
 refine Aw rfl ?_
 refine Aw rfl ?_
 refine AL.clp good (d := 18) rfl rfl rfl rfl rfl rfl rfl (w104 _) (rfl) ?_
 refine Aw rfl ?_
 refine Aw rfl ?_
 refine AL.clp good (d := 21) rfl rfl rfl rfl rfl rfl rfl (w104 _) (rfl) ?_
 refine AL.clp good (d := 22) rfl rfl rfl rfl rfl rfl rfl (w102 _ _) (rfl) ?_
 refine Aw rfl ?_
 refine Aw rfl ?_
 refine Aw rfl ?_
 refine Aw rfl ?_
 refine AL.clp good (d := 27) rfl rfl rfl rfl rfl rfl rfl (w105 _ _) (rfl) ?_
 refine AL.lit good (d := 28) rfl rfl rfl rfl rfl rfl rfl rfl rfl 2 rfl ?_
 refine AL.clo good (d := 29) rfl rfl rfl rfl rfl rfl rfl (w101 [cmpI a.kind b.kind, cmpI a.i b.i, cmpI (bI a.b) (bI b.b), cmpB a.s b.s]) (rfl) (rfl) ?_
 refine Aw rfl ?_
 refine AW.seq (Rg ?_)
 refine Aw rfl ?_
 refine Aw rfl ?_
 refine AW.if rfl (fun h1 => ?_) (fun h1 => ?_)
 ·skip
  refine AW.seq (Rg ?_)
  refine Aw rfl ?_
  refine Aw rfl ?_
  refine AW.ret ?_
  refine RetQ.mk good (.inr rfl) rfl rfl ?_
  simp only [Wk, fz, tupA]
  exact ⟨trivial, by rw [cmpV_eq, if_neg (by simpa using h1)]⟩
 ·skip
  refine AW.skip ?_
  refine AW.seq (Rg ?_)
  refine Aw rfl ?_
  refine Aw rfl ?_
  refine Aw rfl ?_
  refine Aw rfl ?_
  refine AL.clp good (d := 37) rfl rfl rfl rfl rfl rfl rfl (h106) ((by simp [pureL, inL, inA, inR, spl, encs_pure])) ?_
  refine Aw rfl ?_
  refine AW.ret ?_
  refine RetQ.mk good (.inr rfl) rfl rfl ?_
  simp only [Wk, fz, tupA]
  exact ⟨trivial, by rw [cmpV_eq, if_pos (by simpa using h1)]⟩

theorem w69 (a b : Val) : ACall Tryz.prog 87 [.agg (valC a), .agg (valC b)] (.int .i64 (cmpV a b)) :=
 w69a a b (w106 a.t b.t (w138 a.t b.t fun j x y hx hy => w69 x y))
termination_by a
decreasing_by
 cases a with
 | mk k i bb s t =>
  have := List.sizeOf_lt_of_mem (List.mem_of_getElem? hx)
  simp only [Val.t] at this
  simp only [Val.mk.sizeOf_spec]
  omega

theorem w35 (a b : Val) : ACall Tryz.prog 85 [.agg (valC a), .agg (valC b)] (.bool (cmpV a b == 0)) := by
 refine ACall.go [(0, .agg (valC a)), (1, .agg (valC b))] Tryz.func85 rfl Tryz.ntmps85 rfl rfl rfl ?_
 refine AW.seq (Rg ?_)
 refine AL.bx good (d := 2) rfl rfl rfl rfl rfl rfl 0 rfl ?_
 refine AL.bx good (d := 3) rfl rfl rfl rfl rfl rfl 1 rfl ?_
 refine Aw rfl ?_
 refine AW.seq (Rg ?_)
 refine Aw rfl ?_
 refine Aw rfl ?_
 refine AL.clp good (d := 7) rfl rfl rfl rfl rfl rfl rfl (w69 a b) ((by simp [pureL, inL, inA, inR, spl, encs_pure])) ?_
 refine Aw rfl ?_
 refine Aw rfl ?_
 refine AW.ret ?_
 refine RetQ.mk good (.inr rfl) rfl rfl ?_
 simp [Wk, WkL, fz, fzL, fzR, tupA, spl]

end Go.Proofs.YtbcjcekoonebiaaGreat.Tl

set_option linter.unusedVariables false
set_option linter.unusedSimpArgs false
namespace Go.Proofs.YtbcjcekoonebiaaGreat.Tl
open Go Go.RowKit
theorem w122 (a : Val) : ACall Tryz.prog 73 [.agg (valC a)] (.agg [.int .i64 1, .int .i64 (IntKind.i64.wrap (0 - a.i)), .bool false, .str ⟨#[]⟩, .sl .ro 5 []]) := by
 refine ACall.go [(0, .agg (valC a))] Tryz.func73 rfl Tryz.ntmps73 rfl rfl rfl ?_
 refine AW.seq (Rg ?_)
 refine AL.bx good (d := 1) rfl rfl rfl rfl rfl rfl 0 rfl ?_
 refine AL.alc good (d := 2) rfl rfl rfl rfl rfl 1 rfl ?_
 refine AW.seq (Rg ?_)
 refine Aw rfl ?_
 refine Aw rfl ?_
 refine Aw rfl ?_
 refine AL.clp good (d := 6) rfl rfl rfl rfl rfl rfl rfl (w28 _) (rfl) ?_
 refine AL.st good rfl rfl rfl rfl rfl rfl rfl rfl rfl rfl rfl ?_
 refine AW.ret ?_
 refine RetQ.mk good (.inr rfl) rfl rfl ?_
 simp [Wk, WkL, fz, fzL, fzR, tupA, spl]

theorem w123 (a : Val) : ACall Tryz.prog 74 [.agg (valC a)] (.agg [.int .i64 2, .int .i64 0, .bool (!a.b), .str ⟨#[]⟩, .sl .ro 5 []]) := by
 refine ACall.go [(0, .agg (valC a))] Tryz.func74 rfl Tryz.ntmps74 rfl rfl rfl ?_
 refine AW.seq (Rg ?_)
 refine AL.bx good (d := 1) rfl rfl rfl rfl rfl rfl 0 rfl ?_
 refine AL.alc good (d := 2) rfl rfl rfl rfl rfl 1 rfl ?_
 refine AW.seq (Rg ?_)
 refine Aw rfl ?_
 refine Aw rfl ?_
 refine Aw rfl ?_
 refine AL.clp good (d := 6) rfl rfl rfl rfl rfl rfl rfl (w32 _) (rfl) ?_
 refine AL.st good rfl rfl rfl rfl rfl rfl rfl rfl rfl rfl rfl ?_
 refine AW.ret ?_
 refine RetQ.mk good (.inr rfl) rfl rfl ?_
 simp [Wk, WkL, fz, fzL, fzR, tupA, spl]

theorem w124 (a : Val) : ACall Tryz.prog 76 [.agg (valC a)] (.agg [.int .i64 1, .int .i64 (a.s.size : Int), .bool false, .str ⟨#[]⟩, .sl .ro 5 []]) := by
 refine ACall.go [(0, .agg (valC a))] Tryz.func76 rfl Tryz.ntmps76 rfl rfl rfl ?_
 refine AW.seq (Rg ?_)
 refine AL.bx good (d := 1) rfl rfl rfl rfl rfl rfl 0 rfl ?_
 refine AL.alc good (d := 2) rfl rfl rfl rfl rfl 1 rfl ?_
 refine AW.seq (Rg ?_)
 refine Aw rfl ?_
 refine Aw rfl ?_
 refine Aw rfl ?_
 refine AL.clp good (d := 6) rfl rfl rfl rfl rfl rfl rfl (w28 _) (rfl) ?_
 refine AL.st good rfl rfl rfl rfl rfl rfl rfl rfl rfl rfl rfl ?_
 refine AW.ret ?_
 refine RetQ.mk good (.inr rfl) rfl rfl ?_
 simp [Wk, WkL, fz, fzL, fzR, tupA, spl]

theorem w126 (x y : Int) : ACall Tryz.prog 78 [.int .i64 x, .int .i64 y] (.int .i64 (IntKind.i64.wrap (x + y))) := by
 refine ACall.go [(0, .int .i64 x), (1, .int .i64 y)] Tryz.func78 rfl Tryz.ntmps78 rfl rfl rfl ?_
 refine AW.seq (Rg ?_)
 refine Aw rfl ?_
 refine AW.seq (Rg ?_)
 refine Aw rfl ?_
 refine Aw rfl ?_
 refine Aw rfl ?_
 refine Aw rfl ?_
 refine AW.ret ?_
 refine RetQ.mk good (.inr rfl) rfl rfl ?_
 simp [Wk, WkL, fz, fzL, fzR, tupA, spl]

theorem w127 (x y : Int) : ACall Tryz.prog 79 [.int .i64 x, .int .i64 y] (.int .i64 (IntKind.i64.wrap (x - y))) := by
 refine ACall.go [(0, .int .i64 x), (1, .int .i64 y)] Tryz.func79 rfl Tryz.ntmps79 rfl rfl rfl ?_
 refine AW.seq (Rg ?_)
 refine Aw rfl ?_
 refine AW.seq (Rg ?_)
 refine Aw rfl ?_
 refine Aw rfl ?_
 refine Aw rfl ?_
 refine Aw rfl ?_
 refine AW.ret ?_
 refine RetQ.mk good (.inr rfl) rfl rfl ?_
 simp [Wk, WkL, fz, fzL, fzR, tupA, spl]

theorem w128 (x y : Int) : ACall Tryz.prog 80 [.int .i64 x, .int .i64 y] (.int .i64 (IntKind.i64.wrap (x * y))) := by
 refine ACall.go [(0, .int .i64 x), (1, .int .i64 y)] Tryz.func80 rfl Tryz.ntmps80 rfl rfl rfl ?_
 refine AW.seq (Rg ?_)
 refine Aw rfl ?_
 refine AW.seq (Rg ?_)
 refine Aw rfl ?_
 refine Aw rfl ?_
 refine Aw rfl ?_
 refine Aw rfl ?_
 refine AW.ret ?_
 refine RetQ.mk good (.inr rfl) rfl rfl ?_
 simp [Wk, WkL, fz, fzL, fzR, tupA, spl]

theorem w130 (x y : Int) (hy : y ≠ 0) : ACall Tryz.prog 82 [.int .i64 x, .int .i64 y] (.int .i64 (IntKind.i64.wrap (x.tdiv y))) := by
 refine ACall.go [(0, .int .i64 x), (1, .int .i64 y)] Tryz.func82 rfl Tryz.ntmps82 rfl rfl rfl ?_
 refine AW.seq (Rg ?_)
 refine Aw rfl ?_
 refine AW.seq (Rg ?_)
 refine Aw rfl ?_
 refine Aw rfl ?_
 refine AL.v good (d := 7) rfl rfl rfl (by show Option.map (fun z => (z, [])) (if y = 0 then none else some (AV.int .i64 (IntKind.i64.wrap (x.tdiv y)))) = _; rw [if_neg hy]; rfl) ?_
 refine Aw rfl ?_
 refine AW.ret ?_
 refine RetQ.mk good (.inr rfl) rfl rfl ?_
 simp [Wk, WkL, fz, fzL, fzR, tupA, spl]

theorem w131 (x y : Int) (hy : y ≠ 0) : ACall Tryz.prog 83 [.int .i64 x, .int .i64 y] (.int .i64 (x.tmod y)) := by
 refine ACall.go [(0, .int .i64 x), (1, .int .i64 y)] Tryz.func83 rfl Tryz.ntmps83 rfl rfl rfl ?_
 refine AW.seq (Rg ?_)
 refine Aw rfl ?_
 refine AW.seq (Rg ?_)
 refine Aw rfl ?_
 refine Aw rfl ?_
 refine AL.v good (d := 7) rfl rfl rfl (by show Option.map (fun z => (z, [])) (if y = 0 then none else some (AV.int .i64 (x.tmod y))) = _; rw [if_neg hy]; rfl) ?_
 refine Aw rfl ?_
 refine AW.ret ?_
 refine RetQ.mk good (.inr rfl) rfl rfl ?_
 simp [Wk, WkL, fz, fzL, fzR, tupA, spl]

theorem w125_126  : ACall Tryz.prog 77 [.func 78 [] []] (.func 89 [] [.ep [.func 78 [] []]]) := by
 refine ACall.go [(0, .func 78 [] [])] Tryz.func77 rfl Tryz.ntmps77 rfl rfl rfl ?_
 refine AW.seq (Rg ?_)
 refine AL.bx good (d := 1) rfl rfl rfl rfl rfl rfl 0 rfl ?_
 refine Aw rfl ?_
 refine AW.seq (Rg ?_)
 refine Aw rfl ?_
 refine Aw rfl ?_
 refine AW.ret ?_
 refine RetQ.mk good (.inr rfl) rfl rfl ?_
 exact rfl

theorem w125_127  : ACall Tryz.prog 77 [.func 79 [] []] (.func 89 [] [.ep [.func 79 [] []]]) := by
 refine ACall.go [(0, .func 79 [] [])] Tryz.func77 rfl Tryz.ntmps77 rfl rfl rfl ?_
 refine AW.seq (Rg ?_)
 refine AL.bx good (d := 1) rfl rfl rfl rfl rfl rfl 0 rfl ?_
 refine Aw rfl ?_
 refine AW.seq (Rg ?_)
 refine Aw rfl ?_
 refine Aw rfl ?_
 refine AW.ret ?_
 refine RetQ.mk good (.inr rfl) rfl rfl ?_
 exact rfl

theorem w125_128  : ACall Tryz.prog 77 [.func 80 [] []] (.func 89 [] [.ep [.func 80 [] []]]) := by
 refine ACall.go [(0, .func 80 [] [])] Tryz.func77 rfl Tryz.ntmps77 rfl rfl rfl ?_
 refine AW.seq (Rg ?_)
 refine AL.bx good (d := 1) rfl rfl rfl rfl rfl rfl 0 rfl ?_
 refine Aw rfl ?_
 refine AW.seq (Rg ?_)
 refine Aw rfl ?_
 refine Aw rfl ?_
 refine AW.ret ?_
 refine RetQ.mk good (.inr rfl) rfl rfl ?_
 exact rfl

theorem w129_130  : ACall Tryz.prog 81 [.func 82 [] []] (.func 90 [] [.ep [.func 82 [] []]]) := by
 refine ACall.go [(0, .func 82 [] [])] Tryz.func81 rfl Tryz.ntmps81 rfl rfl rfl ?_
 refine AW.seq (Rg ?_)
 refine AL.bx good (d := 1) rfl rfl rfl rfl rfl rfl 0 rfl ?_
 refine Aw rfl ?_
 refine AW.seq (Rg ?_)
 refine Aw rfl ?_
 refine Aw rfl ?_
 refine AW.ret ?_
 refine RetQ.mk good (.inr rfl) rfl rfl ?_
 exact rfl

theorem w129_131  : ACall Tryz.prog 81 [.func 83 [] []] (.func 90 [] [.ep [.func 83 [] []]]) := by
 refine ACall.go [(0, .func 83 [] [])] Tryz.func81 rfl Tryz.ntmps81 rfl rfl rfl ?_
 refine AW.seq (Rg ?_)
 refine AL.bx good (d := 1) rfl rfl rfl rfl rfl rfl 0 rfl ?_
 refine Aw rfl ?_
 refine AW.seq (Rg ?_)
 refine Aw rfl ?_
 refine Aw rfl ?_
 refine AW.ret ?_
 refine RetQ.mk good (.inr rfl) rfl rfl ?_
 exact rfl

theorem w147_126 (a b : Val) : ACall Tryz.prog 89 [.agg (valC a), .agg (valC b), .ep [.func 78 [] []]] (.tup [.agg [.int .i64 1, .int .i64 (IntKind.i64.wrap (a.i + b.i)), .bool false, .str ⟨#[]⟩, .sl .ro 5 []], .int .i64 0]) := by
 refine ACall.go [(0, .agg (valC a)), (1, .agg (valC b)), (2, .ep [.func 78 [] []])] Tryz.func89 rfl Tryz.ntmps89 rfl rfl rfl ?_
 refine AW.seq (Rg ?_)
 refine AL.bx good (d := 3) rfl rfl rfl rfl rfl rfl 0 rfl ?_
 refine AL.bx good (d := 4) rfl rfl rfl rfl rfl rfl 1 rfl ?_
 refine AL.alc good (d := 5) rfl rfl rfl rfl rfl 2 rfl ?_
 refine Aw rfl ?_
 refine AW.seq (Rg ?_)
 refine Aw rfl ?_
 refine Aw rfl ?_
 refine Aw rfl ?_
 refine Aw rfl ?_
 refine Aw rfl ?_
 refine AL.clp good (d := 12) rfl rfl rfl rfl rfl rfl rfl (w126 _ _) (rfl) ?_
 refine AL.clp good (d := 13) rfl rfl rfl rfl rfl rfl rfl (w28 _) (rfl) ?_
 refine AL.st good rfl rfl rfl rfl rfl rfl rfl rfl rfl rfl rfl ?_
 refine Aw rfl ?_
 refine AW.ret ?_
 refine RetQ.mk good (.inr rfl) rfl rfl ?_
 simp [Wk, WkL, fz, fzL, fzR, tupA, spl]

theorem w147_127 (a b : Val) : ACall Tryz.prog 89 [.agg (valC a), .agg (valC b), .ep [.func 79 [] []]] (.tup [.agg [.int .i64 1, .int .i64 (IntKind.i64.wrap (a.i - b.i)), .bool false, .str ⟨#[]⟩, .sl .ro 5 []], .int .i64 0]) := by
 refine ACall.go [(0, .agg (valC a)), (1, .agg (valC b)), (2, .ep [.func 79 [] []])] Tryz.func89 rfl Tryz.ntmps89 rfl rfl rfl ?_
 refine AW.seq (Rg ?_)
 refine AL.bx good (d := 3) rfl rfl rfl rfl rfl rfl 0 rfl ?_
 refine AL.bx good (d := 4) rfl rfl rfl rfl rfl rfl 1 rfl ?_
 refine AL.alc good (d := 5) rfl rfl rfl rfl rfl 2 rfl ?_
 refine Aw rfl ?_
 refine AW.seq (Rg ?_)
 refine Aw rfl ?_
 refine Aw rfl ?_
 refine Aw rfl ?_
 refine Aw rfl ?_
 refine Aw rfl ?_
 refine AL.clp good (d := 12) rfl rfl rfl rfl rfl rfl rfl (w127 _ _) (rfl) ?_
 refine AL.clp good (d := 13) rfl rfl rfl rfl rfl rfl rfl (w28 _) (rfl) ?_
 refine AL.st good rfl rfl rfl rfl rfl rfl rfl rfl rfl rfl rfl ?_
 refine Aw rfl ?_
 refine AW.ret ?_
 refine RetQ.mk good (.inr rfl) rfl rfl ?_
 simp [Wk, WkL, fz, fzL, fzR, tupA, spl]

theorem w147_128 (a b : Val) : ACall Tryz.prog 89 [.agg (valC a), .agg (valC b), .ep [.func 80 [] []]] (.tup [.agg [.int .i64 1, .int .i64 (IntKind.i64.wrap (a.i * b.i)), .bool false, .str ⟨#[]⟩, .sl .ro 5 []], .int .i64 0]) := by
 refine ACall.go [(0, .agg (valC a)), (1, .agg (valC b)), (2, .ep [.func 80 [] []])] Tryz.func89 rfl Tryz.ntmps89 rfl rfl rfl ?_
 refine AW.seq (Rg ?_)
 refine AL.bx good (d := 3) rfl rfl rfl rfl rfl rfl 0 rfl ?_
 refine AL.bx good (d := 4) rfl rfl rfl rfl rfl rfl 1 rfl ?_
 refine AL.alc good (d := 5) rfl rfl rfl rfl rfl 2 rfl ?_
 refine Aw rfl ?_
 refine AW.seq (Rg ?_)
 refine Aw rfl ?_
 refine Aw rfl ?_
 refine Aw rfl ?_
 refine Aw rfl ?_
 refine Aw rfl ?_
 refine AL.clp good (d := 12) rfl rfl rfl rfl rfl rfl rfl (w128 _ _) (rfl) ?_
 refine AL.clp good (d := 13) rfl rfl rfl rfl rfl rfl rfl (w28 _) (rfl) ?_
 refine AL.st good rfl rfl rfl rfl rfl rfl rfl rfl rfl rfl rfl ?_
 refine Aw rfl ?_
 refine AW.ret ?_
 refine RetQ.mk good (.inr rfl) rfl rfl ?_
 simp [Wk, WkL, fz, fzL, fzR, tupA, spl]

theorem w148_130 (a b : Val) : ACall Tryz.prog 90 [.agg (valC a), .agg (valC b), .ep [.func 82 [] []]] ((if b.i = 0 then .tup [.agg [.int .i64 0, .int .i64 0, .bool false, .str ⟨#[]⟩, .sl .ro 5 []], .int .i64 8] else .tup [.agg [.int .i64 1, .int .i64 (IntKind.i64.wrap (a.i.tdiv b.i)), .bool false, .str ⟨#[]⟩, .sl .ro 5 []], .int .i64 0])) := by
 refine ACall.go [(0, .agg (valC a)), (1, .agg (valC b)), (2, .ep [.func 82 [] []])] Tryz.func90 rfl Tryz.ntmps90 rfl rfl (by split <;> rfl) ?_
 refine AW.seq (Rg ?_)
 refine AL.bx good (d := 3) rfl rfl rfl rfl rfl rfl 0 rfl ?_
 refine AL.bx good (d := 4) rfl rfl rfl rfl rfl rfl 1 rfl ?_
 refine AL.alc good (d := 5) rfl rfl rfl rfl rfl 2 rfl ?_
 refine Aw rfl ?_
 refine AW.seq ?_
 refine AW.seq (Rg ?_)
 refine Aw rfl ?_
 refine Aw rfl ?_
 refine Aw rfl ?_
 refine AW.if rfl (fun h1 => ?_) (fun h1 => ?_)
 ·skip
  refine AW.seq (Rg ?_)
  refine AL.bld good (d := 10) rfl rfl rfl rfl rfl rfl rfl ?_
  refine AL.st good rfl rfl rfl rfl rfl rfl rfl rfl rfl rfl rfl ?_
  refine Aw rfl ?_
  refine AW.ret ?_
  refine RetQ.mk good (.inr rfl) rfl rfl ?_
  rw [if_pos (by simpa using h1)]
  simp [Wk, WkL, fz, fzL, fzR, tupA, spl]
 ·skip
  refine AW.skip ?_
  refine AW.seq (Rg ?_)
  refine Aw rfl ?_
  refine Aw rfl ?_
  refine Aw rfl ?_
  refine Aw rfl ?_
  refine Aw rfl ?_
  refine AL.clp good (d := 16) rfl rfl rfl rfl rfl rfl rfl (w130 _ _ (by simpa using h1)) (rfl) ?_
  refine AL.clp good (d := 17) rfl rfl rfl rfl rfl rfl rfl (w28 _) (rfl) ?_
  refine AL.st good rfl rfl rfl rfl rfl rfl rfl rfl rfl rfl rfl ?_
  refine Aw rfl ?_
  refine AW.ret ?_
  refine RetQ.mk good (.inr rfl) rfl rfl ?_
  rw [if_neg (by simpa using h1)]
  simp [Wk, WkL, fz, fzL, fzR, tupA, spl]

theorem w148_131 (a b : Val) : ACall Tryz.prog 90 [.agg (valC a), .agg (valC b), .ep [.func 83 [] []]] ((if b.i = 0 then .tup [.agg [.int .i64 0, .int .i64 0, .bool false, .str ⟨#[]⟩, .sl .ro 5 []], .int .i64 8] else .tup [.agg [.int .i64 1, .int .i64 (a.i.tmod b.i), .bool false, .str ⟨#[]⟩, .sl .ro 5 []], .int .i64 0])) := by
 refine ACall.go [(0, .agg (valC a)), (1, .agg (valC b)), (2, .ep [.func 83 [] []])] Tryz.func90 rfl Tryz.ntmps90 rfl rfl (by split <;> rfl) ?_
 refine AW.seq (Rg ?_)
 refine AL.bx good (d := 3) rfl rfl rfl rfl rfl rfl 0 rfl ?_
 refine AL.bx good (d := 4) rfl rfl rfl rfl rfl rfl 1 rfl ?_
 refine AL.alc good (d := 5) rfl rfl rfl rfl rfl 2 rfl ?_
 refine Aw rfl ?_
 refine AW.seq ?_
 refine AW.seq (Rg ?_)
 refine Aw rfl ?_
 refine Aw rfl ?_
 refine Aw rfl ?_
 refine AW.if rfl (fun h1 => ?_) (fun h1 => ?_)
 ·skip
  refine AW.seq (Rg ?_)
  refine AL.bld good (d := 10) rfl rfl rfl rfl rfl rfl rfl ?_
  refine AL.st good rfl rfl rfl rfl rfl rfl rfl rfl rfl rfl rfl ?_
  refine Aw rfl ?_
  refine AW.ret ?_
  refine RetQ.mk good (.inr rfl) rfl rfl ?_
  rw [if_pos (by simpa using h1)]
  simp [Wk, WkL, fz, fzL, fzR, tupA, spl]
 ·skip
  refine AW.skip ?_
  refine AW.seq (Rg ?_)
  refine Aw rfl ?_
  refine Aw rfl ?_
  refine Aw rfl ?_
  refine Aw rfl ?_
  refine Aw rfl ?_
  refine AL.clp good (d := 16) rfl rfl rfl rfl rfl rfl rfl (w131 _ _ (by simpa using h1)) (rfl) ?_
  refine AL.clp good (d := 17) rfl rfl rfl rfl rfl rfl rfl (w28 _) (rfl) ?_
  refine AL.st good rfl rfl rfl rfl rfl rfl rfl rfl rfl rfl rfl ?_
  refine Aw rfl ?_
  refine AW.ret ?_
  refine RetQ.mk good (.inr rfl) rfl rfl ?_
  rw [if_neg (by simpa using h1)]
  simp [Wk, WkL, fz, fzL, fzR, tupA, spl]

def tabR (tb : List (ByteArray × AV)) : List (List AV) := tb.map fun p => [.str p.1, p.2]
theorem tabR_length (tb : List (ByteArray × AV)) : (tabR tb).length = tb.length := by simp [tabR]
theorem tabR_get {tb : List (ByteArray × AV)} {j : Nat} {p : ByteArray × AV} (h : tb[j]? = some p) : (tabR tb)[j]? = some [.str p.1, p.2] := by simp [tabR, h]
def findT : List (ByteArray × AV) → ByteArray → AV
  | [], _ => .tup [.nilf, .bool false]
  | p :: r, n => if p.1.data.toList = n.data.toList then .tup [p.2, .bool true] else findT r n
def tabP (tb : List (ByteArray × AV)) : Prop := ∀ p ∈ tb, pureA p.2 = true
theorem tabR_pure (S : Nat → Bool) (hS : ∀ x, pureA x = true → inA S x = true) : ∀ tb : List (ByteArray × AV), tabP tb → inR S (tabR tb) = true
  | [], _ => rfl
  | p :: r, h => by
    show inR S ([.str p.1, p.2] :: tabR r) = true
    simp only [inR, inL, inA, hS p.2 (h p (by simp)), tabR_pure S hS r (fun q hq => h q (by simp [hq])), Bool.and_self]
theorem findT_pure : ∀ (tb : List (ByteArray × AV)) (n : ByteArray), tabP tb → pureA (findT tb n) = true
  | [], _, _ => rfl
  | p :: r, n, h => by
    unfold findT
    split
    · simp only [pureA, inA, inL, Bool.and_self, Bool.and_true]; exact h p (by simp)
    · exact findT_pure r n (fun q hq => h q (by simp [hq]))

theorem w96 (tb : List (ByteArray × AV)) (n : ByteArray) (hp : tabP tb) : ACall Tryz.prog 70 [.sl .ro 2 (tabR tb), .str n] (findT tb n) := by
 refine ACall.go [(0, .sl .ro 2 (tabR tb)), (1, .str n)] Tryz.func70 rfl Tryz.ntmps70 rfl rfl (findT_pure tb n hp) ?_
 refine AW.seq (Rg ?_)
 refine Aw rfl ?_
 refine Aw rfl ?_
 refine AW.seq ?_
 refine AW.seq (Rg ?_)
 refine Aw rfl ?_
 refine Aw rfl ?_
 refine Aw rfl ?_
 refine AW.block ?_
 refine AW.len 0 rfl (fun hl => ?_)
 rw [tabR_length] at hl
 refine AW.lp (fun k : Nat => [(1, .str n), (9, .sl .ro 2 (tabR tb)), (10, .int .i64 (tb.length : Int)), (11, .int .i64 (k : Int))]) (fun k : Nat => []) (fun k : Nat => findT (tb.drop k) n = findT tb n ∧ k ≤ tb.length) (fun k : Nat => tb.length - k) 0 ⟨(fun _ h => by cases h), List.forall_mem_cons.2 ⟨⟨rfl, rfl⟩, List.forall_mem_cons.2 ⟨⟨rfl, (by simp only [inA, Bool.true_and]; exact tabR_pure _ (fun _ h => h) _ hp)⟩, List.forall_mem_cons.2 ⟨⟨(by show some (AV.int .i64 ((tabR tb).length : Int)) = _; rw [tabR_length]), rfl⟩, List.forall_mem_cons.2 ⟨⟨rfl, rfl⟩, (fun _ h => by cases h)⟩⟩⟩⟩, (fun _ h => by cases h)⟩ ⟨rfl, Nat.zero_le _⟩ (fun k hx => ?_)
 obtain ⟨hx, hkl⟩ := hx
 refine AW.seq (Rg ?_)
 refine Aw rfl ?_
 refine AW.seq ?_
 refine AW.if rfl (fun h1 => ?_) (fun h1 => ?_)
 ·skip
  refine AW.skip ?_
  refine AW.seq ?_
  refine AW.block ?_
  refine AW.seq (Rg ?_)
  have hk : k < tb.length := by simpa using h1
  have hget : tb[k]? = some tb[k] := List.getElem?_eq_getElem hk
  refine AL.ix good (d := 13) rfl rfl rfl rfl rfl rfl rfl (Int.natCast_nonneg k) (tabR_get hget) ?_
  refine Aw rfl ?_
  refine AL.alc good (d := 7) rfl rfl rfl rfl rfl 0 rfl ?_
  refine AL.st good rfl rfl rfl rfl rfl rfl rfl rfl rfl rfl rfl ?_
  refine AW.seq (Rg ?_)
  refine Aw rfl ?_
  refine Aw rfl ?_
  refine Aw rfl ?_
  refine Aw rfl ?_
  refine AW.if rfl (fun h2 => ?_) (fun h2 => ?_)
  ·skip
   refine AW.seq (Rg ?_)
   refine Aw rfl ?_
   refine Aw rfl ?_
   refine Aw rfl ?_
   refine Aw rfl ?_
   refine AW.ret ?_
   refine RetQ.mk good (.inr rfl) rfl rfl ?_
   rw [← hx, drop_get hget]
   simp only [findT]
   rw [if_pos (by simpa [ByteArray.toList_eq] using h2)]
   simp [Wk, WkL, fz, fzL, tupA, spl, fz_pure _ _ (hp _ (List.getElem_mem hk)), Wk.refl]
  ·skip
   refine AW.skip ?_
   refine Rg ?_
   refine Aw rfl ?_
   refine Aw rfl ?_
   exact ⟨k + 1, _, _, rfl, ⟨(fun _ h => by cases h), List.forall_mem_cons.2 ⟨⟨rfl, rfl⟩, List.forall_mem_cons.2 ⟨⟨rfl, (by simp only [inA, Bool.true_and]; exact tabR_pure _ (fun _ h => h) _ hp)⟩, List.forall_mem_cons.2 ⟨⟨rfl, rfl⟩, List.forall_mem_cons.2 ⟨⟨(wnext hk hl), rfl⟩, (fun _ h => by cases h)⟩⟩⟩⟩, (fun _ h => by cases h)⟩, (by rw [drop_get hget] at hx; simp only [findT] at hx; rw [if_neg (by simpa [ByteArray.toList_eq] using h2)] at hx; exact ⟨hx, by omega⟩), (by omega)⟩
 ·skip
  refine AW.exit ?_
  refine AW.seq (Rg ?_)
  refine Aw rfl ?_
  refine AW.seq (Rg ?_)
  refine Aw rfl ?_
  refine Aw rfl ?_
  refine Aw rfl ?_
  refine AW.ret ?_
  refine RetQ.mk good (.inr rfl) rfl rfl ?_
  have hk : tb.length ≤ k := by simpa using h1
  rw [← hx, List.drop_eq_nil_of_le hk]
  simp [Wk, WkL, fz, fzL, tupA, findT]

theorem w98 (tb : List (ByteArray × AV)) (n : ByteArray) (hp : tabP tb) : ACall Tryz.prog 72 [.sl .ro 2 (tabR tb), .str n] (findT tb n) := by
 refine ACall.go [(0, .sl .ro 2 (tabR tb)), (1, .str n)] Tryz.func72 rfl Tryz.ntmps72 rfl rfl (findT_pure tb n hp) ?_
 refine AW.seq (Rg ?_)
 refine Aw rfl ?_
 refine Aw rfl ?_
 refine AW.seq ?_
 refine AW.seq (Rg ?_)
 refine Aw rfl ?_
 refine Aw rfl ?_
 refine Aw rfl ?_
 refine AW.block ?_
 refine AW.len 0 rfl (fun hl => ?_)
 rw [tabR_length] at hl
 refine AW.lp (fun k : Nat => [(1, .str n), (9, .sl .ro 2 (tabR tb)), (10, .int .i64 (tb.length : Int)), (11, .int .i64 (k : Int))]) (fun k : Nat => []) (fun k : Nat => findT (tb.drop k) n = findT tb n ∧ k ≤ tb.length) (fun k : Nat => tb.length - k) 0 ⟨(fun _ h => by cases h), List.forall_mem_cons.2 ⟨⟨rfl, rfl⟩, List.forall_mem_cons.2 ⟨⟨rfl, (by simp only [inA, Bool.true_and]; exact tabR_pure _ (fun _ h => h) _ hp)⟩, List.forall_mem_cons.2 ⟨⟨(by show some (AV.int .i64 ((tabR tb).length : Int)) = _; rw [tabR_length]), rfl⟩, List.forall_mem_cons.2 ⟨⟨rfl, rfl⟩, (fun _ h => by cases h)⟩⟩⟩⟩, (fun _ h => by cases h)⟩ ⟨rfl, Nat.zero_le _⟩ (fun k hx => ?_)
 obtain ⟨hx, hkl⟩ := hx
 refine AW.seq (Rg ?_)
 refine Aw rfl ?_
 refine AW.seq ?_
 refine AW.if rfl (fun h1 => ?_) (fun h1 => ?_)
 ·skip
  refine AW.skip ?_
  refine AW.seq ?_
  refine AW.block ?_
  refine AW.seq (Rg ?_)
  have hk : k < tb.length := by simpa using h1
  have hget : tb[k]? = some tb[k] := List.getElem?_eq_getElem hk
  refine AL.ix good (d := 13) rfl rfl rfl rfl rfl rfl rfl (Int.natCast_nonneg k) (tabR_get hget) ?_
  refine Aw rfl ?_
  refine AL.alc good (d := 7) rfl rfl rfl rfl rfl 0 rfl ?_
  refine AL.st good rfl rfl rfl rfl rfl rfl rfl rfl rfl rfl rfl ?_
  refine AW.seq (Rg ?_)
  refine Aw rfl ?_
  refine Aw rfl ?_
  refine Aw rfl ?_
  refine Aw rfl ?_
  refine AW.if rfl (fun h2 => ?_) (fun h2 => ?_)
  ·skip
   refine AW.seq (Rg ?_)
   refine Aw rfl ?_
   refine Aw rfl ?_
   refine Aw rfl ?_
   refine Aw rfl ?_
   refine AW.ret ?_
   refine RetQ.mk good (.inr rfl) rfl rfl ?_
   rw [← hx, drop_get hget]
   simp only [findT]
   rw [if_pos (by simpa [ByteArray.toList_eq] using h2)]
   simp [Wk, WkL, fz, fzL, tupA, spl, fz_pure _ _ (hp _ (List.getElem_mem hk)), Wk.refl]
  ·skip
   refine AW.skip ?_
   refine Rg ?_
   refine Aw rfl ?_
   refine Aw rfl ?_
   exact ⟨k + 1, _, _, rfl, ⟨(fun _ h => by cases h), List.forall_mem_cons.2 ⟨⟨rfl, rfl⟩, List.forall_mem_cons.2 ⟨⟨rfl, (by simp only [inA, Bool.true_and]; exact tabR_pure _ (fun _ h => h) _ hp)⟩, List.forall_mem_cons.2 ⟨⟨rfl, rfl⟩, List.forall_mem_cons.2 ⟨⟨(wnext hk hl), rfl⟩, (fun _ h => by cases h)⟩⟩⟩⟩, (fun _ h => by cases h)⟩, (by rw [drop_get hget] at hx; simp only [findT] at hx; rw [if_neg (by simpa [ByteArray.toList_eq] using h2)] at hx; exact ⟨hx, by omega⟩), (by omega)⟩
 ·skip
  refine AW.exit ?_
  refine AW.seq (Rg ?_)
  refine Aw rfl ?_
  refine AW.seq (Rg ?_)
  refine Aw rfl ?_
  refine Aw rfl ?_
  refine Aw rfl ?_
  refine AW.ret ?_
  refine RetQ.mk good (.inr rfl) rfl rfl ?_
  have hk : tb.length ≤ k := by simpa using h1
  rw [← hx, List.drop_eq_nil_of_le hk]
  simp [Wk, WkL, fz, fzL, tupA, findT]

def onesT : List (ByteArray × AV) := [(⟨#[110, 101, 103]⟩, .func 73 [] []), (⟨#[110, 111, 116]⟩, .func 74 [] []), (⟨#[108, 101, 110]⟩, .func 76 [] [])]
def twosT : List (ByteArray × AV) := [(⟨#[97, 100, 100]⟩, .func 89 [] [.ep [.func 78 [] []]]), (⟨#[115, 117, 98]⟩, .func 89 [] [.ep [.func 79 [] []]]), (⟨#[109, 117, 108]⟩, .func 89 [] [.ep [.func 80 [] []]]), (⟨#[100, 105, 118]⟩, .func 90 [] [.ep [.func 82 [] []]]), (⟨#[114, 101, 109]⟩, .func 90 [] [.ep [.func 83 [] []]]), (⟨#[101, 113]⟩, .func 84 [] []), (⟨#[108, 116]⟩, .func 86 [] []), (⟨#[99, 97, 116]⟩, .func 88 [] [])]
theorem onesT_p : tabP onesT := by
  have h : onesT.all (fun p => pureA p.2) = true := rfl
  exact fun p hp => List.all_eq_true.1 h p hp
theorem twosT_p : tabP twosT := by
  have h : twosT.all (fun p => pureA p.2) = true := rfl
  exact fun p hp => List.all_eq_true.1 h p hp

theorem w95  : ACall Tryz.prog 69 [] (.sl .ro 2 (tabR onesT)) := by
 refine ACall.go [] Tryz.func69 rfl Tryz.ntmps69 rfl rfl rfl ?_
 refine AW.seq (Rg ?_)
 refine Aw rfl ?_
 refine AW.seq (Rg ?_)
 refine AL.bld good (d := 1) rfl rfl rfl rfl rfl rfl rfl ?_
 refine AL.bld good (d := 2) rfl rfl rfl rfl rfl rfl rfl ?_
 refine AL.bld good (d := 3) rfl rfl rfl rfl rfl rfl rfl ?_
 refine AL.lit good (d := 4) rfl rfl rfl rfl rfl rfl rfl rfl rfl 0 rfl ?_
 refine Aw rfl ?_
 refine AW.ret ?_
 refine RetQ.mk good (.inr rfl) rfl rfl ?_
 exact ⟨.inl rfl, rfl, .inl rfl⟩

theorem w97  : ACall Tryz.prog 71 [] (.sl .ro 2 (tabR twosT)) := by
 refine ACall.go [] Tryz.func71 rfl Tryz.ntmps71 rfl rfl rfl ?_
 refine AW.seq (Rg ?_)
 refine Aw rfl ?_
 refine AW.seq (Rg ?_)
 refine AL.clp good (d := 1) rfl rfl rfl rfl rfl rfl rfl (w125_126) (rfl) ?_
 refine AL.bld good (d := 2) rfl rfl rfl rfl rfl rfl rfl ?_
 refine AL.clp good (d := 3) rfl rfl rfl rfl rfl rfl rfl (w125_127) (rfl) ?_
 refine AL.bld good (d := 4) rfl rfl rfl rfl rfl rfl rfl ?_
 refine AL.clp good (d := 5) rfl rfl rfl rfl rfl rfl rfl (w125_128) (rfl) ?_
 refine AL.bld good (d := 6) rfl rfl rfl rfl rfl rfl rfl ?_
 refine AL.clp good (d := 7) rfl rfl rfl rfl rfl rfl rfl (w129_130) (rfl) ?_
 refine AL.bld good (d := 8) rfl rfl rfl rfl rfl rfl rfl ?_
 refine AL.clp good (d := 9) rfl rfl rfl rfl rfl rfl rfl (w129_131) (rfl) ?_
 refine AL.bld good (d := 10) rfl rfl rfl rfl rfl rfl rfl ?_
 refine AL.bld good (d := 11) rfl rfl rfl rfl rfl rfl rfl ?_
 refine AL.bld good (d := 12) rfl rfl rfl rfl rfl rfl rfl ?_
 refine AL.bld good (d := 13) rfl rfl rfl rfl rfl rfl rfl ?_
 refine AL.lit good (d := 14) rfl rfl rfl rfl rfl rfl rfl rfl rfl 0 rfl ?_
 refine Aw rfl ?_
 refine AW.ret ?_
 refine RetQ.mk good (.inr rfl) rfl rfl ?_
 exact ⟨.inl rfl, rfl, .inl rfl⟩

end Go.Proofs.YtbcjcekoonebiaaGreat.Tl

set_option linter.unusedVariables false
set_option linter.unusedSimpArgs false
namespace Go.Proofs.YtbcjcekoonebiaaGreat.Tl
open Go Go.RowKit
theorem w132 (a b : Val) : ACall Tryz.prog 84 [.agg (valC a), .agg (valC b)] (.tup [.agg [.int .i64 2, .int .i64 0, .bool (cmpV a b == 0), .str ⟨#[]⟩, .sl .ro 5 []], .int .i64 0]) := by
 refine ACall.go [(0, .agg (valC a)), (1, .agg (valC b))] Tryz.func84 rfl Tryz.ntmps84 rfl rfl rfl ?_
 refine AW.seq (Rg ?_)
 refine AL.bx good (d := 2) rfl rfl rfl rfl rfl rfl 0 rfl ?_
 refine AL.bx good (d := 3) rfl rfl rfl rfl rfl rfl 1 rfl ?_
 refine AL.alc good (d := 4) rfl rfl rfl rfl rfl 2 rfl ?_
 refine Aw rfl ?_
 refine AW.seq (Rg ?_)
 refine Aw rfl ?_
 refine Aw rfl ?_
 refine AL.clp good (d := 8) rfl rfl rfl rfl rfl rfl rfl (w35 a b) ((by simp [pureL, inL, inA, inR, spl, encs_pure])) ?_
 refine AL.clp good (d := 9) rfl rfl rfl rfl rfl rfl rfl (w32 _) (rfl) ?_
 refine AL.st good rfl rfl rfl rfl rfl rfl rfl rfl rfl rfl rfl ?_
 refine Aw rfl ?_
 refine AW.ret ?_
 refine RetQ.mk good (.inr rfl) rfl rfl ?_
 simp [Wk, WkL, fz, fzL, fzR, tupA, spl]

theorem w133 (a b : Val) : ACall Tryz.prog 86 [.agg (valC a), .agg (valC b)] (.tup [.agg [.int .i64 2, .int .i64 0, .bool (decide (cmpV a b < 0)), .str ⟨#[]⟩, .sl .ro 5 []], .int .i64 0]) := by
 refine ACall.go [(0, .agg (valC a)), (1, .agg (valC b))] Tryz.func86 rfl Tryz.ntmps86 rfl rfl rfl ?_
 refine AW.seq (Rg ?_)
 refine AL.bx good (d := 2) rfl rfl rfl rfl rfl rfl 0 rfl ?_
 refine AL.bx good (d := 3) rfl rfl rfl rfl rfl rfl 1 rfl ?_
 refine AL.alc good (d := 4) rfl rfl rfl rfl rfl 2 rfl ?_
 refine Aw rfl ?_
 refine AW.seq (Rg ?_)
 refine Aw rfl ?_
 refine Aw rfl ?_
 refine AL.clp good (d := 8) rfl rfl rfl rfl rfl rfl rfl (w69 a b) ((by simp [pureL, inL, inA, inR, spl, encs_pure])) ?_
 refine Aw rfl ?_
 refine AL.clp good (d := 10) rfl rfl rfl rfl rfl rfl rfl (w32 _) (rfl) ?_
 refine AL.st good rfl rfl rfl rfl rfl rfl rfl rfl rfl rfl rfl ?_
 refine Aw rfl ?_
 refine AW.ret ?_
 refine RetQ.mk good (.inr rfl) rfl rfl ?_
 simp [Wk, WkL, fz, fzL, fzR, tupA, spl]

theorem w134 (a b : Val) (hs : a.s.size + b.s.size ≤ 9223372036854775807) : ACall Tryz.prog 88 [.agg (valC a), .agg (valC b)] ((if 255 < a.s.size + b.s.size then .tup [.agg [.int .i64 0, .int .i64 0, .bool false, .str ⟨#[]⟩, .sl .ro 5 []], .int .i64 4] else .tup [.agg [.int .i64 3, .int .i64 0, .bool false, .str (a.s ++ b.s), .sl .ro 5 []], .int .i64 0])) := by
 refine ACall.go [(0, .agg (valC a)), (1, .agg (valC b))] Tryz.func88 rfl Tryz.ntmps88 rfl rfl (by split <;> rfl) ?_
 refine AW.seq (Rg ?_)
 refine AL.bx good (d := 2) rfl rfl rfl rfl rfl rfl 0 rfl ?_
 refine AL.bx good (d := 3) rfl rfl rfl rfl rfl rfl 1 rfl ?_
 refine AL.alc good (d := 4) rfl rfl rfl rfl rfl 2 rfl ?_
 refine Aw rfl ?_
 refine AW.seq ?_
 refine AW.seq (Rg ?_)
 refine Aw rfl ?_
 refine Aw rfl ?_
 refine Aw rfl ?_
 refine Aw rfl ?_
 refine Aw rfl ?_
 refine Aw rfl ?_
 refine Aw rfl ?_
 refine Aw rfl ?_
 refine AW.if rfl (fun h1 => ?_) (fun h1 => ?_)
 ·skip
  refine AW.seq (Rg ?_)
  refine AL.bld good (d := 14) rfl rfl rfl rfl rfl rfl rfl ?_
  refine AL.st good rfl rfl rfl rfl rfl rfl rfl rfl rfl rfl rfl ?_
  refine Aw rfl ?_
  refine AW.ret ?_
  refine RetQ.mk good (.inr rfl) rfl rfl ?_
  rw [wrap64 (by omega) (by omega)] at h1
  rw [if_pos (by simpa using (by simpa using h1 : (255 : Int) < (a.s.size : Int) + (b.s.size : Int)) |> fun h => by omega)]
  simp [Wk, WkL, fz, fzL, fzR, tupA, spl]
 ·skip
  refine AW.skip ?_
  refine AW.seq (Rg ?_)
  refine Aw rfl ?_
  refine Aw rfl ?_
  refine Aw rfl ?_
  refine Aw rfl ?_
  refine AL.v good (d := 19) rfl rfl rfl (by show Option.map (fun z => (z, [])) (if a.s.size + b.s.size ≤ 9223372036854775807 then some (AV.str (a.s ++ b.s)) else none) = _; rw [if_pos hs]; rfl) ?_
  refine AL.clp good (d := 20) rfl rfl rfl rfl rfl rfl rfl (w33 _) (rfl) ?_
  refine AL.st good rfl rfl rfl rfl rfl rfl rfl rfl rfl rfl rfl ?_
  refine Aw rfl ?_
  refine AW.ret ?_
  refine RetQ.mk good (.inr rfl) rfl rfl ?_
  rw [wrap64 (by omega) (by omega)] at h1
  have hq : (a.s.size : Int) + (b.s.size : Int) ≤ 255 := by simpa using h1
  rw [if_neg (by omega)]
  simp [Wk, WkL, fz, fzL, fzR, tupA, spl]

theorem w134_l (a b : Val) (hs : a.s.size + b.s.size ≤ 9223372036854775807) (h : 255 < a.s.size + b.s.size) : ACall Tryz.prog 88 [.agg (valC a), .agg (valC b)] (.tup [.agg [.int .i64 0, .int .i64 0, .bool false, .str ⟨#[]⟩, .sl .ro 5 []], .int .i64 4]) := by
 have := w134 a b hs
 rw [if_pos h] at this
 exact this
theorem w134_o (a b : Val) (h : ¬ 255 < a.s.size + b.s.size) : ACall Tryz.prog 88 [.agg (valC a), .agg (valC b)] (.tup [.agg [.int .i64 3, .int .i64 0, .bool false, .str (a.s ++ b.s), .sl .ro 5 []], .int .i64 0]) := by
 have := w134 a b (by omega)
 rw [if_neg h] at this
 exact this

theorem w148_130_z (a b : Val) (h : b.i = 0) : ACall Tryz.prog 90 [.agg (valC a), .agg (valC b), .ep [.func 82 [] []]] (.tup [.agg [.int .i64 0, .int .i64 0, .bool false, .str ⟨#[]⟩, .sl .ro 5 []], .int .i64 8]) := by
 have := w148_130 a b
 rw [if_pos h] at this
 exact this
theorem w148_130_n (a b : Val) (h : ¬ b.i = 0) : ACall Tryz.prog 90 [.agg (valC a), .agg (valC b), .ep [.func 82 [] []]] (.tup [.agg [.int .i64 1, .int .i64 (IntKind.i64.wrap (a.i.tdiv b.i)), .bool false, .str ⟨#[]⟩, .sl .ro 5 []], .int .i64 0]) := by
 have := w148_130 a b
 rw [if_neg h] at this
 exact this

theorem w148_131_z (a b : Val) (h : b.i = 0) : ACall Tryz.prog 90 [.agg (valC a), .agg (valC b), .ep [.func 83 [] []]] (.tup [.agg [.int .i64 0, .int .i64 0, .bool false, .str ⟨#[]⟩, .sl .ro 5 []], .int .i64 8]) := by
 have := w148_131 a b
 rw [if_pos h] at this
 exact this
theorem w148_131_n (a b : Val) (h : ¬ b.i = 0) : ACall Tryz.prog 90 [.agg (valC a), .agg (valC b), .ep [.func 83 [] []]] (.tup [.agg [.int .i64 1, .int .i64 (a.i.tmod b.i), .bool false, .str ⟨#[]⟩, .sl .ro 5 []], .int .i64 0]) := by
 have := w148_131 a b
 rw [if_neg h] at this
 exact this

theorem w61_neg (op : ByteArray) (a : Val) (hf : findT onesT op = .tup [.func 73 [] [], .bool true]) : ACall Tryz.prog 56 [.str op, .agg (valC a)] (.tup [.agg [.int .i64 1, .int .i64 (IntKind.i64.wrap (0 - a.i)), .bool false, .str ⟨#[]⟩, .sl .ro 5 []], .bool true]) := by
 refine ACall.go [(0, .str op), (1, .agg (valC a))] Tryz.func56 rfl Tryz.ntmps56 rfl rfl rfl ?_
 refine AW.seq (Rg ?_)
 refine AL.bx good (d := 3) rfl rfl rfl rfl rfl rfl 0 rfl ?_
 refine AL.alc good (d := 4) rfl rfl rfl rfl rfl 1 rfl ?_
 refine Aw rfl ?_
 refine AW.seq (Rg ?_)
 refine AL.clp good (d := 9) rfl rfl rfl rfl rfl rfl rfl (w95) (rfl) ?_
 refine Aw rfl ?_
 refine AL.clp good (d := 11) rfl rfl rfl rfl rfl rfl rfl (by have hq := w96 onesT op onesT_p; rw [hf] at hq; exact hq) (rfl) ?_
 refine Aw rfl ?_
 refine Aw rfl ?_
 refine Aw rfl ?_
 refine Aw rfl ?_
 refine Aw rfl ?_
 refine AW.seq ?_
 refine AW.seq (Rg ?_)
 refine Aw rfl ?_
 refine Aw rfl ?_
 refine AW.if rfl (fun h => by cases h) (fun _ => ?_)
 refine AW.skip ?_
 refine AW.seq (Rg ?_)
 refine Aw rfl ?_
 refine Aw rfl ?_
 refine AL.clp good (d := 19) rfl rfl rfl rfl rfl rfl rfl (w122 a) ((by simp [pureL, inL, inA, inR, spl, encs_pure])) ?_
 refine AL.st good rfl rfl rfl rfl rfl rfl rfl rfl rfl rfl rfl ?_
 refine Aw rfl ?_
 refine AW.ret ?_
 refine RetQ.mk good (.inr rfl) rfl rfl ?_
 simp [Wk, WkL, fz, fzL, fzR, tupA, spl]

theorem w61_not (op : ByteArray) (a : Val) (hf : findT onesT op = .tup [.func 74 [] [], .bool true]) : ACall Tryz.prog 56 [.str op, .agg (valC a)] (.tup [.agg [.int .i64 2, .int .i64 0, .bool (!a.b), .str ⟨#[]⟩, .sl .ro 5 []], .bool true]) := by
 refine ACall.go [(0, .str op), (1, .agg (valC a))] Tryz.func56 rfl Tryz.ntmps56 rfl rfl rfl ?_
 refine AW.seq (Rg ?_)
 refine AL.bx good (d := 3) rfl rfl rfl rfl rfl rfl 0 rfl ?_
 refine AL.alc good (d := 4) rfl rfl rfl rfl rfl 1 rfl ?_
 refine Aw rfl ?_
 refine AW.seq (Rg ?_)
 refine AL.clp good (d := 9) rfl rfl rfl rfl rfl rfl rfl (w95) (rfl) ?_
 refine Aw rfl ?_
 refine AL.clp good (d := 11) rfl rfl rfl rfl rfl rfl rfl (by have hq := w96 onesT op onesT_p; rw [hf] at hq; exact hq) (rfl) ?_
 refine Aw rfl ?_
 refine Aw rfl ?_
 refine Aw rfl ?_
 refine Aw rfl ?_
 refine Aw rfl ?_
 refine AW.seq ?_
 refine AW.seq (Rg ?_)
 refine Aw rfl ?_
 refine Aw rfl ?_
 refine AW.if rfl (fun h => by cases h) (fun _ => ?_)
 refine AW.skip ?_
 refine AW.seq (Rg ?_)
 refine Aw rfl ?_
 refine Aw rfl ?_
 refine AL.clp good (d := 19) rfl rfl rfl rfl rfl rfl rfl (w123 a) ((by simp [pureL, inL, inA, inR, spl, encs_pure])) ?_
 refine AL.st good rfl rfl rfl rfl rfl rfl rfl rfl rfl rfl rfl ?_
 refine Aw rfl ?_
 refine AW.ret ?_
 refine RetQ.mk good (.inr rfl) rfl rfl ?_
 simp [Wk, WkL, fz, fzL, fzR, tupA, spl]

theorem w61_len (op : ByteArray) (a : Val) (hf : findT onesT op = .tup [.func 76 [] [], .bool true]) : ACall Tryz.prog 56 [.str op, .agg (valC a)] (.tup [.agg [.int .i64 1, .int .i64 (a.s.size : Int), .bool false, .str ⟨#[]⟩, .sl .ro 5 []], .bool true]) := by
 refine ACall.go [(0, .str op), (1, .agg (valC a))] Tryz.func56 rfl Tryz.ntmps56 rfl rfl rfl ?_
 refine AW.seq (Rg ?_)
 refine AL.bx good (d := 3) rfl rfl rfl rfl rfl rfl 0 rfl ?_
 refine AL.alc good (d := 4) rfl rfl rfl rfl rfl 1 rfl ?_
 refine Aw rfl ?_
 refine AW.seq (Rg ?_)
 refine AL.clp good (d := 9) rfl rfl rfl rfl rfl rfl rfl (w95) (rfl) ?_
 refine Aw rfl ?_
 refine AL.clp good (d := 11) rfl rfl rfl rfl rfl rfl rfl (by have hq := w96 onesT op onesT_p; rw [hf] at hq; exact hq) (rfl) ?_
 refine Aw rfl ?_
 refine Aw rfl ?_
 refine Aw rfl ?_
 refine Aw rfl ?_
 refine Aw rfl ?_
 refine AW.seq ?_
 refine AW.seq (Rg ?_)
 refine Aw rfl ?_
 refine Aw rfl ?_
 refine AW.if rfl (fun h => by cases h) (fun _ => ?_)
 refine AW.skip ?_
 refine AW.seq (Rg ?_)
 refine Aw rfl ?_
 refine Aw rfl ?_
 refine AL.clp good (d := 19) rfl rfl rfl rfl rfl rfl rfl (w124 a) ((by simp [pureL, inL, inA, inR, spl, encs_pure])) ?_
 refine AL.st good rfl rfl rfl rfl rfl rfl rfl rfl rfl rfl rfl ?_
 refine Aw rfl ?_
 refine AW.ret ?_
 refine RetQ.mk good (.inr rfl) rfl rfl ?_
 simp [Wk, WkL, fz, fzL, fzR, tupA, spl]

theorem w62_add (op : ByteArray) (a b : Val) (hf : findT twosT op = .tup [.func 89 [] [.ep [.func 78 [] []]], .bool true])  : ACall Tryz.prog 57 [.str op, .agg (valC a), .agg (valC b)] (.tup [.agg [.int .i64 1, .int .i64 (IntKind.i64.wrap (a.i + b.i)), .bool false, .str ⟨#[]⟩, .sl .ro 5 []], .int .i64 0, .bool true]) := by
 refine ACall.go [(0, .str op), (1, .agg (valC a)), (2, .agg (valC b))] Tryz.func57 rfl Tryz.ntmps57 rfl rfl rfl ?_
 refine AW.seq (Rg ?_)
 refine AL.bx good (d := 4) rfl rfl rfl rfl rfl rfl 0 rfl ?_
 refine AL.bx good (d := 5) rfl rfl rfl rfl rfl rfl 1 rfl ?_
 refine AL.alc good (d := 6) rfl rfl rfl rfl rfl 2 rfl ?_
 refine Aw rfl ?_
 refine Aw rfl ?_
 refine AW.seq (Rg ?_)
 refine AL.clp good (d := 14) rfl rfl rfl rfl rfl rfl rfl (w97) (rfl) ?_
 refine Aw rfl ?_
 refine AL.clp good (d := 16) rfl rfl rfl rfl rfl rfl rfl (by have hq := w98 twosT op twosT_p; rw [hf] at hq; exact hq) (rfl) ?_
 refine Aw rfl ?_
 refine Aw rfl ?_
 refine Aw rfl ?_
 refine Aw rfl ?_
 refine Aw rfl ?_
 refine AW.seq ?_
 refine AW.seq (Rg ?_)
 refine Aw rfl ?_
 refine Aw rfl ?_
 refine AW.if rfl (fun h => by cases h) (fun _ => ?_)
 refine AW.skip ?_
 refine AW.seq (Rg ?_)
 refine Aw rfl ?_
 refine Aw rfl ?_
 refine Aw rfl ?_
 refine AL.clp good (d := 26) rfl rfl rfl rfl rfl rfl rfl (w147_126 a b) ((by simp [pureL, inL, inA, inR, spl, encs_pure])) ?_
 refine Aw rfl ?_
 refine Aw rfl ?_
 refine Aw rfl ?_
 refine AL.alc good (d := 11) rfl rfl rfl rfl rfl 3 rfl ?_
 refine AL.st good rfl rfl rfl rfl rfl rfl rfl rfl rfl rfl rfl ?_
 refine Aw rfl ?_
 refine AW.seq (Rg ?_)
 refine Aw rfl ?_
 refine Aw rfl ?_
 refine AL.st good rfl rfl rfl rfl rfl rfl rfl rfl rfl rfl rfl ?_
 refine Aw rfl ?_
 refine Aw rfl ?_
 refine AW.ret ?_
 refine RetQ.mk good (.inr rfl) rfl rfl ?_
 simp [Wk, WkL, fz, fzL, fzR, tupA, spl]

theorem w62_sub (op : ByteArray) (a b : Val) (hf : findT twosT op = .tup [.func 89 [] [.ep [.func 79 [] []]], .bool true])  : ACall Tryz.prog 57 [.str op, .agg (valC a), .agg (valC b)] (.tup [.agg [.int .i64 1, .int .i64 (IntKind.i64.wrap (a.i - b.i)), .bool false, .str ⟨#[]⟩, .sl .ro 5 []], .int .i64 0, .bool true]) := by
 refine ACall.go [(0, .str op), (1, .agg (valC a)), (2, .agg (valC b))] Tryz.func57 rfl Tryz.ntmps57 rfl rfl rfl ?_
 refine AW.seq (Rg ?_)
 refine AL.bx good (d := 4) rfl rfl rfl rfl rfl rfl 0 rfl ?_
 refine AL.bx good (d := 5) rfl rfl rfl rfl rfl rfl 1 rfl ?_
 refine AL.alc good (d := 6) rfl rfl rfl rfl rfl 2 rfl ?_
 refine Aw rfl ?_
 refine Aw rfl ?_
 refine AW.seq (Rg ?_)
 refine AL.clp good (d := 14) rfl rfl rfl rfl rfl rfl rfl (w97) (rfl) ?_
 refine Aw rfl ?_
 refine AL.clp good (d := 16) rfl rfl rfl rfl rfl rfl rfl (by have hq := w98 twosT op twosT_p; rw [hf] at hq; exact hq) (rfl) ?_
 refine Aw rfl ?_
 refine Aw rfl ?_
 refine Aw rfl ?_
 refine Aw rfl ?_
 refine Aw rfl ?_
 refine AW.seq ?_
 refine AW.seq (Rg ?_)
 refine Aw rfl ?_
 refine Aw rfl ?_
 refine AW.if rfl (fun h => by cases h) (fun _ => ?_)
 refine AW.skip ?_
 refine AW.seq (Rg ?_)
 refine Aw rfl ?_
 refine Aw rfl ?_
 refine Aw rfl ?_
 refine AL.clp good (d := 26) rfl rfl rfl rfl rfl rfl rfl (w147_127 a b) ((by simp [pureL, inL, inA, inR, spl, encs_pure])) ?_
 refine Aw rfl ?_
 refine Aw rfl ?_
 refine Aw rfl ?_
 refine AL.alc good (d := 11) rfl rfl rfl rfl rfl 3 rfl ?_
 refine AL.st good rfl rfl rfl rfl rfl rfl rfl rfl rfl rfl rfl ?_
 refine Aw rfl ?_
 refine AW.seq (Rg ?_)
 refine Aw rfl ?_
 refine Aw rfl ?_
 refine AL.st good rfl rfl rfl rfl rfl rfl rfl rfl rfl rfl rfl ?_
 refine Aw rfl ?_
 refine Aw rfl ?_
 refine AW.ret ?_
 refine RetQ.mk good (.inr rfl) rfl rfl ?_
 simp [Wk, WkL, fz, fzL, fzR, tupA, spl]

theorem w62_mul (op : ByteArray) (a b : Val) (hf : findT twosT op = .tup [.func 89 [] [.ep [.func 80 [] []]], .bool true])  : ACall Tryz.prog 57 [.str op, .agg (valC a), .agg (valC b)] (.tup [.agg [.int .i64 1, .int .i64 (IntKind.i64.wrap (a.i * b.i)), .bool false, .str ⟨#[]⟩, .sl .ro 5 []], .int .i64 0, .bool true]) := by
 refine ACall.go [(0, .str op), (1, .agg (valC a)), (2, .agg (valC b))] Tryz.func57 rfl Tryz.ntmps57 rfl rfl rfl ?_
 refine AW.seq (Rg ?_)
 refine AL.bx good (d := 4) rfl rfl rfl rfl rfl rfl 0 rfl ?_
 refine AL.bx good (d := 5) rfl rfl rfl rfl rfl rfl 1 rfl ?_
 refine AL.alc good (d := 6) rfl rfl rfl rfl rfl 2 rfl ?_
 refine Aw rfl ?_
 refine Aw rfl ?_
 refine AW.seq (Rg ?_)
 refine AL.clp good (d := 14) rfl rfl rfl rfl rfl rfl rfl (w97) (rfl) ?_
 refine Aw rfl ?_
 refine AL.clp good (d := 16) rfl rfl rfl rfl rfl rfl rfl (by have hq := w98 twosT op twosT_p; rw [hf] at hq; exact hq) (rfl) ?_
 refine Aw rfl ?_
 refine Aw rfl ?_
 refine Aw rfl ?_
 refine Aw rfl ?_
 refine Aw rfl ?_
 refine AW.seq ?_
 refine AW.seq (Rg ?_)
 refine Aw rfl ?_
 refine Aw rfl ?_
 refine AW.if rfl (fun h => by cases h) (fun _ => ?_)
 refine AW.skip ?_
 refine AW.seq (Rg ?_)
 refine Aw rfl ?_
 refine Aw rfl ?_
 refine Aw rfl ?_
 refine AL.clp good (d := 26) rfl rfl rfl rfl rfl rfl rfl (w147_128 a b) ((by simp [pureL, inL, inA, inR, spl, encs_pure])) ?_
 refine Aw rfl ?_
 refine Aw rfl ?_
 refine Aw rfl ?_
 refine AL.alc good (d := 11) rfl rfl rfl rfl rfl 3 rfl ?_
 refine AL.st good rfl rfl rfl rfl rfl rfl rfl rfl rfl rfl rfl ?_
 refine Aw rfl ?_
 refine AW.seq (Rg ?_)
 refine Aw rfl ?_
 refine Aw rfl ?_
 refine AL.st good rfl rfl rfl rfl rfl rfl rfl rfl rfl rfl rfl ?_
 refine Aw rfl ?_
 refine Aw rfl ?_
 refine AW.ret ?_
 refine RetQ.mk good (.inr rfl) rfl rfl ?_
 simp [Wk, WkL, fz, fzL, fzR, tupA, spl]

theorem w62_divz (op : ByteArray) (a b : Val) (hf : findT twosT op = .tup [.func 90 [] [.ep [.func 82 [] []]], .bool true]) (hc : b.i = 0) : ACall Tryz.prog 57 [.str op, .agg (valC a), .agg (valC b)] (.tup [.agg [.int .i64 0, .int .i64 0, .bool false, .str ⟨#[]⟩, .sl .ro 5 []], .int .i64 8, .bool true]) := by
 refine ACall.go [(0, .str op), (1, .agg (valC a)), (2, .agg (valC b))] Tryz.func57 rfl Tryz.ntmps57 rfl rfl rfl ?_
 refine AW.seq (Rg ?_)
 refine AL.bx good (d := 4) rfl rfl rfl rfl rfl rfl 0 rfl ?_
 refine AL.bx good (d := 5) rfl rfl rfl rfl rfl rfl 1 rfl ?_
 refine AL.alc good (d := 6) rfl rfl rfl rfl rfl 2 rfl ?_
 refine Aw rfl ?_
 refine Aw rfl ?_
 refine AW.seq (Rg ?_)
 refine AL.clp good (d := 14) rfl rfl rfl rfl rfl rfl rfl (w97) (rfl) ?_
 refine Aw rfl ?_
 refine AL.clp good (d := 16) rfl rfl rfl rfl rfl rfl rfl (by have hq := w98 twosT op twosT_p; rw [hf] at hq; exact hq) (rfl) ?_
 refine Aw rfl ?_
 refine Aw rfl ?_
 refine Aw rfl ?_
 refine Aw rfl ?_
 refine Aw rfl ?_
 refine AW.seq ?_
 refine AW.seq (Rg ?_)
 refine Aw rfl ?_
 refine Aw rfl ?_
 refine AW.if rfl (fun h => by cases h) (fun _ => ?_)
 refine AW.skip ?_
 refine AW.seq (Rg ?_)
 refine Aw rfl ?_
 refine Aw rfl ?_
 refine Aw rfl ?_
 refine AL.clp good (d := 26) rfl rfl rfl rfl rfl rfl rfl (w148_130_z a b hc) ((by simp [pureL, inL, inA, inR, spl, encs_pure])) ?_
 refine Aw rfl ?_
 refine Aw rfl ?_
 refine Aw rfl ?_
 refine AL.alc good (d := 11) rfl rfl rfl rfl rfl 3 rfl ?_
 refine AL.st good rfl rfl rfl rfl rfl rfl rfl rfl rfl rfl rfl ?_
 refine Aw rfl ?_
 refine AW.seq (Rg ?_)
 refine Aw rfl ?_
 refine Aw rfl ?_
 refine AL.st good rfl rfl rfl rfl rfl rfl rfl rfl rfl rfl rfl ?_
 refine Aw rfl ?_
 refine Aw rfl ?_
 refine AW.ret ?_
 refine RetQ.mk good (.inr rfl) rfl rfl ?_
 simp [Wk, WkL, fz, fzL, fzR, tupA, spl]

theorem w62_divn (op : ByteArray) (a b : Val) (hf : findT twosT op = .tup [.func 90 [] [.ep [.func 82 [] []]], .bool true]) (hc : ¬ b.i = 0) : ACall Tryz.prog 57 [.str op, .agg (valC a), .agg (valC b)] (.tup [.agg [.int .i64 1, .int .i64 (IntKind.i64.wrap (a.i.tdiv b.i)), .bool false, .str ⟨#[]⟩, .sl .ro 5 []], .int .i64 0, .bool true]) := by
 refine ACall.go [(0, .str op), (1, .agg (valC a)), (2, .agg (valC b))] Tryz.func57 rfl Tryz.ntmps57 rfl rfl rfl ?_
 refine AW.seq (Rg ?_)
 refine AL.bx good (d := 4) rfl rfl rfl rfl rfl rfl 0 rfl ?_
 refine AL.bx good (d := 5) rfl rfl rfl rfl rfl rfl 1 rfl ?_
 refine AL.alc good (d := 6) rfl rfl rfl rfl rfl 2 rfl ?_
 refine Aw rfl ?_
 refine Aw rfl ?_
 refine AW.seq (Rg ?_)
 refine AL.clp good (d := 14) rfl rfl rfl rfl rfl rfl rfl (w97) (rfl) ?_
 refine Aw rfl ?_
 refine AL.clp good (d := 16) rfl rfl rfl rfl rfl rfl rfl (by have hq := w98 twosT op twosT_p; rw [hf] at hq; exact hq) (rfl) ?_
 refine Aw rfl ?_
 refine Aw rfl ?_
 refine Aw rfl ?_
 refine Aw rfl ?_
 refine Aw rfl ?_
 refine AW.seq ?_
 refine AW.seq (Rg ?_)
 refine Aw rfl ?_
 refine Aw rfl ?_
 refine AW.if rfl (fun h => by cases h) (fun _ => ?_)
 refine AW.skip ?_
 refine AW.seq (Rg ?_)
 refine Aw rfl ?_
 refine Aw rfl ?_
 refine Aw rfl ?_
 refine AL.clp good (d := 26) rfl rfl rfl rfl rfl rfl rfl (w148_130_n a b hc) ((by simp [pureL, inL, inA, inR, spl, encs_pure])) ?_
 refine Aw rfl ?_
 refine Aw rfl ?_
 refine Aw rfl ?_
 refine AL.alc good (d := 11) rfl rfl rfl rfl rfl 3 rfl ?_
 refine AL.st good rfl rfl rfl rfl rfl rfl rfl rfl rfl rfl rfl ?_
 refine Aw rfl ?_
 refine AW.seq (Rg ?_)
 refine Aw rfl ?_
 refine Aw rfl ?_
 refine AL.st good rfl rfl rfl rfl rfl rfl rfl rfl rfl rfl rfl ?_
 refine Aw rfl ?_
 refine Aw rfl ?_
 refine AW.ret ?_
 refine RetQ.mk good (.inr rfl) rfl rfl ?_
 simp [Wk, WkL, fz, fzL, fzR, tupA, spl]

theorem w62_remz (op : ByteArray) (a b : Val) (hf : findT twosT op = .tup [.func 90 [] [.ep [.func 83 [] []]], .bool true]) (hc : b.i = 0) : ACall Tryz.prog 57 [.str op, .agg (valC a), .agg (valC b)] (.tup [.agg [.int .i64 0, .int .i64 0, .bool false, .str ⟨#[]⟩, .sl .ro 5 []], .int .i64 8, .bool true]) := by
 refine ACall.go [(0, .str op), (1, .agg (valC a)), (2, .agg (valC b))] Tryz.func57 rfl Tryz.ntmps57 rfl rfl rfl ?_
 refine AW.seq (Rg ?_)
 refine AL.bx good (d := 4) rfl rfl rfl rfl rfl rfl 0 rfl ?_
 refine AL.bx good (d := 5) rfl rfl rfl rfl rfl rfl 1 rfl ?_
 refine AL.alc good (d := 6) rfl rfl rfl rfl rfl 2 rfl ?_
 refine Aw rfl ?_
 refine Aw rfl ?_
 refine AW.seq (Rg ?_)
 refine AL.clp good (d := 14) rfl rfl rfl rfl rfl rfl rfl (w97) (rfl) ?_
 refine Aw rfl ?_
 refine AL.clp good (d := 16) rfl rfl rfl rfl rfl rfl rfl (by have hq := w98 twosT op twosT_p; rw [hf] at hq; exact hq) (rfl) ?_
 refine Aw rfl ?_
 refine Aw rfl ?_
 refine Aw rfl ?_
 refine Aw rfl ?_
 refine Aw rfl ?_
 refine AW.seq ?_
 refine AW.seq (Rg ?_)
 refine Aw rfl ?_
 refine Aw rfl ?_
 refine AW.if rfl (fun h => by cases h) (fun _ => ?_)
 refine AW.skip ?_
 refine AW.seq (Rg ?_)
 refine Aw rfl ?_
 refine Aw rfl ?_
 refine Aw rfl ?_
 refine AL.clp good (d := 26) rfl rfl rfl rfl rfl rfl rfl (w148_131_z a b hc) ((by simp [pureL, inL, inA, inR, spl, encs_pure])) ?_
 refine Aw rfl ?_
 refine Aw rfl ?_
 refine Aw rfl ?_
 refine AL.alc good (d := 11) rfl rfl rfl rfl rfl 3 rfl ?_
 refine AL.st good rfl rfl rfl rfl rfl rfl rfl rfl rfl rfl rfl ?_
 refine Aw rfl ?_
 refine AW.seq (Rg ?_)
 refine Aw rfl ?_
 refine Aw rfl ?_
 refine AL.st good rfl rfl rfl rfl rfl rfl rfl rfl rfl rfl rfl ?_
 refine Aw rfl ?_
 refine Aw rfl ?_
 refine AW.ret ?_
 refine RetQ.mk good (.inr rfl) rfl rfl ?_
 simp [Wk, WkL, fz, fzL, fzR, tupA, spl]

theorem w62_remn (op : ByteArray) (a b : Val) (hf : findT twosT op = .tup [.func 90 [] [.ep [.func 83 [] []]], .bool true]) (hc : ¬ b.i = 0) : ACall Tryz.prog 57 [.str op, .agg (valC a), .agg (valC b)] (.tup [.agg [.int .i64 1, .int .i64 (a.i.tmod b.i), .bool false, .str ⟨#[]⟩, .sl .ro 5 []], .int .i64 0, .bool true]) := by
 refine ACall.go [(0, .str op), (1, .agg (valC a)), (2, .agg (valC b))] Tryz.func57 rfl Tryz.ntmps57 rfl rfl rfl ?_
 refine AW.seq (Rg ?_)
 refine AL.bx good (d := 4) rfl rfl rfl rfl rfl rfl 0 rfl ?_
 refine AL.bx good (d := 5) rfl rfl rfl rfl rfl rfl 1 rfl ?_
 refine AL.alc good (d := 6) rfl rfl rfl rfl rfl 2 rfl ?_
 refine Aw rfl ?_
 refine Aw rfl ?_
 refine AW.seq (Rg ?_)
 refine AL.clp good (d := 14) rfl rfl rfl rfl rfl rfl rfl (w97) (rfl) ?_
 refine Aw rfl ?_
 refine AL.clp good (d := 16) rfl rfl rfl rfl rfl rfl rfl (by have hq := w98 twosT op twosT_p; rw [hf] at hq; exact hq) (rfl) ?_
 refine Aw rfl ?_
 refine Aw rfl ?_
 refine Aw rfl ?_
 refine Aw rfl ?_
 refine Aw rfl ?_
 refine AW.seq ?_
 refine AW.seq (Rg ?_)
 refine Aw rfl ?_
 refine Aw rfl ?_
 refine AW.if rfl (fun h => by cases h) (fun _ => ?_)
 refine AW.skip ?_
 refine AW.seq (Rg ?_)
 refine Aw rfl ?_
 refine Aw rfl ?_
 refine Aw rfl ?_
 refine AL.clp good (d := 26) rfl rfl rfl rfl rfl rfl rfl (w148_131_n a b hc) ((by simp [pureL, inL, inA, inR, spl, encs_pure])) ?_
 refine Aw rfl ?_
 refine Aw rfl ?_
 refine Aw rfl ?_
 refine AL.alc good (d := 11) rfl rfl rfl rfl rfl 3 rfl ?_
 refine AL.st good rfl rfl rfl rfl rfl rfl rfl rfl rfl rfl rfl ?_
 refine Aw rfl ?_
 refine AW.seq (Rg ?_)
 refine Aw rfl ?_
 refine Aw rfl ?_
 refine AL.st good rfl rfl rfl rfl rfl rfl rfl rfl rfl rfl rfl ?_
 refine Aw rfl ?_
 refine Aw rfl ?_
 refine AW.ret ?_
 refine RetQ.mk good (.inr rfl) rfl rfl ?_
 simp [Wk, WkL, fz, fzL, fzR, tupA, spl]

theorem w62_eq (op : ByteArray) (a b : Val) (hf : findT twosT op = .tup [.func 84 [] [], .bool true])  : ACall Tryz.prog 57 [.str op, .agg (valC a), .agg (valC b)] (.tup [.agg [.int .i64 2, .int .i64 0, .bool (cmpV a b == 0), .str ⟨#[]⟩, .sl .ro 5 []], .int .i64 0, .bool true]) := by
 refine ACall.go [(0, .str op), (1, .agg (valC a)), (2, .agg (valC b))] Tryz.func57 rfl Tryz.ntmps57 rfl rfl rfl ?_
 refine AW.seq (Rg ?_)
 refine AL.bx good (d := 4) rfl rfl rfl rfl rfl rfl 0 rfl ?_
 refine AL.bx good (d := 5) rfl rfl rfl rfl rfl rfl 1 rfl ?_
 refine AL.alc good (d := 6) rfl rfl rfl rfl rfl 2 rfl ?_
 refine Aw rfl ?_
 refine Aw rfl ?_
 refine AW.seq (Rg ?_)
 refine AL.clp good (d := 14) rfl rfl rfl rfl rfl rfl rfl (w97) (rfl) ?_
 refine Aw rfl ?_
 refine AL.clp good (d := 16) rfl rfl rfl rfl rfl rfl rfl (by have hq := w98 twosT op twosT_p; rw [hf] at hq; exact hq) (rfl) ?_
 refine Aw rfl ?_
 refine Aw rfl ?_
 refine Aw rfl ?_
 refine Aw rfl ?_
 refine Aw rfl ?_
 refine AW.seq ?_
 refine AW.seq (Rg ?_)
 refine Aw rfl ?_
 refine Aw rfl ?_
 refine AW.if rfl (fun h => by cases h) (fun _ => ?_)
 refine AW.skip ?_
 refine AW.seq (Rg ?_)
 refine Aw rfl ?_
 refine Aw rfl ?_
 refine Aw rfl ?_
 refine AL.clp good (d := 26) rfl rfl rfl rfl rfl rfl rfl (w132 a b) ((by simp [pureL, inL, inA, inR, spl, encs_pure])) ?_
 refine Aw rfl ?_
 refine Aw rfl ?_
 refine Aw rfl ?_
 refine AL.alc good (d := 11) rfl rfl rfl rfl rfl 3 rfl ?_
 refine AL.st good rfl rfl rfl rfl rfl rfl rfl rfl rfl rfl rfl ?_
 refine Aw rfl ?_
 refine AW.seq (Rg ?_)
 refine Aw rfl ?_
 refine Aw rfl ?_
 refine AL.st good rfl rfl rfl rfl rfl rfl rfl rfl rfl rfl rfl ?_
 refine Aw rfl ?_
 refine Aw rfl ?_
 refine AW.ret ?_
 refine RetQ.mk good (.inr rfl) rfl rfl ?_
 simp [Wk, WkL, fz, fzL, fzR, tupA, spl]

theorem w62_lt (op : ByteArray) (a b : Val) (hf : findT twosT op = .tup [.func 86 [] [], .bool true])  : ACall Tryz.prog 57 [.str op, .agg (valC a), .agg (valC b)] (.tup [.agg [.int .i64 2, .int .i64 0, .bool (decide (cmpV a b < 0)), .str ⟨#[]⟩, .sl .ro 5 []], .int .i64 0, .bool true]) := by
 refine ACall.go [(0, .str op), (1, .agg (valC a)), (2, .agg (valC b))] Tryz.func57 rfl Tryz.ntmps57 rfl rfl rfl ?_
 refine AW.seq (Rg ?_)
 refine AL.bx good (d := 4) rfl rfl rfl rfl rfl rfl 0 rfl ?_
 refine AL.bx good (d := 5) rfl rfl rfl rfl rfl rfl 1 rfl ?_
 refine AL.alc good (d := 6) rfl rfl rfl rfl rfl 2 rfl ?_
 refine Aw rfl ?_
 refine Aw rfl ?_
 refine AW.seq (Rg ?_)
 refine AL.clp good (d := 14) rfl rfl rfl rfl rfl rfl rfl (w97) (rfl) ?_
 refine Aw rfl ?_
 refine AL.clp good (d := 16) rfl rfl rfl rfl rfl rfl rfl (by have hq := w98 twosT op twosT_p; rw [hf] at hq; exact hq) (rfl) ?_
 refine Aw rfl ?_
 refine Aw rfl ?_
 refine Aw rfl ?_
 refine Aw rfl ?_
 refine Aw rfl ?_
 refine AW.seq ?_
 refine AW.seq (Rg ?_)
 refine Aw rfl ?_
 refine Aw rfl ?_
 refine AW.if rfl (fun h => by cases h) (fun _ => ?_)
 refine AW.skip ?_
 refine AW.seq (Rg ?_)
 refine Aw rfl ?_
 refine Aw rfl ?_
 refine Aw rfl ?_
 refine AL.clp good (d := 26) rfl rfl rfl rfl rfl rfl rfl (w133 a b) ((by simp [pureL, inL, inA, inR, spl, encs_pure])) ?_
 refine Aw rfl ?_
 refine Aw rfl ?_
 refine Aw rfl ?_
 refine AL.alc good (d := 11) rfl rfl rfl rfl rfl 3 rfl ?_
 refine AL.st good rfl rfl rfl rfl rfl rfl rfl rfl rfl rfl rfl ?_
 refine Aw rfl ?_
 refine AW.seq (Rg ?_)
 refine Aw rfl ?_
 refine Aw rfl ?_
 refine AL.st good rfl rfl rfl rfl rfl rfl rfl rfl rfl rfl rfl ?_
 refine Aw rfl ?_
 refine Aw rfl ?_
 refine AW.ret ?_
 refine RetQ.mk good (.inr rfl) rfl rfl ?_
 simp [Wk, WkL, fz, fzL, fzR, tupA, spl]

theorem w62_catl (op : ByteArray) (a b : Val) (hf : findT twosT op = .tup [.func 88 [] [], .bool true]) (hs : a.s.size + b.s.size ≤ 9223372036854775807) (hc : 255 < a.s.size + b.s.size) : ACall Tryz.prog 57 [.str op, .agg (valC a), .agg (valC b)] (.tup [.agg [.int .i64 0, .int .i64 0, .bool false, .str ⟨#[]⟩, .sl .ro 5 []], .int .i64 4, .bool true]) := by
 refine ACall.go [(0, .str op), (1, .agg (valC a)), (2, .agg (valC b))] Tryz.func57 rfl Tryz.ntmps57 rfl rfl rfl ?_
 refine AW.seq (Rg ?_)
 refine AL.bx good (d := 4) rfl rfl rfl rfl rfl rfl 0 rfl ?_
 refine AL.bx good (d := 5) rfl rfl rfl rfl rfl rfl 1 rfl ?_
 refine AL.alc good (d := 6) rfl rfl rfl rfl rfl 2 rfl ?_
 refine Aw rfl ?_
 refine Aw rfl ?_
 refine AW.seq (Rg ?_)
 refine AL.clp good (d := 14) rfl rfl rfl rfl rfl rfl rfl (w97) (rfl) ?_
 refine Aw rfl ?_
 refine AL.clp good (d := 16) rfl rfl rfl rfl rfl rfl rfl (by have hq := w98 twosT op twosT_p; rw [hf] at hq; exact hq) (rfl) ?_
 refine Aw rfl ?_
 refine Aw rfl ?_
 refine Aw rfl ?_
 refine Aw rfl ?_
 refine Aw rfl ?_
 refine AW.seq ?_
 refine AW.seq (Rg ?_)
 refine Aw rfl ?_
 refine Aw rfl ?_
 refine AW.if rfl (fun h => by cases h) (fun _ => ?_)
 refine AW.skip ?_
 refine AW.seq (Rg ?_)
 refine Aw rfl ?_
 refine Aw rfl ?_
 refine Aw rfl ?_
 refine AL.clp good (d := 26) rfl rfl rfl rfl rfl rfl rfl (w134_l a b hs hc) ((by simp [pureL, inL, inA, inR, spl, encs_pure])) ?_
 refine Aw rfl ?_
 refine Aw rfl ?_
 refine Aw rfl ?_
 refine AL.alc good (d := 11) rfl rfl rfl rfl rfl 3 rfl ?_
 refine AL.st good rfl rfl rfl rfl rfl rfl rfl rfl rfl rfl rfl ?_
 refine Aw rfl ?_
 refine AW.seq (Rg ?_)
 refine Aw rfl ?_
 refine Aw rfl ?_
 refine AL.st good rfl rfl rfl rfl rfl rfl rfl rfl rfl rfl rfl ?_
 refine Aw rfl ?_
 refine Aw rfl ?_
 refine AW.ret ?_
 refine RetQ.mk good (.inr rfl) rfl rfl ?_
 simp [Wk, WkL, fz, fzL, fzR, tupA, spl]

theorem w62_cato (op : ByteArray) (a b : Val) (hf : findT twosT op = .tup [.func 88 [] [], .bool true]) (hc : ¬ 255 < a.s.size + b.s.size) : ACall Tryz.prog 57 [.str op, .agg (valC a), .agg (valC b)] (.tup [.agg [.int .i64 3, .int .i64 0, .bool false, .str (a.s ++ b.s), .sl .ro 5 []], .int .i64 0, .bool true]) := by
 refine ACall.go [(0, .str op), (1, .agg (valC a)), (2, .agg (valC b))] Tryz.func57 rfl Tryz.ntmps57 rfl rfl rfl ?_
 refine AW.seq (Rg ?_)
 refine AL.bx good (d := 4) rfl rfl rfl rfl rfl rfl 0 rfl ?_
 refine AL.bx good (d := 5) rfl rfl rfl rfl rfl rfl 1 rfl ?_
 refine AL.alc good (d := 6) rfl rfl rfl rfl rfl 2 rfl ?_
 refine Aw rfl ?_
 refine Aw rfl ?_
 refine AW.seq (Rg ?_)
 refine AL.clp good (d := 14) rfl rfl rfl rfl rfl rfl rfl (w97) (rfl) ?_
 refine Aw rfl ?_
 refine AL.clp good (d := 16) rfl rfl rfl rfl rfl rfl rfl (by have hq := w98 twosT op twosT_p; rw [hf] at hq; exact hq) (rfl) ?_
 refine Aw rfl ?_
 refine Aw rfl ?_
 refine Aw rfl ?_
 refine Aw rfl ?_
 refine Aw rfl ?_
 refine AW.seq ?_
 refine AW.seq (Rg ?_)
 refine Aw rfl ?_
 refine Aw rfl ?_
 refine AW.if rfl (fun h => by cases h) (fun _ => ?_)
 refine AW.skip ?_
 refine AW.seq (Rg ?_)
 refine Aw rfl ?_
 refine Aw rfl ?_
 refine Aw rfl ?_
 refine AL.clp good (d := 26) rfl rfl rfl rfl rfl rfl rfl (w134_o a b hc) ((by simp [pureL, inL, inA, inR, spl, encs_pure])) ?_
 refine Aw rfl ?_
 refine Aw rfl ?_
 refine Aw rfl ?_
 refine AL.alc good (d := 11) rfl rfl rfl rfl rfl 3 rfl ?_
 refine AL.st good rfl rfl rfl rfl rfl rfl rfl rfl rfl rfl rfl ?_
 refine Aw rfl ?_
 refine AW.seq (Rg ?_)
 refine Aw rfl ?_
 refine Aw rfl ?_
 refine AL.st good rfl rfl rfl rfl rfl rfl rfl rfl rfl rfl rfl ?_
 refine Aw rfl ?_
 refine Aw rfl ?_
 refine AW.ret ?_
 refine RetQ.mk good (.inr rfl) rfl rfl ?_
 simp [Wk, WkL, fz, fzL, fzR, tupA, spl]

end Go.Proofs.YtbcjcekoonebiaaGreat.Tl

set_option linter.unusedVariables false
set_option linter.unusedSimpArgs false
namespace Go.Proofs.YtbcjcekoonebiaaGreat.Tl
open Go Go.RowKit
abbrev zeroV : Val := .mk 0 0 false ⟨#[]⟩ []
abbrev W64 (x : Int) : Int := IntKind.i64.wrap x

def oneS (op : ByteArray) (a : Val) : Option Val :=
  if op.data.toList = [110, 101, 103] then some (.mk 1 (W64 (0 - a.i)) false ⟨#[]⟩ [])
  else if op.data.toList = [110, 111, 116] then some (.mk 2 0 (!a.b) ⟨#[]⟩ [])
  else if op.data.toList = [108, 101, 110] then some (.mk 1 a.s.size false ⟨#[]⟩ [])
  else none

def bothS (op : ByteArray) (a b : Val) : Option (Val × Int) :=
  if op.data.toList = [97, 100, 100] then some (.mk 1 (W64 (a.i + b.i)) false ⟨#[]⟩ [], 0)
  else if op.data.toList = [115, 117, 98] then some (.mk 1 (W64 (a.i - b.i)) false ⟨#[]⟩ [], 0)
  else if op.data.toList = [109, 117, 108] then some (.mk 1 (W64 (a.i * b.i)) false ⟨#[]⟩ [], 0)
  else if op.data.toList = [100, 105, 118] then (if b.i = 0 then some (zeroV, 8) else some (.mk 1 (W64 (a.i.tdiv b.i)) false ⟨#[]⟩ [], 0))
  else if op.data.toList = [114, 101, 109] then (if b.i = 0 then some (zeroV, 8) else some (.mk 1 (a.i.tmod b.i) false ⟨#[]⟩ [], 0))
  else if op.data.toList = [101, 113] then some (.mk 2 0 (cmpV a b == 0) ⟨#[]⟩ [], 0)
  else if op.data.toList = [108, 116] then some (.mk 2 0 (decide (cmpV a b < 0)) ⟨#[]⟩ [], 0)
  else if op.data.toList = [99, 97, 116] then (if a.s.size + b.s.size ≤ 9223372036854775807 then (if 255 < a.s.size + b.s.size then some (zeroV, 4) else some (.mk 3 0 false (a.s ++ b.s) [], 0)) else none)
  else none

def chooseS (op : ByteArray) (b : Bool) : Int :=
  if op.data.toList = [105, 102] then (if b then 1 else 2) else if (op.data.toList == [97, 110, 100]) = b then 1 else 0

def applyS (op : ByteArray) (n : Int) (l : List Val) : Option (Val × Int) :=
  if op.data.toList = [97, 116] then (match l with
    | [] => none
    | v :: _ => if 0 ≤ n then (match v.t[n.toNat]? with | some w => some (w, 0) | none => none) else none)
  else if op.data.toList = [116, 117, 112] then (match l with
    | [] => none
    | v :: r => if r.length ≤ 1000000 then some (.mk 4 0 false ⟨#[]⟩ (v :: r), 0) else none)
  else match l with
    | [] => none
    | [v] => (match oneS op v with | some w => some (w, 0) | none => none)
    | v :: w :: _ => bothS op v w

def isLazy (op : ByteArray) : Bool := op.data.toList == [97, 110, 100] || op.data.toList == [111, 114] || op.data.toList == [105, 102]

mutual
def evalS : Ex → Val → Option (Val × Int)
  | .mk op v n a, x =>
    if op.data.toList = [108, 105, 116] then some (v, 0)
    else if op.data.toList = [120] then some (x, 0)
    else if isLazy op = true then (match nthS a 0 x with
      | none => none
      | some (w, f) => if f = 0 ∧ 0 < chooseS op w.b then nthS a (chooseS op w.b).toNat x else some (w, f))
    else (match if a.length ≤ 1000000 then allS a x else none with
      | none => none
      | some (l, f) => if f = 0 then applyS op n l else some (zeroV, f))
def allS : List Ex → Val → Option (List Val × Int)
  | [], _ => some ([], 0)
  | e :: r, x => (match evalS e x with
    | none => none
    | some (v, f) => if f = 0 then (match allS r x with
        | none => none
        | some (l, g) => if g = 0 then some (v :: l, 0) else some ([], g)) else some ([], f))
def nthS : List Ex → Nat → Val → Option (Val × Int)
  | [], _, _ => none
  | e :: _, 0, x => evalS e x
  | _ :: r, k + 1, x => nthS r k x
end
theorem applyS_at {op : ByteArray} {n : Int} {l : List Val} {r : Val × Int} (h : applyS op n l = some r) (h1 : op.data.toList = [97, 116]) : ∃ v t w, l = v :: t ∧ 0 ≤ n ∧ v.t[n.toNat]? = some w ∧ r = (w, 0) := by
  unfold applyS at h
  rw [if_pos h1] at h
  split at h
  · cases h
  · rename_i v t
    split at h
    · rename_i h2
      split at h
      · rename_i w hw; injection h with h; exact ⟨v, t, w, rfl, h2, hw, h.symm⟩
      · cases h
    · cases h
theorem applyS_tup {op : ByteArray} {n : Int} {l : List Val} {r : Val × Int} (h : applyS op n l = some r) (h0 : ¬ op.data.toList = [97, 116]) (h1 : op.data.toList = [116, 117, 112]) : ∃ v t, l = v :: t ∧ t.length ≤ 1000000 ∧ r = (.mk 4 0 false ⟨#[]⟩ (v :: t), 0) := by
  unfold applyS at h
  rw [if_neg h0, if_pos h1] at h
  split at h
  · cases h
  · rename_i v t
    split at h
    · rename_i h2; injection h with h; exact ⟨v, t, rfl, h2, h.symm⟩
    · cases h
theorem applyS_one {op : ByteArray} {n : Int} {l : List Val} {r : Val × Int} (h : applyS op n l = some r) (h0 : ¬ op.data.toList = [97, 116]) (h1 : ¬ op.data.toList = [116, 117, 112]) (hl : l.length = 1) : ∃ v w, l = [v] ∧ oneS op v = some w ∧ r = (w, 0) := by
  unfold applyS at h
  rw [if_neg h0, if_neg h1] at h
  split at h
  · cases h
  · rename_i v
    split at h
    · rename_i w hw; injection h with h; exact ⟨v, w, rfl, hw, h.symm⟩
    · cases h
  · rename_i v w t _; simp at hl
theorem applyS_two {op : ByteArray} {n : Int} {l : List Val} {r : Val × Int} (h : applyS op n l = some r) (h0 : ¬ op.data.toList = [97, 116]) (h1 : ¬ op.data.toList = [116, 117, 112]) (hl : ¬ l.length = 1) : ∃ v w t, l = v :: w :: t ∧ bothS op v w = some r := by
  unfold applyS at h
  rw [if_neg h0, if_neg h1] at h
  split at h
  · cases h
  · simp at hl
  · rename_i v w t; exact ⟨v, w, t, rfl, h⟩

end Go.Proofs.YtbcjcekoonebiaaGreat.Tl

set_option linter.unusedVariables false
set_option linter.unusedSimpArgs false
namespace Go.Proofs.YtbcjcekoonebiaaGreat.Tl
open Go Go.RowKit
theorem w61 (op : ByteArray) (a v : Val) (h : oneS op a = some v) : ACall Tryz.prog 56 [.str op, .agg (valC a)] (.tup [.agg (valC v), .bool true]) := by
 unfold oneS at h
 split at h
 ·rename_i h1; injection h with h; subst h; exact w61_neg op a (by simp [findT, onesT, h1])
 ·split at h
  ·rename_i h1; injection h with h; subst h; exact w61_not op a (by simp [findT, onesT, h1])
  ·split at h
   ·rename_i h1; injection h with h; subst h; exact w61_len op a (by simp [findT, onesT, h1])
   ·cases h
theorem w62 (op : ByteArray) (a b : Val) (r : Val × Int) (h : bothS op a b = some r) : ACall Tryz.prog 57 [.str op, .agg (valC a), .agg (valC b)] (.tup [.agg (valC r.1), .int .i64 r.2, .bool true]) := by
 unfold bothS at h
 split at h
 ·rename_i h1; injection h with h; subst h; exact w62_add op a b (by simp [findT, twosT, h1])
 split at h
 ·rename_i h1; injection h with h; subst h; exact w62_sub op a b (by simp [findT, twosT, h1])
 split at h
 ·rename_i h1; injection h with h; subst h; exact w62_mul op a b (by simp [findT, twosT, h1])
 split at h
 ·rename_i h1
  split at h
  ·rename_i h2; injection h with h; subst h; exact w62_divz op a b (by simp [findT, twosT, h1]) h2
  ·rename_i h2; injection h with h; subst h; exact w62_divn op a b (by simp [findT, twosT, h1]) h2
 split at h
 ·rename_i h1
  split at h
  ·rename_i h2; injection h with h; subst h; exact w62_remz op a b (by simp [findT, twosT, h1]) h2
  ·rename_i h2; injection h with h; subst h; exact w62_remn op a b (by simp [findT, twosT, h1]) h2
 split at h
 ·rename_i h1; injection h with h; subst h; exact w62_eq op a b (by simp [findT, twosT, h1])
 split at h
 ·rename_i h1; injection h with h; subst h; exact w62_lt op a b (by simp [findT, twosT, h1])
 split at h
 ·rename_i h1
  split at h
  ·rename_i h2
   split at h
   ·rename_i h3; injection h with h; subst h; exact w62_catl op a b (by simp [findT, twosT, h1]) h2 h3
   ·rename_i h3; injection h with h; subst h; exact w62_cato op a b (by simp [findT, twosT, h1]) h3
  ·cases h
 ·cases h

end Go.Proofs.YtbcjcekoonebiaaGreat.Tl

set_option linter.unusedVariables false
set_option linter.unusedSimpArgs false
namespace Go.Proofs.YtbcjcekoonebiaaGreat.Tl
open Go Go.RowKit
section
attribute [local simp] pureA pureL pureR inA inL inR inO idsIn encs_pure enxs_pure enys_pure valC_pure exC_pure tyC_pure
theorem w_f28 (a0 : Int) : ACall Tryz.prog 20 [.int .i64 a0] (.agg [.int .i64 1, .int .i64 a0, .bool false, .str ⟨#[]⟩, .sl .ro 5 (encs [])]) := by
 refine ACall.go [(0, .int .i64 a0)] Tryz.func20 rfl Tryz.ntmps20 rfl rfl (by simp) ?_
 refine AW.seq (Rg ?_)
 refine AL.alc good (d := 2) rfl rfl rfl rfl rfl 0 rfl ?_
 refine AW.seq (Rg ?_)
 refine Av (.int .i64 a0) rfl ?_
 refine AL.bld good (d := 4) (l := [.int .i64 1, .int .i64 a0, .bool false, .str ⟨#[]⟩, .sl .nil 0 []]) rfl rfl rfl rfl rfl rfl rfl ?_
 refine AL.st2 good (c2 := [.int .i64 1, .int .i64 a0, .bool false, .str ⟨#[]⟩, .sl .nil 0 []]) rfl rfl rfl rfl rfl rfl rfl rfl rfl rfl rfl rfl ?_
 refine AW.ret ?_
 exact RetQ.w good (.inr rfl) rfl rfl ⟨Wv.refl _, Wv.refl _, Wv.refl _, Wv.refl _, ⟨.inr rfl, trivial, .inr rfl⟩, trivial⟩ (by simp)


theorem w_f53 (a0 : Int) : ACall Tryz.prog 60 [.int .i64 a0] (.agg [.int .i64 1, .int .i64 a0, .bool false, .str ⟨#[]⟩, .sl .ro 5 (encs [])]) := by
 refine ACall.go [(0, .int .i64 a0)] Tryz.func60 rfl Tryz.ntmps60 rfl rfl (by simp) ?_
 refine AW.seq (Rg ?_)
 refine AL.alc good (d := 2) rfl rfl rfl rfl rfl 0 rfl ?_
 refine AW.seq (Rg ?_)
 refine Av (.int .i64 a0) rfl ?_
 refine AL.bld good (d := 4) (l := [.int .i64 1, .int .i64 a0, .bool false, .str ⟨#[]⟩, .sl .nil 0 []]) rfl rfl rfl rfl rfl rfl rfl ?_
 refine AL.st2 good (c2 := [.int .i64 1, .int .i64 a0, .bool false, .str ⟨#[]⟩, .sl .nil 0 []]) rfl rfl rfl rfl rfl rfl rfl rfl rfl rfl rfl rfl ?_
 refine AW.ret ?_
 exact RetQ.w good (.inr rfl) rfl rfl ⟨Wv.refl _, Wv.refl _, Wv.refl _, Wv.refl _, ⟨.inr rfl, trivial, .inr rfl⟩, trivial⟩ (by simp)


theorem w_f99 (a0 : Bool) : ACall Tryz.prog 61 [.bool a0] (.agg [.int .i64 2, .int .i64 0, .bool a0, .str ⟨#[]⟩, .sl .ro 5 (encs [])]) := by
 refine ACall.go [(0, .bool a0)] Tryz.func61 rfl Tryz.ntmps61 rfl rfl (by simp) ?_
 refine AW.seq (Rg ?_)
 refine AL.alc good (d := 2) rfl rfl rfl rfl rfl 0 rfl ?_
 refine AW.seq (Rg ?_)
 refine Av (.bool a0) rfl ?_
 refine AL.bld good (d := 4) (l := [.int .i64 2, .int .i64 0, .bool a0, .str ⟨#[]⟩, .sl .nil 0 []]) rfl rfl rfl rfl rfl rfl rfl ?_
 refine AL.st2 good (c2 := [.int .i64 2, .int .i64 0, .bool a0, .str ⟨#[]⟩, .sl .nil 0 []]) rfl rfl rfl rfl rfl rfl rfl rfl rfl rfl rfl rfl ?_
 refine AW.ret ?_
 exact RetQ.w good (.inr rfl) rfl rfl ⟨Wv.refl _, Wv.refl _, Wv.refl _, Wv.refl _, ⟨.inr rfl, trivial, .inr rfl⟩, trivial⟩ (by simp)


theorem w_f121 (a0 : Int) : ACall Tryz.prog 52 [.int .i64 a0] (.agg [.int .i64 a0, .sl .ro 2 (enys [])]) := by
 refine ACall.go [(0, .int .i64 a0)] Tryz.func52 rfl Tryz.ntmps52 rfl rfl (by simp) ?_
 refine AW.seq (Rg ?_)
 refine AL.alc good (d := 2) rfl rfl rfl rfl rfl 0 rfl ?_
 refine AW.seq (Rg ?_)
 refine Av (.int .i64 a0) rfl ?_
 refine AL.bld good (d := 4) (l := [.int .i64 a0, .sl .nil 0 []]) rfl rfl rfl rfl rfl rfl rfl ?_
 refine AL.st2 good (c2 := [.int .i64 a0, .sl .nil 0 []]) rfl rfl rfl rfl rfl rfl rfl rfl rfl rfl rfl rfl ?_
 refine AW.ret ?_
 exact RetQ.w good (.inr rfl) rfl rfl ⟨Wv.refl _, ⟨.inr rfl, trivial, .inr rfl⟩, trivial⟩ (by simp)

end
end Go.Proofs.YtbcjcekoonebiaaGreat.Tl

set_option linter.unusedVariables false
set_option linter.unusedSimpArgs false
namespace Go.Proofs.YtbcjcekoonebiaaGreat.Tl
open Go Go.RowKit
abbrev c_int_u8 (x : Int) : List AV := [.int .u8 x]
def r_int_u8 (l : List Int) : List (List AV) := rowF c_int_u8 l
theorem r_int_u8_pure (S : Nat → Bool) (l : List Int) : inR S (r_int_u8 l) = true := rowF_pure S (fun x => by simp [pureA, pureL, pureR, inA, inL, inR, inO, idsIn, encs_pure, enxs_pure, enys_pure, valC_pure, exC_pure, tyC_pure, c_int_u8]) l

end Go.Proofs.YtbcjcekoonebiaaGreat.Tl

set_option linter.unusedVariables false
set_option linter.unusedSimpArgs false
namespace Go.Proofs.YtbcjcekoonebiaaGreat.Tl
open Go Go.RowKit
structure Mach where
  f0 : Val
  f1 : Ar Val
  f2 : List Val



def s_f111 (n : Nat) (a0 : Mach) (a1 : Val) : Option Mach :=
  (if a0.f1.l.length + 1 ≤ 1000000 then (((a0.f1.l ++ [(Val.mk 0 0 false ⟨#[]⟩ [])])[a0.f1.l.length]?).bind fun x2 => some (Mach.mk a0.f0 (Ar.mk (a0.f1.v + 1) ((a0.f1.l ++ [(Val.mk 0 0 false ⟨#[]⟩ [])]).set a0.f1.l.length a1)) a0.f2)) else none)

section
attribute [local simp] pureA pureL pureR inA inL inR inO idsIn encs_pure enxs_pure enys_pure valC_pure exC_pure tyC_pure r_int_u8_pure
theorem w_f111_1_2_3 (n : Nat) (a0 : Mach) (a1 : Val) (r : Mach) (hr : s_f111 n a0 a1 = some r) : ACallH Tryz.prog 54 [.ptr 1 5, .agg (valC a1)] [(1, .box 90 [.int .i64 a0.f0.kind, .int .i64 a0.f0.i, .bool a0.f0.b, .str a0.f0.s, .sl .ro 5 (encs a0.f0.t), .mv 2 a0.f1.v .hdr, .sl (.own 3) 5 (encs a0.f2)]), (2, .arr 28 5 a0.f1.v (encs a0.f1.l)), (3, .row 28 5 (encs a0.f2).length)] [(1, .box 90 [.int .i64 r.f0.kind, .int .i64 r.f0.i, .bool r.f0.b, .str r.f0.s, .sl .ro 5 (encs r.f0.t), .mv 2 r.f1.v .hdr, .sl (.own 3) 5 (encs r.f2)]), (2, .arr 28 5 r.f1.v (encs r.f1.l)), (3, .row 28 5 (encs r.f2).length)] (.tup []) := by
 refine ACallH.go [(0, .ptr 1 5), (1, .agg (valC a1))] [(3, .row 28 5 (encs a0.f2).length), (2, .arr 28 5 a0.f1.v (encs a0.f1.l)), (1, .box 90 [.int .i64 a0.f0.kind, .int .i64 a0.f0.i, .bool a0.f0.b, .str a0.f0.s, .sl .ro 5 (encs a0.f0.t), .mv 2 a0.f1.v .hdr, .sl (.own 3) 5 (encs a0.f2)])] Tryz.func54 rfl Tryz.ntmps54 rfl rfl rfl (by simp) (fmc ⟨(by simp), (fmc ⟨(by simp), (fmc ⟨(by simp), (fun _ h => by cases h)⟩)⟩)⟩) (fmc ⟨⟨rfl, (by simp)⟩, (fmc ⟨⟨rfl, (by simp)⟩, (fmc ⟨⟨rfl, (by simp)⟩, (fun _ h => by cases h)⟩)⟩)⟩) (by simp) ?_
 rw [s_f111] at hr
 refine AW.seq (Rg ?_)
 refine AL.bx good (d := 3) (l := [.int .i64 a1.kind, .int .i64 a1.i, .bool a1.b, .str a1.s, .sl .ro 5 (encs a1.t)]) rfl rfl rfl rfl rfl rfl 4 rfl ?_
 refine AW.drawc (M := fun i => ⟨Nat.beq i 6 || Nat.beq i 7 || Nat.beq i 8 || Nat.beq i 10, bif Nat.beq i 2 then some { ids := [1] } else bif Nat.beq i 3 then some { ids := [4] } else bif Nat.beq i 4 then some { ids := [2] } else bif Nat.beq i 5 then some { ids := [5] } else bif Nat.beq i 6 then some { ids := [2] } else bif Nat.beq i 7 then some { ids := [2] } else bif Nat.beq i 8 then some { ids := [2] } else bif Nat.beq i 10 then some { ids := [1] } else none⟩) good.wide (by kernel_rfl) ?_
 refine Av (nc := ⟨rfl⟩) (.ptr 1 5) rfl ?_
 refine Av (nc := ⟨rfl⟩) (.ptr 1 5) rfl ?_
 refine AL.vc good (d := 6) (v := .mv 2 a0.f1.v .hdr) rfl rfl rfl rfl rfl rfl (fmc ⟨.head _, (fun _ h => by cases h)⟩) ?_
 refine AL.vc good (d := 7) (v := .agg [.int .i64 a1.kind, .int .i64 a1.i, .bool a1.b, .str a1.s, .sl .ro 5 (encs a1.t)]) rfl rfl rfl rfl rfl rfl (fmc ⟨.head _, (fun _ h => by cases h)⟩) ?_
 refine AL.mln good (d := 8) (m := a0.f1.l.length) rfl rfl rfl rfl rfl rfl rfl (encs_length _) (ColN.mk rfl rfl (fmc ⟨.head _, (fun _ h => by cases h)⟩) (fun _ h => by cases h) (fun _ h => by cases h)) ?_
 refine AL.litC good (d := 9) (rows := [[.int .i64 0, .int .i64 0, .bool false, .str ⟨#[]⟩, .sl .nil 0 []]]) rfl rfl rfl rfl rfl rfl rfl rfl rfl 5 rfl (ColN.mk rfl rfl (fun _ h => by cases h) (fmc ⟨.head _, (fun _ h => by cases h)⟩) (fun _ h => by cases h)) ?_
 obtain ⟨h1, hr⟩ := grd hr
 refine AL.mpp good (d := 10) (news := [(valC (Val.mk 0 0 false ⟨#[]⟩ []))]) (rows2 := encs (a0.f1.l ++ [(Val.mk 0 0 false ⟨#[]⟩ [])])) rfl rfl rfl rfl rfl rfl rfl rfl rfl (by simp) rfl rfl rfl (by simp) ⟨⟨Wv.refl _, Wv.refl _, Wv.refl _, Wv.refl _, ⟨.inr rfl, trivial, .inr rfl⟩, trivial⟩, trivial⟩ (by simp [encs_map]) (by rw [encs_length]; simp only [List.length_append, List.length_cons, List.length_nil]; exact h1) rfl (ColN.mk rfl rfl (fmc ⟨.head _, (fun _ h => by cases h)⟩) (fmc ⟨.head _, (fun _ h => by cases h)⟩) (fun _ h => by cases h)) ?_
 obtain ⟨x2, h3, hr⟩ := bnd1 hr
 refine AL.mix good (d := 11) (q := a0.f1.l.length) rfl rfl rfl rfl rfl rfl rfl rfl (Int.natCast_nonneg _) rfl (encs_get h3) rfl (ColN.mk rfl rfl (fmc ⟨.head _, (fun _ h => by cases h)⟩) (fun _ h => by cases h) (fun _ h => by cases h)) ?_
 refine AL.mst good (rows2 := encs ((a0.f1.l ++ [(Val.mk 0 0 false ⟨#[]⟩ [])]).set a0.f1.l.length a1)) rfl rfl rfl rfl rfl rfl rfl rfl rfl (encs_get h3) rfl rfl (encs_set _ _ _) (ColN.mk rfl rfl (fmc ⟨.head _, (fun _ h => by cases h)⟩) (fmc ⟨.head _, (fun _ h => by cases h)⟩) (fun _ h => by cases h)) ?_
 refine Av (nc := ⟨rfl⟩) (.ptr 1 5) rfl ?_
 refine AL.st2c good (c2 := [.int .i64 a0.f0.kind, .int .i64 a0.f0.i, .bool a0.f0.b, .str a0.f0.s, .sl .ro 5 (encs a0.f0.t), .mv 2 (a0.f1.v + 1) .hdr, .sl (.own 3) 5 (encs a0.f2)]) rfl rfl rfl rfl rfl rfl rfl rfl rfl rfl rfl rfl rfl ?_
 obtain rfl := Option.some.inj hr
 exact RetH.w good (.inl rfl) rfl rfl (Wv.refl _) (fmc ⟨rfl, (fmc ⟨rfl, (fmc ⟨rfl, (fun _ h => by cases h)⟩)⟩)⟩)
theorem o_f111_1_2_3 (a : Mach) (x : Val) (h : a.f1.l.length + 1 ≤ 1000000) : ACallH Tryz.prog 54 [.ptr 1 5, .agg (valC x)] [(1, .box 90 [.int .i64 a.f0.kind, .int .i64 a.f0.i, .bool a.f0.b, .str a.f0.s, .sl .ro 5 (encs a.f0.t), .mv 2 a.f1.v .hdr, .sl (.own 3) 5 (encs a.f2)]), (2, .arr 28 5 a.f1.v (encs a.f1.l)), (3, .row 28 5 (encs a.f2).length)] [(1, .box 90 [.int .i64 a.f0.kind, .int .i64 a.f0.i, .bool a.f0.b, .str a.f0.s, .sl .ro 5 (encs a.f0.t), .mv 2 (a.f1.v + 1) .hdr, .sl (.own 3) 5 (encs a.f2)]), (2, .arr 28 5 (a.f1.v + 1) (encs (a.f1.l ++ [x]))), (3, .row 28 5 (encs a.f2).length)] (.tup []) :=
  w_f111_1_2_3 0 a x ⟨a.f0, ⟨a.f1.v + 1, a.f1.l ++ [x]⟩, a.f2⟩ (by simp [s_f111, h])


end
end Go.Proofs.YtbcjcekoonebiaaGreat.Tl

set_option linter.unusedVariables false
set_option linter.unusedSimpArgs false
namespace Go.Proofs.YtbcjcekoonebiaaGreat.Tl
open Go Go.RowKit
theorem w_clone110_2 (ver lo : Nat) (l : List Val) (h : lo ≤ l.length ∧ l.length ≤ 1000000) : ACallH Tryz.prog 53 [.mv 2 ver (.view lo (l.length - lo) false)] [(2, .arr 28 5 ver (encs l))] [] (.sl .ro 5 (encs (l.drop lo))) := by
  have k2 : ACallH Tryz.prog 53 [.mv 2 ver (.view lo (l.length - lo) true)] [(2, .arr 28 5 ver (encs l))] [] (.sl .ro 5 (encs (l.drop lo))) := by
    refine ACallH.go [(0, .mv 2 ver (.view lo (l.length - lo) true))] [(2, .arr 28 5 ver (encs l))] Tryz.func53 rfl Tryz.ntmps53 rfl rfl rfl (by simp [pureA, pureL, pureR, inA, inL, inR, inO, idsIn, encs_pure, enxs_pure, enys_pure, valC_pure, exC_pure, tyC_pure, r_int_u8_pure]) (List.forall_mem_cons.2 ⟨(by simp [pureA, pureL, pureR, inA, inL, inR, inO, idsIn, encs_pure, enxs_pure, enys_pure, valC_pure, exC_pure, tyC_pure, r_int_u8_pure]), (fun _ h => by cases h)⟩) (fun _ h => by cases h) (by simp [pureA, pureL, pureR, inA, inL, inR, inO, idsIn, encs_pure, enxs_pure, enys_pure, valC_pure, exC_pure, tyC_pure, r_int_u8_pure]) ?_
    refine AW.seq ?_
    refine AW.region (M := fun _ => true) ?_
    refine AL.v good (d := 2) (v := .sl .nil 0 []) rfl rfl rfl rfl ?_
    refine AW.seq ?_
    refine AW.seq ?_
    refine AW.region (M := fun _ => true) ?_
    refine AL.v good (d := 3) (v := .mv 2 ver (.view lo (l.length - lo) true)) rfl rfl rfl rfl ?_
    refine AL.v good (d := 4) (v := .bool false) rfl rfl rfl rfl ?_
    refine AW.if rfl (fun h => by cases h) (fun _ => ?_)
    refine AW.skip ?_
    refine AW.seq ?_
    refine AW.region (M := fun _ => true) ?_
    refine AL.lit good (d := 5) (rows := []) rfl rfl rfl rfl rfl rfl rfl rfl rfl 3 rfl ?_
    refine AL.v good (d := 6) (v := .mv 2 ver (.view lo (l.length - lo) true)) rfl rfl rfl rfl ?_
    refine AL.avw good (d := 7) rfl rfl rfl rfl rfl rfl rfl rfl rfl rfl rfl rfl (by rw [encs_length]; omega) (by omega) rfl rfl (fun _ _ => ⟨ColN.no, ColN.no⟩) ?_
    refine AL.v good (d := 2) (v := .sl (.own 3) 5 (((encs l).drop lo).take (l.length - lo))) rfl rfl rfl rfl ?_
    refine AW.ret ?_
    have e : ((encs l).drop lo).take (l.length - lo) = encs (l.drop lo) := by
      rw [List.take_of_length_le (by rw [List.length_drop, encs_length]; omega)]; exact encs_drop _ _
    exact RetH.w good (.inr rfl) rfl rfl ⟨.inr rfl, by rw [e]; exact WvR.refl _, .inl rfl⟩ (List.forall_mem_cons.2 ⟨rfl, (fun _ h => by cases h)⟩)
  by_cases h0 : l.length - lo = 0
  · have e0 : l.drop lo = [] := List.drop_eq_nil_iff.2 (by omega)
    have k1 : ACallH Tryz.prog 53 [.sl .nil 5 []] [(2, .arr 28 5 ver (encs l))] [] (.sl .ro 5 (encs (l.drop lo))) := by
      refine ACallH.go [(0, .sl .nil 5 [])] [(2, .arr 28 5 ver (encs l))] Tryz.func53 rfl Tryz.ntmps53 rfl rfl rfl (by simp [pureA, pureL, pureR, inA, inL, inR, inO, idsIn, encs_pure, enxs_pure, enys_pure, valC_pure, exC_pure, tyC_pure, r_int_u8_pure]) (List.forall_mem_cons.2 ⟨(by simp [pureA, pureL, pureR, inA, inL, inR, inO, idsIn, encs_pure, enxs_pure, enys_pure, valC_pure, exC_pure, tyC_pure, r_int_u8_pure]), (fun _ h => by cases h)⟩) (fun _ h => by cases h) (by simp [pureA, pureL, pureR, inA, inL, inR, inO, idsIn, encs_pure, enxs_pure, enys_pure, valC_pure, exC_pure, tyC_pure, r_int_u8_pure]) ?_
      refine AW.seq ?_
      refine AW.region (M := fun _ => true) ?_
      refine AL.v good (d := 2) (v := .sl .nil 0 []) rfl rfl rfl rfl ?_
      refine AW.seq ?_
      refine AW.seq ?_
      refine AW.region (M := fun _ => true) ?_
      refine AL.v good (d := 3) (v := .sl .nil 5 []) rfl rfl rfl rfl ?_
      refine AL.v good (d := 4) (v := .bool true) rfl rfl rfl rfl ?_
      refine AW.if rfl (fun _ => ?_) (fun h => by cases h)
      refine AW.seq ?_
      refine AW.region (M := fun _ => true) ?_
      refine AL.v good (d := 2) (v := .sl .nil 0 []) rfl rfl rfl rfl ?_
      refine AW.ret ?_
      exact RetH.w good (.inr rfl) rfl rfl ⟨.inr rfl, by rw [e0]; exact WvR.refl _, .inr rfl⟩ (List.forall_mem_cons.2 ⟨rfl, (fun _ h => by cases h)⟩)
    refine ACallH.alt k1 k2 (fun C vs hI hC ha => ?_)
    cases vs with
    | nil => simp [RdL] at ha
    | cons v vs =>
      simp only [RdL] at ha ⊢
      rcases view_alt (sz := 5) hI (hC _ List.mem_cons_self).1 ha.1 with ⟨_, q⟩ | q
      · exact .inl ⟨q, ha.2⟩
      · exact .inr ⟨q, ha.2⟩
  · intro C vs hI hC ha
    refine k2 C vs hI hC ?_
    cases hv : vs.toList with
    | nil => rw [hv] at ha; simp [RdL] at ha
    | cons v l2 =>
      rw [hv] at ha
      simp only [RdL] at ha ⊢
      rcases view_alt (sz := 5) hI (hC _ List.mem_cons_self).1 ha.1 with ⟨q, _⟩ | q
      · exact absurd q h0
      · exact ⟨q, ha.2⟩

def s_f72 (n : Nat) (a0 : Mach) (a1 : Int) : Option (Mach × List Val) :=
  (if 0 ≤ (IntKind.i64.wrap ((a0.f1.l.length : Int) - a1)) ∧ (IntKind.i64.wrap ((a0.f1.l.length : Int) - a1)).toNat ≤ a0.f1.l.length then (if (IntKind.i64.wrap ((a0.f1.l.length : Int) - a1)).toNat ≤ a0.f1.l.length ∧ a0.f1.l.length ≤ 1000000 then (if 0 ≤ (IntKind.i64.wrap ((a0.f1.l.length : Int) - a1)) ∧ (IntKind.i64.wrap ((a0.f1.l.length : Int) - a1)).toNat ≤ a0.f1.l.length then some ((Mach.mk a0.f0 (Ar.mk (a0.f1.v + 1) (a0.f1.l.take (IntKind.i64.wrap ((a0.f1.l.length : Int) - a1)).toNat)) a0.f2), (a0.f1.l.drop ((IntKind.i64.wrap ((a0.f1.l.length : Int) - a1)).toNat))) else none) else none) else none)

section
attribute [local simp] pureA pureL pureR inA inL inR inO idsIn encs_pure enxs_pure enys_pure valC_pure exC_pure tyC_pure r_int_u8_pure
theorem w_f72_1_2_3 (n : Nat) (a0 : Mach) (a1 : Int) (r : Mach × List Val) (hr : s_f72 n a0 a1 = some r) : ACallH Tryz.prog 34 [.ptr 1 5, .int .i64 a1] [(1, .box 90 [.int .i64 a0.f0.kind, .int .i64 a0.f0.i, .bool a0.f0.b, .str a0.f0.s, .sl .ro 5 (encs a0.f0.t), .mv 2 a0.f1.v .hdr, .sl (.own 3) 5 (encs a0.f2)]), (2, .arr 28 5 a0.f1.v (encs a0.f1.l)), (3, .row 28 5 (encs a0.f2).length)] [(1, .box 90 [.int .i64 r.1.f0.kind, .int .i64 r.1.f0.i, .bool r.1.f0.b, .str r.1.f0.s, .sl .ro 5 (encs r.1.f0.t), .mv 2 r.1.f1.v .hdr, .sl (.own 3) 5 (encs r.1.f2)]), (2, .arr 28 5 r.1.f1.v (encs r.1.f1.l)), (3, .row 28 5 (encs r.1.f2).length)] (.sl .ro 5 (encs r.2)) := by
 refine ACallH.go [(0, .ptr 1 5), (1, .int .i64 a1)] [(3, .row 28 5 (encs a0.f2).length), (2, .arr 28 5 a0.f1.v (encs a0.f1.l)), (1, .box 90 [.int .i64 a0.f0.kind, .int .i64 a0.f0.i, .bool a0.f0.b, .str a0.f0.s, .sl .ro 5 (encs a0.f0.t), .mv 2 a0.f1.v .hdr, .sl (.own 3) 5 (encs a0.f2)])] Tryz.func34 rfl Tryz.ntmps34 rfl rfl rfl (by simp) (fmc ⟨(by simp), (fmc ⟨(by simp), (fmc ⟨(by simp), (fun _ h => by cases h)⟩)⟩)⟩) (fmc ⟨⟨rfl, (by simp)⟩, (fmc ⟨⟨rfl, (by simp)⟩, (fmc ⟨⟨rfl, (by simp)⟩, (fun _ h => by cases h)⟩)⟩)⟩) (by simp) ?_
 rw [s_f72] at hr
 refine AW.seq (Rg ?_)
 refine Av (.sl .nil 0 []) rfl ?_
 refine AW.seq (Rg ?_)
 refine Av (.ptr 1 5) rfl ?_
 refine Av (.ptr 1 5) rfl ?_
 refine Av (.mv 2 a0.f1.v .hdr) rfl ?_
 refine AL.mln good (d := 10) (m := a0.f1.l.length) rfl rfl rfl rfl rfl rfl rfl (encs_length _) ColN.no ?_
 refine Av (.int .i64 a1) rfl ?_
 refine Av (.int .i64 (IntKind.i64.wrap ((a0.f1.l.length : Int) - a1))) rfl ?_
 refine Av (.int .i64 (IntKind.i64.wrap ((a0.f1.l.length : Int) - a1))) rfl ?_
 refine AW.seq (Rg ?_)
 refine Av (.ptr 1 5) rfl ?_
 refine Av (.ptr 1 5) rfl ?_
 refine Av (.mv 2 a0.f1.v .hdr) rfl ?_
 refine Av (.int .i64 (IntKind.i64.wrap ((a0.f1.l.length : Int) - a1))) rfl ?_
 obtain ⟨h1, hr⟩ := grd hr
 refine AL.mvw good (d := 17) (m := a0.f1.l.length) rfl rfl rfl rfl rfl rfl rfl rfl rfl (encs_length _) h1 rfl ColN.no ?_
 obtain ⟨h2, hr⟩ := grd hr
 refine AL.clW good (d := 18) (xs := [.mv 2 a0.f1.v (.view ((IntKind.i64.wrap ((a0.f1.l.length : Int) - a1)).toNat) (a0.f1.l.length - (IntKind.i64.wrap ((a0.f1.l.length : Int) - a1)).toNat) false)]) (rd := [(2, .arr 28 5 a0.f1.v (encs a0.f1.l))]) (up := []) (res := .sl .ro 5 (encs (a0.f1.l.drop ((IntKind.i64.wrap ((a0.f1.l.length : Int) - a1)).toNat)))) rfl rfl rfl rfl rfl rfl rfl (w_clone110_2 a0.f1.v ((IntKind.i64.wrap ((a0.f1.l.length : Int) - a1)).toNat) a0.f1.l h2) ⟨Wv.refl _, trivial⟩ (fmc ⟨rfl, (fun _ h => by cases h)⟩) (fun _ h => by cases h) rfl rfl ?_
 refine Av (.sl .ro 5 (encs (a0.f1.l.drop ((IntKind.i64.wrap ((a0.f1.l.length : Int) - a1)).toNat)))) rfl ?_
 refine AW.seq (Rg ?_)
 refine Av (.ptr 1 5) rfl ?_
 refine Av (.ptr 1 5) rfl ?_
 refine Av (.ptr 1 5) rfl ?_
 refine Av (.mv 2 a0.f1.v .hdr) rfl ?_
 refine Av (.int .i64 (IntKind.i64.wrap ((a0.f1.l.length : Int) - a1))) rfl ?_
 obtain ⟨h3, hr⟩ := grd hr
 refine AL.mct good (d := 24) (m := a0.f1.l.length) (rows2 := encs (a0.f1.l.take (IntKind.i64.wrap ((a0.f1.l.length : Int) - a1)).toNat)) rfl rfl rfl rfl rfl rfl rfl rfl rfl (encs_length _) h3 (encs_take _ _) rfl ColN.no ?_
 refine Av (.ptr 1 5) rfl ?_
 refine AL.st2 good (c2 := [.int .i64 a0.f0.kind, .int .i64 a0.f0.i, .bool a0.f0.b, .str a0.f0.s, .sl .ro 5 (encs a0.f0.t), .mv 2 (a0.f1.v + 1) .hdr, .sl (.own 3) 5 (encs a0.f2)]) rfl rfl rfl rfl rfl rfl rfl rfl rfl rfl rfl rfl ?_
 refine AW.seq (Rg ?_)
 refine Av (.sl .ro 5 (encs (a0.f1.l.drop ((IntKind.i64.wrap ((a0.f1.l.length : Int) - a1)).toNat)))) rfl ?_
 refine Av (.sl .ro 5 (encs (a0.f1.l.drop ((IntKind.i64.wrap ((a0.f1.l.length : Int) - a1)).toNat)))) rfl ?_
 refine AW.ret ?_
 obtain rfl := Option.some.inj hr
 exact RetH.w good (.inr rfl) rfl rfl (Wv.refl _) (fmc ⟨rfl, (fmc ⟨rfl, (fmc ⟨rfl, (fun _ h => by cases h)⟩)⟩)⟩)
theorem pop_eq (a : Mach) (n : Int) (h : 0 ≤ n ∧ n.toNat ≤ a.f1.l.length ∧ a.f1.l.length ≤ 1000000) : s_f72 0 a n = some (⟨a.f0, ⟨a.f1.v + 1, a.f1.l.take (a.f1.l.length - n.toNat)⟩, a.f2⟩, a.f1.l.drop (a.f1.l.length - n.toNat)) := by
  have e : IntKind.i64.wrap ((a.f1.l.length : Int) - n) = ((a.f1.l.length - n.toNat : Nat) : Int) := by rw [wrap64 (by omega) (by omega)]; omega
  unfold s_f72
  rw [e]
  simp only [Int.toNat_natCast]
  rw [if_pos ⟨by omega, by omega⟩, if_pos ⟨by omega, by omega⟩, if_pos ⟨by omega, by omega⟩]
theorem o_f72_1_2_3 (a : Mach) (n : Int) (h : 0 ≤ n ∧ n.toNat ≤ a.f1.l.length ∧ a.f1.l.length ≤ 1000000) : ACallH Tryz.prog 34 [.ptr 1 5, .int .i64 n] [(1, .box 90 [.int .i64 a.f0.kind, .int .i64 a.f0.i, .bool a.f0.b, .str a.f0.s, .sl .ro 5 (encs a.f0.t), .mv 2 a.f1.v .hdr, .sl (.own 3) 5 (encs a.f2)]), (2, .arr 28 5 a.f1.v (encs a.f1.l)), (3, .row 28 5 (encs a.f2).length)] [(1, .box 90 [.int .i64 a.f0.kind, .int .i64 a.f0.i, .bool a.f0.b, .str a.f0.s, .sl .ro 5 (encs a.f0.t), .mv 2 (a.f1.v + 1) .hdr, .sl (.own 3) 5 (encs a.f2)]), (2, .arr 28 5 (a.f1.v + 1) (encs (a.f1.l.take (a.f1.l.length - n.toNat)))), (3, .row 28 5 (encs a.f2).length)] (.sl .ro 5 (encs (a.f1.l.drop (a.f1.l.length - n.toNat)))) :=
  w_f72_1_2_3 0 a n (⟨a.f0, ⟨a.f1.v + 1, a.f1.l.take (a.f1.l.length - n.toNat)⟩, a.f2⟩, a.f1.l.drop (a.f1.l.length - n.toNat)) (pop_eq a n h)


end
end Go.Proofs.YtbcjcekoonebiaaGreat.Tl

set_option linter.unusedVariables false
namespace Go.Proofs.YtbcjcekoonebiaaGreat.Tl
open Go Go.RowKit
def tupS (l : List Val) : Option Val :=
  match l with
  | [] => none
  | v :: r => if r.length ≤ 1000000 then some (Val.mk 4 0 false ⟨#[]⟩ (v :: r)) else none
theorem w_tup {l : List Val} {q : Val} (h : tupS l = some q) : ACall Tryz.prog 55 [.sl .ro 5 (encs l)] (.agg (valC q)) := by
  cases l with
  | nil => cases h
  | cons v r =>
    obtain ⟨h1, h2⟩ := grd h
    obtain rfl := Option.some.inj h2
    exact w27 (enc1 v) (encs r) (encs_pure _ (v :: r)) (by rw [encs_length]; exact h1)
end Go.Proofs.YtbcjcekoonebiaaGreat.Tl

set_option linter.unusedVariables false
namespace Go.Proofs.YtbcjcekoonebiaaGreat.Tl
open Go Go.RowKit
def one3 (op : ByteArray) (a : Val) : Option (Val × Bool) := (oneS op a).bind fun v => some (v, true)
def both3 (op : ByteArray) (a b : Val) : Option (Val × Int × Bool) := (bothS op a b).bind fun r => some (r.1, r.2, true)
theorem w61o {op : ByteArray} {a : Val} {r : Val × Bool} (h : one3 op a = some r) : ACall Tryz.prog 56 [.str op, .agg (valC a)] (.tup [.agg (valC r.1), .bool r.2]) := by
 obtain ⟨v, h1, h2⟩ := Option.bind_eq_some_iff.1 h
 obtain rfl := Option.some.inj h2
 exact w61 op a v h1
theorem w62o {op : ByteArray} {a b : Val} {r : Val × Int × Bool} (h : both3 op a b = some r) : ACall Tryz.prog 57 [.str op, .agg (valC a), .agg (valC b)] (.tup [.agg (valC r.1), .int .i64 r.2.1, .bool r.2.2]) := by
 obtain ⟨v, h1, h2⟩ := Option.bind_eq_some_iff.1 h
 obtain rfl := Option.some.inj h2
 exact w62 op a b v h1
end Go.Proofs.YtbcjcekoonebiaaGreat.Tl
