/- The tree logic, part E: one function for the operations that only compute or read, and its soundness. Conditions: none. -/
import Derived.Test.YtbcjcekoonebiaaTlD
set_option linter.unusedVariables false
set_option linter.unusedSimpArgs false
namespace Go.Proofs.Ytbcjcekoonebiaa.Tl
open Go Go.RowKit

def bytesA : List (List AV) → Option (List Int)
  | [] => some []
  | [.int .u8 n] :: r => (bytesA r).map (n :: ·)
  | _ => none

/-- A bound of a cut. -/
def bnd (ρ : Operand → Option AV) (x : Option Operand) (dflt most : Nat) : Option Nat :=
  match x with
  | none => some dflt
  | some o => match ρ o with
    | some (.int _ i) => if 0 ≤ i ∧ i.toNat ≤ most then some i.toNat else none
    | _ => none

def listA (ρ : Operand → Option AV) : List Operand → Option (List AV)
  | [] => some []
  | x :: r => match ρ x, listA ρ r with
    | some y, some l => some (y :: l)
    | _, _ => none

def aval (T : TI) (H : Nat → Option AObj) (ρ : Operand → Option AV) : Op → Option (AV × List (Nat × AObj))
  | .move x => (ρ x).map (·, [])
  | .assign x => (ρ x).map (·, [])
  | .pick c a b => match ρ c, ρ a, ρ b with
    | some (.bool t), some x, some y => some (if t = true then x else y, [])
    | _, _, _ => none
  | .nilCheck x => match ρ x with
    | some (.ptr i o) => some (.ptr i o, [])
    | some (.ep c) => some (.ep c, [])
    | _ => none
  | .binOp op ty x y _ => match ρ x, ρ y with
    | some a, some b => (abin T op ty a b).map (·, [])
    | _, _ => none
  | .unOp op _ x => match op, ρ x with
    | .neg, some (.int k n) => some (.int k (k.wrap (0 - n)), [])
    | .not, some (.bool b) => some (.bool (!b), [])
    | .xor, some (.int k n) => some (.int k (bits .xor k (if k.signed then -1 else k.max) n), [])
    | _, _ => none
  | .convert src dst x => match gt T.srt src, gt T.srt dst, ρ x with
    | some (.int _), some (.int k), some (.int _ n) => some (.int k (k.wrap n), [])
    | some .string, some .string, some (.str s) => some (.str s, [])
    | some (.slice e), some .string, some (.sl _ 1 rows) => if gt T.srt e = some (.int .u8) then (bytesA rows).map (fun l => (.str (strOfNums l), [])) else none
    | _, _, _ => none
  | .extract x i => match ρ x with
    | some (.tup l) => (l[i]?).map (·, [])
    | _ => none
  | .fieldAddr S x f => match T.fl S f, ρ x with
    | some (off, n + 1, _), some (.ptr id o) => some (.ptr id (o + off), [])
    | some (off, n + 1, _), some (.ep c) => some (.ep (c.drop off), [])
    | _, _ => none
  | .field S x f => match T.fl S f, ρ x with
    | some (off, n, g), some (.agg c) => (valA g n (c.drop off)).map (·, [])
    | _, _ => none
  | .indexAddr ty x i => match gt T.elm ty, ρ x, ρ i with
    | some (_, sz), some (.sl _ sz' rows), some (.int _ i) => if 0 ≤ i then (match rows[i.toNat]? with
        | some r => if sz' = sz then some (.ep r, []) else none
        | none => none) else none
    | _, _, _ => none
  | .index ty x i => match gt T.srt ty, ρ x, ρ i with
    | some .string, some (.str s), some (.int _ i) => if 0 ≤ i then (match s.data[i.toNat]? with
        | some b => some (.int .u8 b.toNat, [])
        | none => none) else none
    | _, _, _ => none
  | .slice ty x lo hi mx => match gt T.srt ty, ρ x, mx with
    | some .string, some (.str s), none => match bnd ρ hi s.size s.size with
      | some h => match bnd ρ lo 0 h with
        | some l => some (.str (s.extract l h), [])
        | none => none
      | none => none
    | some (.slice e), some (.sl _ sz rows), none => match gt T.elm ty with
      | some (_, sz') => if sz' = sz ∨ rows = [] then (match bnd ρ hi rows.length rows.length with
        | some h => match bnd ρ lo 0 h with
          | some l => some (.sl .ro sz ((rows.take h).drop l), [])
          | none => none
        | none => none) else none
      | none => none
    | _, _, _ => none
  | .load ty x => match gt T.lay ty, ρ x with
    | some (g, n), some (.ptr id off) => match H id with
      | some (.box t cells) => (valA g n (cells.drop off)).map (·, [(id, .box t cells)])
      | _ => none
    | some (g, n), some (.ep cells) => (valA g n cells).map (·, [])
    | _, _ => none
  | .makeFunc fn first caps => match fn, listA ρ first.toList, listA ρ caps.toList with
    | .func f, some a, some b => some (.func f a b, [])
    | _, _, _ => none
  | .call c => match c.callee, c.args.toList, c.argTypes.toList with
    | .builtin .len, [x], [ty] => match gt T.srt ty, ρ x with
      | some .string, some (.str s) => some (.int .i64 s.size, [])
      | some (.slice _), some (.sl _ _ rows) => some (.int .i64 rows.length, [])
      | _, _ => none
    | _, _, _ => none
  | _ => none

theorem lay_spec {P : Program} {T : TypeId} {g : Bool} {n : Nat} (h : lay P T = some (g, n)) :
    ∃ i, P.info? T = some i ∧ i.size = n ∧ (∀ w, (isAgg T).run P w = .ok g w) ∧ (∀ w, (sizeOf T).run P w = .ok n w) := by
  unfold lay at h
  split at h
  · rename_i d i hd hi
    injection h with h
    injection h with h1 h2
    refine ⟨i, hi, h2, fun w => ?_, fun w => ?_⟩
    · unfold isAgg
      simp only [Sem.run_bind, run_underlying hd, Result.andThen_ok]
      subst h1
      cases d <;> rfl
    · simp [sizeOf, typeInfo, hi, h2]
  · cases h

theorem head_cell {l : List AV} {x : AV} (h : l.head? = some x) : l[0]? = some x := by cases l <;> simp_all

/-- A variable is read out of a row of cells. -/
theorem loadVar_cells {P : Program} {C : Cx} {T : TypeId} {g : Bool} {n : Nat} (h : lay P T = some (g, n)) {cells : List AV} {r : AV} (hr : valA g n cells = some r) (b off : Nat) (vs : List Value)
    (hv : RdL C cells vs) (h1 : ∀ u ∈ vs, u.oneCell' = true) (hc : ∀ j u, vs[j]? = some u → C.w.cell? ⟨b, off + j, none⟩ = some u) :
    ∃ z, (loadVar T ⟨b, off, none⟩).run P C.w = .ok z C.w ∧ Rd C r z := by
  obtain ⟨i, hi, hs, ha, hz⟩ := lay_spec h
  unfold valA at hr
  have hadd : ∀ j, (⟨b, off, none⟩ : Addr).add j = ⟨b, off + j, none⟩ := fun j => by unfold Addr.add; split <;> simp_all
  split at hr
  · rename_i hg
    subst hg
    split at hr
    · rename_i hn
      injection hr with hr
      subst hr
      have hlen := hv.length
      have hl := run_loadCells_list (P := P) C.w ⟨b, off, none⟩ (vs.take n) (fun j u hj => by
        rw [List.getElem?_take] at hj
        split at hj
        · rw [hadd]; exact hc j u hj
        · cases hj)
      rw [show (vs.take n).length = n by simp; omega] at hl
      refine ⟨.agg (vs.take n).toArray, ?_, ?_⟩
      · simp only [loadVar, Sem.run_bind, ha, Result.andThen_ok, if_true, hz, hl, Sem.run_pure]
      · simp only [Rd]
        refine ⟨_, rfl, ?_, fun u hu => h1 u (List.mem_of_mem_take (by simpa using hu))⟩
        have := hv.extract 0 n
        simpa using this
    · cases hr
  · rename_i hg
    have hg : g = false := by simpa using hg
    subst hg
    obtain ⟨u, hu, hrd⟩ := hv.get (head_cell hr)
    refine ⟨u, ?_, hrd⟩
    have := hc 0 u hu
    simp only [Nat.add_zero] at this
    simp only [loadVar, Sem.run_bind, ha, Result.andThen_ok, Bool.false_eq_true, if_false]
    simp [load, Sem.run, this]

/-- An operation that leaves the world alone. -/
theorem OpS.val {P : Program} {o : Oper} {ρ : Operand → Option AV} {rd : List (Nat × AObj)} {v : AV}
    (h : ∀ (C : Cx) (a : Act), Inv C → (∀ x ∈ o.op.operands, ∀ y, ρ x = some y → Rd C y (a.eval x)) → (∀ p ∈ rd, C.H p.1 = some p.2 ∧ ∃ u, C.G p.1 = some u) → ∃ u, (execOp a.eval o).run P C.w = .ok (.value u) C.w ∧ Rd C v u) :
    OpS P o ρ rd [] v := by
  intro C a next Q hI hρ hrd _ hk
  obtain ⟨u, hr, hv⟩ := h C a hI hρ hrd
  unfold Oper.wp
  rw [hr, Oper.upon_value]
  exact hk C u hI (Le.refl C) rfl rfl rfl (fun id u h => ⟨u, h⟩) (by simp) hv

theorem fld_spec {P : Program} {S : TypeId} {f off n : Nat} {g : Bool} (h : fld P S f = some (off, n, g)) : ∃ fs x, P.underlying S = some (.struct fs) ∧ fs[f]? = some x ∧ x.offset = off ∧ lay P x.type = some (g, n) := by
  unfold fld at h
  split at h
  · rename_i fs hfs
    split at h
    · rename_i x hx
      split at h
      · rename_i g' n' hl
        injection h with h
        injection h with h1 h2
        injection h2 with h2 h3
        subst h1 h2 h3
        exact ⟨fs, x, hfs, hx, rfl, hl⟩
      · cases h
    · cases h
  · cases h

theorem elm_spec {P : Program} {T e : TypeId} {sz : Nat} (h : elm P T = some (e, sz)) : P.underlying T = some (.slice e) ∧ ∃ i, P.info? e = some i ∧ i.size = sz := by
  unfold elm at h
  split at h
  · rename_i e' he
    split at h
    · rename_i i hi
      injection h with h
      injection h with h1 h2
      subst h1
      exact ⟨he, i, hi, h2⟩
    · cases h
  · cases h

theorem add_plain' (b off j : Nat) : (⟨b, off, none⟩ : Addr).add j = ⟨b, off + j, none⟩ := by unfold Addr.add; split <;> simp_all

theorem bnd_run {P : Program} {C : Cx} {a : Act} {ρ : Operand → Option AV} {x : Option Operand} {d m r : Nat} (h : bnd ρ x d m = some r) (hρ : ∀ o ∈ x.toArray, ∀ y, ρ o = some y → Rd C y (a.eval o)) (code : BoundsCode) :
    (match x.map a.eval with | some v => Instr.sliceBound v m code | none => pure d : Sem Nat).run P C.w = .ok r C.w := by
  unfold bnd at h
  cases x with
  | none => simp only [Option.map_none] ; injection h with h; subst h; rfl
  | some o =>
    simp only [Option.map_some] at h ⊢
    split at h
    · rename_i k i hk
      have hv := hρ o (by simp) _ hk
      simp only [Rd] at hv
      split at h
      · rename_i hb
        injection h with h
        subst h
        rw [hv]
        exact run_sliceBound C.w _ _ _ _ hb.1 (by omega)
      · cases h
    · cases h

theorem bnd_le {ρ : Operand → Option AV} {x : Option Operand} {d m r : Nat} (h : bnd ρ x d m = some r) (hd : d ≤ m) : r ≤ m := by
  unfold bnd at h
  split at h
  · injection h with h; omega
  · split at h
    · split at h
      · injection h with h; omega
      · cases h
    · cases h

theorem bytesA_spec {C : Cx} {b off : Nat} : ∀ {rows : List (List AV)} {ns : List Int}, bytesA rows = some ns → RdR C 1 rows b off → rows.length = ns.length ∧ ∀ i, i < ns.length → C.w.cell? ⟨b, off + i, none⟩ = some (.int .u8 (ns.getD i 0))
  | [], ns, h, _ => by simp [bytesA] at h; subst h; simp
  | r :: rs, ns, h, hr => by
    unfold bytesA at h
    split at h
    · rename_i h0; cases h0
    · rename_i n r' h0
      injection h0 with h1 h2
      subst h1 h2
      simp only [Option.map_eq_some_iff] at h
      obtain ⟨l, hl, rfl⟩ := h
      simp only [RdR, RdC] at hr
      obtain ⟨_, ⟨_, ⟨u, q1, q2, q3⟩, _⟩, hr⟩ := hr
      simp only [Rd] at q3
      subst q3
      obtain ⟨k1, k2⟩ := bytesA_spec (off := off + 1) hl hr
      refine ⟨by simp [k1], fun i hi => ?_⟩
      cases i with
      | zero => simpa using q1
      | succ i => have := k2 i (by simpa using hi); rw [show off + (i + 1) = off + 1 + i by omega]; simpa using this
    · cases h

theorem listA_rd {C : Cx} {a : Act} {ρ : Operand → Option AV} : ∀ {l : List Operand} {xs : List AV}, listA ρ l = some xs → (∀ x ∈ l, ∀ y, ρ x = some y → Rd C y (a.eval x)) → RdL C xs (l.map a.eval)
  | [], xs, h, _ => by simp [listA] at h; subst h; simp [RdL]
  | x :: r, xs, h, hρ => by
    unfold listA at h
    split at h
    · rename_i y l h1 h2
      injection h with h
      subst h
      simp only [List.map_cons, RdL]
      exact ⟨hρ x (by simp) y h1, listA_rd h2 (fun z hz => hρ z (by simp [hz]))⟩
    · cases h

structure TI.Ok (T : TI) (P : Program) : Prop where
  lay : ∀ {t r}, gt T.lay t = some r → Tl.lay P t = some r
  fld : ∀ {s f r}, T.fl s f = some r → Tl.fld P s f = some r
  elm : ∀ {t r}, gt T.elm t = some r → Tl.elm P t = some r
  srt : ∀ {t r}, gt T.srt t = some r → sort0 P t = r

set_option maxHeartbeats 1000000 in
theorem aval_sound {P : Program} {T : TI} (hT : T.Ok P) {H : Nat → Option AObj} {ρ : Operand → Option AV} {o : Oper} {v : AV} {rd : List (Nat × AObj)} (h : aval T H ρ o.op = some (v, rd)) : OpS P o ρ rd [] v := by
  refine OpS.val fun C a hI hρ hrd => ?_
  obtain ⟨dst, op, ty, pos, after, guard⟩ := o
  simp only at h hρ
  cases op <;> simp only [aval] at h <;> try (cases h; done)
  case move x =>
    simp only [Option.map_eq_some_iff, Prod.mk.injEq] at h
    obtain ⟨y, hy, rfl, rfl⟩ := h
    exact ⟨_, by simp [execOp], hρ x (by simp [Op.operands]) y hy⟩
  case assign x =>
    simp only [Option.map_eq_some_iff, Prod.mk.injEq] at h
    obtain ⟨y, hy, rfl, rfl⟩ := h
    exact ⟨_, by simp [execOp], hρ x (by simp [Op.operands]) y hy⟩
  case pick c x y =>
    split at h
    · rename_i t vx vy h1 h2 h3
      injection h with h
      injection h with h _
      have k1 := hρ c (by simp [Op.operands]) _ h1
      have k2 := hρ x (by simp [Op.operands]) _ h2
      have k3 := hρ y (by simp [Op.operands]) _ h3
      simp only [Rd] at k1
      refine ⟨if t then a.eval x else a.eval y, by simp [execOp, k1, asBool], ?_⟩
      subst h
      cases t
      · simpa using k3
      · simpa using k2
    · cases h
  case nilCheck x =>
    split at h
    · rename_i i off h1
      injection h with h
      injection h with h _
      subst h
      have k1 := hρ x (by simp [Op.operands]) _ h1
      have k2 := k1
      simp only [Rd] at k1
      obtain ⟨b, _, k1⟩ := k1
      exact ⟨a.eval x, by simp [execOp, k1], k2⟩
    · rename_i c h1
      injection h with h
      injection h with h _
      subst h
      have k1 := hρ x (by simp [Op.operands]) _ h1
      have k2 := k1
      simp only [Rd] at k1
      obtain ⟨b, off, k1, _⟩ := k1
      exact ⟨a.eval x, by simp [execOp, k1], k2⟩
    · cases h
  case binOp op ty' x y yT =>
    split at h
    · rename_i vx vy h1 h2
      simp only [Option.map_eq_some_iff, Prod.mk.injEq] at h
      obtain ⟨z, hz, rfl, rfl⟩ := h
      obtain ⟨u, k1, k2⟩ := abin_run hT.srt hz (hρ x (by simp [Op.operands]) _ h1) (hρ y (by simp [Op.operands]) _ h2) x y C.w
      refine ⟨u, ?_, k2⟩
      simp only [execOp, Sem.run_bind] at k1 ⊢
      rw [k1]
      rfl
    · cases h
  case unOp op ty' x =>
    split at h
    · rename_i k n h1
      injection h with h
      injection h with h _
      subst h
      have k1 := hρ x (by simp [Op.operands]) _ h1
      simp only [Rd] at k1
      exact ⟨_, by simp [execOp, k1, Op.unary, Op.intArith]; rfl, by simp [Rd]⟩
    · rename_i b h1
      injection h with h
      injection h with h _
      subst h
      have k1 := hρ x (by simp [Op.operands]) _ h1
      simp only [Rd] at k1
      exact ⟨_, by simp [execOp, k1, Op.unary]; rfl, by simp [Rd]⟩
    · rename_i k n h1
      injection h with h
      injection h with h _
      subst h
      have k1 := hρ x (by simp [Op.operands]) _ h1
      simp only [Rd] at k1
      exact ⟨_, by simp [execOp, k1, Op.unary, intBits_xor]; rfl, by simp [Rd]⟩
    · cases h
  case convert src dst x =>
    split at h
    · rename_i k0 k k1 n h1 h2 h3
      injection h with h
      injection h with h _
      subst h
      have q := hρ x (by simp [Op.operands]) _ h3
      simp only [Rd] at q
      refine ⟨.int k (k.wrap n), ?_, by simp [Rd]⟩
      have e1 := sort0_int (hT.srt h1)
      have e2 := sort0_int (hT.srt h2)
      simp [execOp, q, convert, run_underlying e1, run_underlying e2, Conv.intToInt]
    · rename_i s h1 h2 h3
      injection h with h
      injection h with h _
      subst h
      have q := hρ x (by simp [Op.operands]) _ h3
      simp only [Rd] at q
      refine ⟨.string s, ?_, by simp [Rd]⟩
      have e1 := sort0_string (hT.srt h1)
      have e2 := sort0_string (hT.srt h2)
      simp [execOp, q, convert, run_underlying e1, run_underlying e2]
    · rename_i e tag rows h1 h2 h3
      split at h
      · rename_i h4
        simp only [Option.map_eq_some_iff, Prod.mk.injEq] at h
        obtain ⟨ns, hns, rfl, rfl⟩ := h
        have q := hρ x (by simp [Op.operands]) _ h3
        simp only [Rd] at q
        obtain ⟨A, c, q0, _, _, q1, _⟩ := q
        refine ⟨.string (strOfNums ns), ?_, by simp [Rd]⟩
        have e1 := sort0_slice (hT.srt h1)
        have e2 := sort0_string (hT.srt h2)
        have e3 := sort0_int (hT.srt h4)
        have key : (convert src dst (a.eval x)).run P C.w = .ok (.string (strOfNums ns)) C.w := by
          rw [q0]
          rcases q1 with rfl | ⟨b, off, rfl, q1⟩
          · simp [bytesA] at hns
            subst hns
            cases A with
            | none => exact run_convert_bytes_nil C.w src e e1 e3 _ _ dst e2
            | some ad =>
              obtain ⟨b, off, sp⟩ := ad
              have := run_convert_bytes_string (P := P) C.w src dst e (some ⟨b, off, sp⟩) 0 c e1 e3 e2
              rw [List.length_nil, this, run_bytesToString C.w _ 0 c [] (by simp [loadCells, loadCellsFrom])]
              rfl
          · obtain ⟨k1, k2⟩ := bytesA_spec hns q1
            rw [k1]
            exact run_convert_bytes_arg C.w src e e1 e3 b off _ c ns rfl k2 dst e2
        simp only [execOp, Sem.run_bind, key, Result.andThen_ok, Sem.run_pure]
      · cases h
    · cases h
  case extract x i =>
    split at h
    · rename_i l h1
      simp only [Option.map_eq_some_iff, Prod.mk.injEq] at h
      obtain ⟨y, hy, rfl, rfl⟩ := h
      have q := hρ x (by simp [Op.operands]) _ h1
      simp only [Rd] at q
      obtain ⟨us, q0, q1⟩ := q
      obtain ⟨u, k1, k2⟩ := q1.get hy
      refine ⟨u, ?_, k2⟩
      have k1 : us[i]? = some u := by simpa using k1
      simp [execOp, q0, Instr.extract, k1]
    · cases h
  case fieldAddr S x f =>
    split at h
    · rename_i off n g id o h1 h2
      injection h with h
      injection h with h _
      subst h
      have q := hρ x (by simp [Op.operands]) _ h2
      simp only [Rd] at q
      obtain ⟨b, q0, q1⟩ := q
      obtain ⟨fs, y, e1, e2, e3, e4⟩ := fld_spec (hT.fld h1)
      obtain ⟨_, _, _, _, e5⟩ := lay_spec e4
      refine ⟨.pointer (some ⟨b, o + off, none⟩), ?_, by simp only [Rd]; exact ⟨b, q0, rfl⟩⟩
      simp [execOp, q1, Instr.fieldAt, run_underlying e1, e2, Instr.sureAddr, fieldPlace, e5, e3, add_plain']
    · rename_i off n g c h1 h2
      injection h with h
      injection h with h _
      subst h
      have q := hρ x (by simp [Op.operands]) _ h2
      simp only [Rd] at q
      obtain ⟨b, o, q1, q2⟩ := q
      obtain ⟨fs, y, e1, e2, e3, e4⟩ := fld_spec (hT.fld h1)
      obtain ⟨_, _, _, _, e5⟩ := lay_spec e4
      refine ⟨.pointer (some ⟨b, o + off, none⟩), ?_, by simp only [Rd]; exact ⟨b, o + off, rfl, q2.drop off⟩⟩
      simp [execOp, q1, Instr.fieldAt, run_underlying e1, e2, Instr.sureAddr, fieldPlace, e5, e3, add_plain']
    · cases h
  case field S x f =>
    split at h
    · rename_i off n g c h1 h2
      simp only [Option.map_eq_some_iff, Prod.mk.injEq] at h
      obtain ⟨y, hy, rfl, rfl⟩ := h
      have q := hρ x (by simp [Op.operands]) _ h2
      simp only [Rd] at q
      obtain ⟨vs, q0, q1, q2⟩ := q
      obtain ⟨fs, z, e1, e2, e3, e4⟩ := fld_spec (hT.fld h1)
      obtain ⟨_, _, _, e5, e6⟩ := lay_spec e4
      have hd := q1.extract off n
      unfold valA at hy
      split at hy
      · rename_i hg
        subst hg
        split at hy
        · rename_i hn
          injection hy with hy
          subst hy
          refine ⟨.agg (vs.extract off (off + n)), ?_, ?_⟩
          · simp [execOp, q0, Instr.field, run_underlying e1, e2, asAgg, part, e5, e6, e3]
          · simp only [Rd]
            refine ⟨_, rfl, ?_, fun u hu => q2 u ?_⟩
            · simpa [Array.toList_extract, List.extract_eq_take_drop] using hd
            · simp only [Array.toList_extract, List.extract_eq_take_drop] at hu
              exact List.mem_of_mem_drop (List.mem_of_mem_take hu)
        · cases hy
      · rename_i hg
        have hg : g = false := by simpa using hg
        subst hg
        have h0 := head_cell hy
        rw [List.getElem?_drop] at h0
        obtain ⟨u, k1, k2⟩ := q1.get h0
        refine ⟨u, ?_, k2⟩
        have k1 : vs[off]? = some u := by simpa using k1
        simp [execOp, q0, Instr.field, run_underlying e1, e2, asAgg, part, e5, e3, k1]
    · cases h
  case indexAddr ty' x i =>
    split at h
    · rename_i e sz tag sz' rows k i' h1 h2 h3
      split at h
      · rename_i hi0
        split at h
        · rename_i r hr
          split at h
          · rename_i hsz
            subst hsz
            injection h with h
            injection h with h _
            subst h
            have q := hρ x (by simp [Op.operands]) _ h2
            have q' := hρ i (by simp [Op.operands]) _ h3
            simp only [Rd] at q q'
            obtain ⟨A, c, q0, _, _, q1, _⟩ := q
            rcases q1 with rfl | ⟨b, off, rfl, q1⟩
            · simp at hr
            · obtain ⟨e1, inf, e2, e3⟩ := elm_spec (hT.elm h1)
              obtain ⟨_, k1⟩ := q1.get hr
              have hlt : i'.toNat < rows.length := (List.getElem?_eq_some_iff.1 hr).1
              refine ⟨.pointer (some ⟨b, off + i'.toNat * sz', none⟩), ?_, by simp only [Rd]; exact ⟨b, _, rfl, k1⟩⟩
              have hlt' : i' < (rows.length : Int) := by omega
              simp [execOp, q0, q', Instr.indexAt, asIntOf, run_underlying e1, hi0, hlt', sizeOf, typeInfo, e2, e3, add_plain']
          · cases h
        · cases h
      · cases h
    · cases h
  case index ty' x i =>
    split at h
    · rename_i s k i' h1 h2 h3
      split at h
      · rename_i hi0
        split at h
        · rename_i b hb
          injection h with h
          injection h with h _
          subst h
          have q := hρ x (by simp [Op.operands]) _ h2
          have q' := hρ i (by simp [Op.operands]) _ h3
          simp only [Rd] at q q'
          refine ⟨.int .u8 b.toNat, ?_, by simp [Rd]⟩
          have e1 := sort0_string (hT.srt h1)
          have hlt : i'.toNat < s.size := (Array.getElem?_eq_some_iff.1 hb).1
          have hb' : s[i'.toNat]? = some b := by
            rw [getElem?_pos s i'.toNat hlt]
            rw [Array.getElem?_eq_getElem hlt] at hb
            injection hb with hb
            rw [← hb]
            rfl
          simp [execOp, q, q', Instr.index, asIntOf, run_underlying e1, hi0, hb']
        · cases h
      · cases h
    · cases h
  case slice ty' x lo hi mx =>
    split at h
    · rename_i s h1 h2
      split at h
      · rename_i hh hhi
        split at h
        · rename_i ll hlo
          injection h with h
          injection h with h _
          subst h
          have q := hρ x (by simp [Op.operands]) _ h2
          simp only [Rd] at q
          have e1 := sort0_string (hT.srt h1)
          refine ⟨.string (s.extract ll hh), ?_, by simp [Rd]⟩
          have b1 := bnd_run (P := P) (C := C) (a := a) hhi (fun y hy z hz => hρ y (by simp [Op.operands] at hy ⊢; simp [hy]) z hz) .sliceAlen
          have b2 := bnd_run (P := P) (C := C) (a := a) hlo (fun y hy z hz => hρ y (by simp [Op.operands] at hy ⊢; simp [hy]) z hz) .sliceB
          have hsb : (Instr.sliceBounds false s.size s.size (lo.map a.eval) (hi.map a.eval) none).run P C.w = .ok (ll, hh, s.size) C.w := by
            cases hi <;> cases lo <;> simp_all [Instr.sliceBounds]
          have key : (Instr.sliceAt ty' (a.eval x) (lo.map a.eval) (hi.map a.eval) none).run P C.w = .ok (.string (s.extract ll hh)) C.w := by
            simp [Instr.sliceAt, run_underlying e1, Instr.slice, q, hsb]
          simp only [execOp, Option.map_none, Sem.run_bind, key, Result.andThen_ok, Sem.run_pure]
        · cases h
      · cases h
    · rename_i e tag sz rows h1 h2
      split at h
      · rename_i e' sz' h4
        split at h
        · rename_i hszr
          split at h
          · rename_i hh hhi
            split at h
            · rename_i ll hlo
              injection h with h
              injection h with h _
              subst h
              have q := hρ x (by simp [Op.operands]) _ h2
              simp only [Rd] at q
              obtain ⟨A, c, q0, qc, qm, q1, _⟩ := q
              obtain ⟨e1, inf, e2, e3⟩ := elm_spec (hT.elm h4)
              have hle := bnd_le hhi (Nat.le_refl _)
              have hle2 := bnd_le hlo (Nat.zero_le _)
              have b1 : (match hi.map a.eval with | some v => Instr.sliceBound v c .sliceAcap | none => pure rows.length : Sem Nat).run P C.w = .ok hh C.w := by
                have hhi' : bnd ρ hi rows.length c = some hh := by
                  unfold bnd at hhi ⊢
                  cases hi with
                  | none => exact hhi
                  | some o =>
                    simp only at hhi ⊢
                    split at hhi
                    · rename_i k i hk
                      split at hhi
                      · rename_i hb; rw [if_pos ⟨hb.1, by omega⟩]; exact hhi
                      · cases hhi
                    · cases hhi
                exact bnd_run (P := P) (C := C) (a := a) hhi' (fun y hy z hz => hρ y (by simp [Op.operands] at hy ⊢; simp [hy]) z hz) .sliceAcap
              have b2 := bnd_run (P := P) (C := C) (a := a) hlo (fun y hy z hz => hρ y (by simp [Op.operands] at hy ⊢; simp [hy]) z hz) .sliceB
              have hsb : (Instr.sliceBounds true rows.length c (lo.map a.eval) (hi.map a.eval) none).run P C.w = .ok (ll, hh, c) C.w := by
                cases hi <;> cases lo <;> simp_all [Instr.sliceBounds]
              have key : (Instr.sliceAt ty' (a.eval x) (lo.map a.eval) (hi.map a.eval) none).run P C.w = .ok (.slice (if c = ll then A else A.map (·.add (ll * sz'))) (hh - ll) (c - ll)) C.w := by
                simp [Instr.sliceAt, run_underlying e1, Instr.slice, q0, hsb, sizeOf, typeInfo, e2, e3]
              refine ⟨_, by simp only [execOp, Option.map_none, Sem.run_bind, key, Result.andThen_ok, Sem.run_pure]; rfl, ?_⟩
              simp only [Rd]
              have hlen : ((rows.take hh).drop ll).length = hh - ll := by simp; omega
              refine ⟨_, c - ll, by rw [hlen], by rw [hlen]; omega, by rw [hlen]; omega, ?_, trivial⟩
              rcases q1 with rfl | ⟨b, off, rfl, q1⟩
              · left; simp
              · by_cases hcl : c = ll
                · left
                  apply List.eq_nil_of_length_eq_zero
                  rw [hlen]; omega
                · right
                  rcases hszr with hs | hs
                  · subst hs
                    refine ⟨b, off + ll * sz', by rw [if_neg hcl]; simp [add_plain'], ?_⟩
                    exact (q1.take hh).drop ll (by simp; omega)
                  · subst hs
                    simp at hlen hle
                    refine ⟨b, off + ll * sz', by rw [if_neg hcl]; simp [add_plain'], by simp [RdR]⟩
            · cases h
          · cases h
        · cases h
      · cases h
    · cases h
  case load ty' x =>
    split at h
    · rename_i g n id off h1 h2
      split at h
      · rename_i t cells h3
        simp only [Option.map_eq_some_iff, Prod.mk.injEq] at h
        obtain ⟨y, hy, rfl, rfl⟩ := h
        have q := hρ x (by simp [Op.operands]) _ h2
        simp only [Rd] at q
        obtain ⟨b, q0, q1⟩ := q
        obtain ⟨k1, _⟩ := hrd (id, .box t cells) (by simp)
        obtain ⟨o, k3, k4⟩ := hI.obj id _ q0
        simp only at k1
        rw [k1] at k3
        injection k3 with k3
        subst k3
        obtain ⟨b', cs, k5, k6, k7, k8, k9⟩ := k4
        injection k5 with k5
        injection k5 with k5
        injection k5 with k5 _ _
        subst k5
        obtain ⟨z, m1, m2⟩ := loadVar_cells (C := C) (hT.lay h1) hy b off (cs.toList.drop off) (by
          have := k8.extract off cells.length
          rw [List.take_of_length_le (by simp), List.take_of_length_le (by have := k8.length; simp at this ⊢; omega)] at this
          exact this) (fun u hu => k9 u (List.mem_of_mem_drop hu)) (fun j u hj => by
          rw [cell_of k7]
          rw [List.getElem?_drop] at hj
          simpa using hj)
        refine ⟨z, ?_, m2⟩
        simp only [execOp, Instr.loadAt, Instr.sureAddr, q1, Sem.run_bind, Sem.run_pure, Result.andThen_ok, m1]
      · cases h
    · rename_i g n cells h1 h2
      simp only [Option.map_eq_some_iff, Prod.mk.injEq] at h
      obtain ⟨y, hy, rfl, rfl⟩ := h
      have q := hρ x (by simp [Op.operands]) _ h2
      simp only [Rd] at q
      obtain ⟨b, off, q0, q1⟩ := q
      obtain ⟨vs, k1, k2, k3⟩ := q1.vals
      obtain ⟨z, m1, m2⟩ := loadVar_cells (C := C) (hT.lay h1) hy b off vs k1 k2 k3
      refine ⟨z, ?_, m2⟩
      simp only [execOp, Instr.loadAt, Instr.sureAddr, q0, Sem.run_bind, Sem.run_pure, Result.andThen_ok, m1]
    · cases h
  case makeFunc fn first caps =>
    split at h
    · rename_i f l1 l2 h1 h2
      injection h with h
      injection h with h _
      subst h
      refine ⟨.func (.func f) (first.map a.eval) (caps.map a.eval), by simp [execOp, Instr.makeFunc], ?_⟩
      simp only [Rd]
      refine ⟨_, _, rfl, ?_, ?_⟩
      · rw [Array.toList_map]; exact listA_rd h1 (fun x hx => hρ x (by simp [Op.operands]; left; simpa using hx))
      · rw [Array.toList_map]; exact listA_rd h2 (fun x hx => hρ x (by simp [Op.operands]; right; simpa using hx))
    · cases h
  case call c =>
    obtain ⟨cal, args, tys⟩ := c
    simp only at h
    split at h
    · rename_i x ty' ha ht
      have ha : args = #[x] := by apply Array.ext'; simpa using ha
      have ht : tys = #[ty'] := by apply Array.ext'; simpa using ht
      subst ha ht
      split at h
      · rename_i s h1 h2
        injection h with h
        injection h with h _
        subst h
        have q := hρ x (by simp [Op.operands, Call.operands]) _ h2
        simp only [Rd] at q
        refine ⟨.int .i64 s.size, ?_, by simp [Rd]⟩
        have e1 := sort0_string (hT.srt h1)
        simp [execOp, resolve, invoke, builtin, q, Builtin.len_, run_underlying e1, goInt]
      · rename_i e tag sz rows h1 h2
        injection h with h
        injection h with h _
        subst h
        have q := hρ x (by simp [Op.operands, Call.operands]) _ h2
        simp only [Rd] at q
        obtain ⟨A, c, q0, _⟩ := q
        refine ⟨.int .i64 rows.length, ?_, by simp [Rd]⟩
        have e1 := sort0_slice (hT.srt h1)
        simp [execOp, resolve, invoke, builtin, q0, Builtin.len_, run_underlying e1, goInt]
      · cases h
    · cases h

end Go.Proofs.Ytbcjcekoonebiaa.Tl
