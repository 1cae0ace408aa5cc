/- The tree logic, part D: the operations that only compute or read. Conditions: none. -/
import Derived.Test.YtbcjcekoonebiaaTlC
import Derived.WalkKit
import Derived.Laws.BytesArg
set_option linter.unusedVariables false
set_option linter.unusedSimpArgs false
namespace Go.Proofs.Ytbcjcekoonebiaa.Tl
open Go Go.RowKit

/-! ### what is asked of types -/
def lay (P : Program) (T : TypeId) : Option (Bool × Nat) :=
  match P.underlying T, P.info? T with
  | some d, some i => some ((match d with | .struct _ => true | .array _ _ => true | _ => false), i.size)
  | _, _ => none
def fld (P : Program) (S : TypeId) (f : Nat) : Option (Nat × Nat × Bool) :=
  match P.underlying S with
  | some (.struct fs) => match fs[f]? with
    | some x => match lay P x.type with
      | some (g, n) => some (x.offset, n, g)
      | none => none
    | none => none
  | _ => none
def elm (P : Program) (T : TypeId) : Option (TypeId × Nat) :=
  match P.underlying T with
  | some (.slice e) => match P.info? e with
    | some i => some (e, i.size)
    | none => none
  | _ => none
inductive Sort0 where | bool | int (k : IntKind) | string | pointer | slice (e : TypeId) | func | other
  deriving DecidableEq
def sort0 (P : Program) (T : TypeId) : Sort0 :=
  match P.underlying T with
  | some .bool => .bool
  | some (.int k) => .int k
  | some .string => .string
  | some (.pointer _) => .pointer
  | some (.slice e) => .slice e
  | some (.func _ _ _) => .func
  | _ => .other

/-- A table of types, as lists. -/
structure TI where
  lay : List (Nat × (Bool × Nat))
  fld : List (Nat × List (Nat × Nat × Bool))
  elm : List (Nat × (TypeId × Nat))
  srt : List (Nat × Sort0)
  zr : List (Nat × List AV)
  plc : List (Nat × List (Nat × Nat))
  byt : List (Nat × Nat)
  fns : List (Nat × Bool)
def gt {β : Type} : List (Nat × β) → Nat → Option β
  | [], _ => none
  | (a, b) :: r, k => bif Nat.beq a k then some b else gt r k
def TI.fl (T : TI) (S f : Nat) : Option (Nat × Nat × Bool) := match gt T.fld S with | some l => l[f]? | none => none
theorem gt_mem {β : Type} : ∀ {l : List (Nat × β)} {k : Nat} {b : β}, gt l k = some b → (k, b) ∈ l
  | [], _, _, h => by cases h
  | (a, c) :: r, k, b, h => by
    simp only [gt] at h
    cases hq : Nat.beq a k with
    | true => rw [hq] at h; simp only [cond_true] at h; injection h with h; subst h; have := Nat.eq_of_beq_eq_true hq; subst this; simp
    | false => rw [hq] at h; simp only [cond_false] at h; simp [gt_mem h]

/-! ### values of one cell -/
def one : AV → Bool
  | .undef => false
  | .agg _ => false
  | .tup _ => false
  | _ => true
theorem Rd.one {C : Cx} {x : AV} {u : Value} (h : one x = true) (hr : Rd C x u) : u.oneCell' = true ∧ u.cells = #[u] := by
  cases x <;> simp only [Tl.one, Bool.false_eq_true] at h <;> simp only [Rd] at hr
  case bool b => subst hr; exact ⟨rfl, rfl⟩
  case int k n => subst hr; exact ⟨rfl, rfl⟩
  case str s => subst hr; exact ⟨rfl, rfl⟩
  case nilp => subst hr; exact ⟨rfl, rfl⟩
  case ptr id off => obtain ⟨b, _, rfl⟩ := hr; exact ⟨rfl, rfl⟩
  case ep cells => obtain ⟨b, off, rfl, _⟩ := hr; exact ⟨rfl, rfl⟩
  case sl tag sz rows => obtain ⟨A, c, rfl, _⟩ := hr; exact ⟨rfl, rfl⟩
  case func f a b => obtain ⟨vs, us, rfl, _⟩ := hr; exact ⟨rfl, rfl⟩
  case nilf => subst hr; exact ⟨rfl, rfl⟩
  case mv id ver k =>
    have := hr.1
    cases k <;> simp only [Shp] at this
    · obtain ⟨A, n, c, rfl⟩ := this; exact ⟨rfl, rfl⟩
    · obtain ⟨A, n, c, rfl, _⟩ := this; exact ⟨rfl, rfl⟩
    · obtain ⟨a, rfl⟩ := this; exact ⟨rfl, rfl⟩

/-- A value's cells. -/
def cellsA : AV → Option (List AV)
  | .agg l => some l
  | x => if one x then some [x] else none
theorem cellsA_rd {C : Cx} {x : AV} {u : Value} {l : List AV} (h : cellsA x = some l) (hr : Rd C x u) : RdL C l u.cells.toList ∧ ∀ y ∈ u.cells.toList, y.oneCell' = true := by
  by_cases ha : ∃ m, x = .agg m
  · obtain ⟨m, rfl⟩ := ha
    simp only [cellsA] at h
    injection h with h
    subst h
    simp only [Rd] at hr
    obtain ⟨vs, rfl, h1, h2⟩ := hr
    exact ⟨h1, h2⟩
  · have h1 : (if one x then some [x] else none) = some l := by
      cases x <;> simp_all [cellsA]
    split at h1
    · rename_i h2
      injection h1 with h1
      subst h1
      obtain ⟨k1, k2⟩ := hr.one h2
      rw [k2]
      exact ⟨by simp only [RdL]; exact ⟨hr, trivial⟩, by simpa using k1⟩
    · cases h1

/-- Cells as a value of a type. -/
def valA (g : Bool) (n : Nat) (cells : List AV) : Option AV :=
  if g then (if n ≤ cells.length then some (.agg (cells.take n)) else none) else cells.head?

/-! ### binary operations -/
def slNil : Tag → List (List AV) → Option Bool
  | .nil, [] => some true
  | _, _ :: _ => some false
  | _, _ => none
def abin (T : TI) (op : BinOp) (ty : TypeId) : AV → AV → Option AV
  | .int k a, .int k' b =>
    match op with
    | .shl => if b < 0 then none else some (.int k (k.wrap (a * 2 ^ (min b.toNat k.bits))))
    | .shr => if b < 0 then none else some (.int k (a.fdiv (2 ^ (min b.toNat k.bits))))
    | op => if k = k' then
        match op with
        | .add => some (.int k (k.wrap (a + b)))
        | .sub => some (.int k (k.wrap (a - b)))
        | .mul => some (.int k (k.wrap (a * b)))
        | .quo => if b = 0 then none else some (.int k (k.wrap (a.tdiv b)))
        | .rem => if b = 0 then none else some (.int k (a.tmod b))
        | .and => some (.int k (bits .and k a b))
        | .or => some (.int k (bits .or k a b))
        | .xor => some (.int k (bits .xor k a b))
        | .andNot => some (.int k (bits .andNot k a b))
        | .eql => some (.bool (a == b))
        | .neq => some (.bool (a != b))
        | .lss => some (.bool (decide (a < b)))
        | .leq => some (.bool (decide (a ≤ b)))
        | .gtr => some (.bool (decide (a > b)))
        | .geq => some (.bool (decide (a ≥ b)))
        | _ => none
      else none
  | .str a, .str b =>
    match op with
    | .add => if a.size + b.size ≤ 9223372036854775807 then some (.str (a ++ b)) else none
    | .eql => some (.bool (a.toList == b.toList))
    | .neq => some (.bool (!(a.toList == b.toList)))
    | .lss => some (.bool (Op.bytesLess a.toList b.toList))
    | .leq => some (.bool (Op.bytesLess a.toList b.toList || a.toList == b.toList))
    | .gtr => some (.bool (!(Op.bytesLess a.toList b.toList || a.toList == b.toList)))
    | .geq => some (.bool (!(Op.bytesLess a.toList b.toList)))
    | _ => none
  | .bool a, .bool b =>
    if gt T.srt ty = some .bool then (match op with | .eql => some (.bool (a == b)) | .neq => some (.bool (!(a == b))) | _ => none) else none
  | .ptr _ _, .nilp => if gt T.srt ty = some .pointer then (match op with | .eql => some (.bool false) | .neq => some (.bool true) | _ => none) else none
  | .ep _, .nilp => if gt T.srt ty = some .pointer then (match op with | .eql => some (.bool false) | .neq => some (.bool true) | _ => none) else none
  | .nilp, .nilp => if gt T.srt ty = some .pointer then (match op with | .eql => some (.bool true) | .neq => some (.bool false) | _ => none) else none
  | .sl tag sz rows, .sl .nil _ [] => match gt T.srt ty, slNil tag rows with
    | some (.slice _), some b => match op with | .eql => some (.bool b) | .neq => some (.bool (!b)) | _ => none
    | _, _ => none
  | .mv _ _ (.view _ _ true), .sl .nil _ [] => match gt T.srt ty with
    | some (.slice _) => (match op with | .eql => some (.bool false) | .neq => some (.bool true) | _ => none)
    | _ => none
  | _, _ => none

theorem sort0_bool {P : Program} {T : TypeId} (h : sort0 P T = .bool) : P.underlying T = some .bool := by
  unfold sort0 at h; split at h <;> first | assumption | cases h
theorem sort0_string {P : Program} {T : TypeId} (h : sort0 P T = .string) : P.underlying T = some .string := by
  unfold sort0 at h; split at h <;> first | assumption | cases h
theorem sort0_int {P : Program} {T : TypeId} {k : IntKind} (h : sort0 P T = .int k) : P.underlying T = some (.int k) := by
  unfold sort0 at h; split at h <;> first | cases h | skip
  assumption
theorem sort0_slice {P : Program} {T e : TypeId} (h : sort0 P T = .slice e) : P.underlying T = some (.slice e) := by
  unfold sort0 at h; split at h <;> first | cases h | skip
  assumption
theorem sort0_pointer {P : Program} {T : TypeId} (h : sort0 P T = .pointer) : ∃ e, P.underlying T = some (.pointer e) := by
  unfold sort0 at h; split at h <;> first | cases h | skip
  exact ⟨_, by assumption⟩

theorem equalIn_bool {P : Program} (w : World) (d : Nat) (T : TypeId) (a b : Bool) (h : P.underlying T = some .bool) : (Op.equalIn (d + 1) T (.bool a) (.bool b)).run P w = .ok (a == b) w := by
  simp [Op.equalIn, run_underlying h]
theorem equalIn_ptr_nil {P : Program} (w : World) (d : Nat) (T e : TypeId) (a : Option Addr) (h : P.underlying T = some (.pointer e)) : (Op.equalIn (d + 1) T (.pointer a) (.pointer none)).run P w = .ok a.isNone w := by
  cases a <;> simp [Op.equalIn, run_underlying h]
theorem eql_bool {P : Program} (w : World) (T : TypeId) (a b : Bool) (h : P.underlying T = some .bool) : (binOp .eql T (.bool a) (.bool b)).run P w = .ok (.bool (a == b)) w := by
  have := equalIn_bool w 9999 T a b h
  have h2 : (Op.equal T (.bool a) (.bool b)).run P w = .ok (a == b) w := this
  show (do pure (.bool (← Op.equal T (.bool a) (.bool b))) : Sem Value).run P w = _
  simp only [Sem.run_bind, h2, Result.andThen_ok, Sem.run_pure]
theorem neq_bool {P : Program} (w : World) (T : TypeId) (a b : Bool) (h : P.underlying T = some .bool) : (binOp .neq T (.bool a) (.bool b)).run P w = .ok (.bool (!(a == b))) w := by
  have := equalIn_bool w 9999 T a b h
  have h2 : (Op.equal T (.bool a) (.bool b)).run P w = .ok (a == b) w := this
  show (do pure (.bool (!(← Op.equal T (.bool a) (.bool b)))) : Sem Value).run P w = _
  simp only [Sem.run_bind, h2, Result.andThen_ok, Sem.run_pure]
theorem eql_ptr {P : Program} (w : World) (T e : TypeId) (a : Option Addr) (h : P.underlying T = some (.pointer e)) : (binOp .eql T (.pointer a) (.pointer none)).run P w = .ok (.bool a.isNone) w := by
  have := equalIn_ptr_nil w 9999 T e a h
  have h2 : (Op.equal T (.pointer a) (.pointer none)).run P w = .ok a.isNone w := this
  show (do pure (.bool (← Op.equal T (.pointer a) (.pointer none))) : Sem Value).run P w = _
  simp only [Sem.run_bind, h2, Result.andThen_ok, Sem.run_pure]
theorem neq_ptr {P : Program} (w : World) (T e : TypeId) (a : Option Addr) (h : P.underlying T = some (.pointer e)) : (binOp .neq T (.pointer a) (.pointer none)).run P w = .ok (.bool (!a.isNone)) w := by
  have := equalIn_ptr_nil w 9999 T e a h
  have h2 : (Op.equal T (.pointer a) (.pointer none)).run P w = .ok a.isNone w := this
  show (do pure (.bool (!(← Op.equal T (.pointer a) (.pointer none)))) : Sem Value).run P w = _
  simp only [Sem.run_bind, h2, Result.andThen_ok, Sem.run_pure]

theorem equalIn_sl_nil {P : Program} (w : World) (d : Nat) (T e : TypeId) (a : Option Addr) (n c : Nat) (h : P.underlying T = some (.slice e)) : (Op.equalIn (d + 1) T (.slice a n c) (.slice none 0 0)).run P w = .ok a.isNone w := by
  cases a <;> simp [Op.equalIn, run_underlying h]
theorem eql_sl {P : Program} (w : World) (T e : TypeId) (a : Option Addr) (n c : Nat) (h : P.underlying T = some (.slice e)) : (binOp .eql T (.slice a n c) (.slice none 0 0)).run P w = .ok (.bool a.isNone) w := by
  have := equalIn_sl_nil w 9999 T e a n c h
  have h2 : (Op.equal T (.slice a n c) (.slice none 0 0)).run P w = .ok a.isNone w := this
  show (do pure (.bool (← Op.equal T (.slice a n c) (.slice none 0 0))) : Sem Value).run P w = _
  simp only [Sem.run_bind, h2, Result.andThen_ok, Sem.run_pure]
theorem neq_sl {P : Program} (w : World) (T e : TypeId) (a : Option Addr) (n c : Nat) (h : P.underlying T = some (.slice e)) : (binOp .neq T (.slice a n c) (.slice none 0 0)).run P w = .ok (.bool (!a.isNone)) w := by
  have := equalIn_sl_nil w 9999 T e a n c h
  have h2 : (Op.equal T (.slice a n c) (.slice none 0 0)).run P w = .ok a.isNone w := this
  show (do pure (.bool (!(← Op.equal T (.slice a n c) (.slice none 0 0)))) : Sem Value).run P w = _
  simp only [Sem.run_bind, h2, Result.andThen_ok, Sem.run_pure]
theorem slNil_rd {C : Cx} {tag : Tag} {sz : Nat} {rows : List (List AV)} {b : Bool} {u : Value} (h : slNil tag rows = some b) (hu : Rd C (.sl tag sz rows) u) : ∃ A n c, u = .slice A n c ∧ A.isNone = b := by
  simp only [Rd] at hu
  obtain ⟨A, c, rfl, _, _, h3, h4⟩ := hu
  unfold slNil at h
  split at h
  · injection h with h
    subst h
    simp only at h4
    injection h4 with h4
    subst h4
    exact ⟨none, _, _, rfl, rfl⟩
  · injection h with h
    subst h
    rcases h3 with h3 | ⟨b, off, rfl, _⟩
    · cases h3
    · exact ⟨_, _, _, rfl, rfl⟩
  · cases h

theorem abin_run {P : Program} {T : TI} (hT : ∀ {t k}, gt T.srt t = some k → sort0 P t = k) {op : BinOp} {ty : TypeId} {x y r : AV} (h : abin T op ty x y = some r) {C : Cx} {u v : Value} (hu : Rd C x u) (hv : Rd C y v) (ox oy : Operand) (w : World) :
    ∃ z, (do eqGuard op ty ox oy u v; binOp op ty u v : Sem Value).run P w = .ok z w ∧ Rd C r z := by
  unfold abin at h
  split at h
  · simp only [Rd] at hu hv
    subst hu hv
    split at h
    · split at h
      · cases h
      · injection h with h; subst h
        rename_i hb
        exact ⟨_, by simp [binOp, Op.shift, hb]; rfl, by simp [Rd]⟩
    · split at h
      · cases h
      · injection h with h; subst h
        rename_i hb
        exact ⟨_, by simp [binOp, Op.shift, hb]; rfl, by simp [Rd]⟩
    · split at h
      · rename_i hk
        subst hk
        split at h <;> first
          | (injection h with h; subst h; exact ⟨_, by simp [binOp, Op.intArith, intBits_and, intBits_or, intBits_xor, intBits_andNot, Op.intCmp]; rfl, by simp [Rd]⟩)
          | (split at h
             · cases h
             · rename_i hb
               injection h with h; subst h; exact ⟨_, by simp [binOp, Op.intDiv, hb]; rfl, by simp [Rd]⟩)
          | cases h
      · cases h
  · simp only [Rd] at hu hv
    subst hu hv
    split at h <;> first
      | (injection h with h; subst h; exact ⟨_, by simp [binOp, Op.stringOp]; rfl, by simp [Rd]⟩)
      | (split at h
         · rename_i hb
           injection h with h; subst h; exact ⟨_, by simp [binOp]; exact run_string_add_sum w _ _ hb, by simp [Rd]⟩
         · cases h)
      | cases h
  · simp only [Rd] at hu hv
    subst hu hv
    split at h
    · rename_i hs
      have hs := sort0_bool (hT hs)
      split at h <;> first
        | (injection h with h; subst h; exact ⟨_, by simp only [eqGuard_at_bool, Sem.run_bind, Sem.run_pure, Result.andThen_ok]; first | exact eql_bool w ty _ _ hs | exact neq_bool w ty _ _ hs, by simp [Rd]⟩)
        | cases h
    · cases h
  · simp only [Rd] at hu hv
    obtain ⟨b, _, rfl⟩ := hu
    subst hv
    split at h
    · rename_i hs
      obtain ⟨e, hs⟩ := sort0_pointer (hT hs)
      split at h <;> first
        | (injection h with h; subst h; exact ⟨_, by simp only [eqGuard_at_pointer, Sem.run_bind, Sem.run_pure, Result.andThen_ok]; first | exact eql_ptr w ty _ _ hs | exact neq_ptr w ty _ _ hs, by simp [Rd]⟩)
        | cases h
    · cases h
  · simp only [Rd] at hu hv
    obtain ⟨b, off, rfl, _⟩ := hu
    subst hv
    split at h
    · rename_i hs
      obtain ⟨e, hs⟩ := sort0_pointer (hT hs)
      split at h <;> first
        | (injection h with h; subst h; exact ⟨_, by simp only [eqGuard_at_pointer, Sem.run_bind, Sem.run_pure, Result.andThen_ok]; first | exact eql_ptr w ty _ _ hs | exact neq_ptr w ty _ _ hs, by simp [Rd]⟩)
        | cases h
    · cases h
  · simp only [Rd] at hu hv
    subst hu hv
    split at h
    · rename_i hs
      obtain ⟨e, hs⟩ := sort0_pointer (hT hs)
      split at h <;> first
        | (injection h with h; subst h; exact ⟨_, by simp only [eqGuard_at_pointer, Sem.run_bind, Sem.run_pure, Result.andThen_ok]; first | exact eql_ptr w ty _ _ hs | exact neq_ptr w ty _ _ hs, by simp [Rd]⟩)
        | cases h
    · cases h
  · split at h
    · rename_i e bb hs hn
      obtain ⟨A, n, c, rfl, hA⟩ := slNil_rd hn hu
      simp only [Rd] at hv
      obtain ⟨_, _, _, _, _, _, rfl⟩ := hv
      have hs := sort0_slice (hT hs)
      subst hA
      split at h <;> first
        | (injection h with h; subst h; exact ⟨_, by simp only [eqGuard_at_slice, Sem.run_bind, Sem.run_pure, Result.andThen_ok]; first | exact eql_sl w ty _ _ _ _ hs | exact neq_sl w ty _ _ _ _ hs, by simp [Rd]⟩)
        | cases h
    · cases h
  · split at h
    · rename_i e hs
      simp only [Rd] at hu hv
      obtain ⟨A, n, c, rfl, hA⟩ := hu.1
      obtain ⟨_, _, _, _, _, _, rfl⟩ := hv
      have hs := sort0_slice (hT hs)
      have hA : A.isNone = false := by
        cases A with
        | none => exact absurd rfl (hA rfl)
        | some a => rfl
      split at h <;> first
        | (injection h with h; subst h; exact ⟨_, by simp only [eqGuard_at_slice, Sem.run_bind, Sem.run_pure, Result.andThen_ok]; first | exact eql_sl w ty _ _ _ _ hs | exact neq_sl w ty _ _ _ _ hs, by simp [Rd, hA]⟩)
        | cases h
    · cases h
  · cases h

end Go.Proofs.Ytbcjcekoonebiaa.Tl
