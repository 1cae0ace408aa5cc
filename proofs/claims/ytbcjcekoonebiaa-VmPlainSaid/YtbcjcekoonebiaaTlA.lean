/- The tree logic, part A: abstract values, what a machine's value has to do with one, and how such facts last. Conditions: none. -/
import Derived.Below
import Derived.Deep.Draws
import Derived.Deep.AppendLies
import Derived.Maps.AppendAt
import Derived.OwnWalk
import Derived.Laws.BytesArg
import Derived.Laws.MakeOwn
import Derived.Laws.OwnMore
import Derived.Deep.OwnRows
import Derived.Tactics
import Derived.Lib.ConvBytes
import Derived.Laws.Slices
import Derived.WalkKit
import Derived.KernelRfl
import Derived.RowKit3
import Derived.Deep.LoopGhost
import Derived.Deep.QuietTactic
import Derived.BigQuiet
import Derived.WideLaws
import Derived.Deep.DeepCutAuto
import Derived.Deep.CutBlock
import Derived.Deep.RegionHeld3
import Derived.Laws.Rows
import Derived.Lib.AppendStr
import Derived.ArgAppend
import Derived.Laws.IdiomCopy
import Derived.RowKit
import Derived.Deep.Quiet
set_option linter.unusedVariables false
set_option linter.unusedSimpArgs false
namespace Go.Proofs.Ytbcjcekoonebiaa.Tl
open Go Go.RowKit

/-- What is known of a slice besides its elements: nothing; that it is nil; that it is a row of the call's own. -/
inductive Tag where
  | ro
  | nil
  | own (id : Nat)
  deriving DecidableEq

/-- What a slice or an address is of an array of the call's own: its header, some of its rows (known to be not nil, or not), a cell. -/
inductive MK where
  | hdr
  | view (lo n : Nat) (nn : Bool)
  | cell (off : Nat)
  deriving DecidableEq

inductive AV where
  | undef
  | bool (b : Bool)
  | int (k : IntKind) (n : Int)
  | str (s : ByteArray)
  | nilp
  | ptr (id off : Nat)
  | ep (cells : List AV)
  | sl (tag : Tag) (sz : Nat) (rows : List (List AV))
  | func (f : FuncId) (first caps : List AV)
  | nilf
  | agg (cells : List AV)
  | tup (vs : List AV)
  | mv (id ver : Nat) (k : MK)

inductive AObj where
  | box (ty : TypeId) (cells : List AV)
  | row (e : TypeId) (sz n : Nat)
  | arr (e : TypeId) (sz ver : Nat) (rows : List (List AV))

def blk : Value → Option Nat
  | .pointer (some a) => some a.block
  | .slice (some a) _ _ => some a.block
  | _ => none

structure Cx where
  w0 : World
  ok0 : Nat → Nat → Prop
  H : Nat → Option AObj
  G : Nat → Option Value
  w : World

/-- The cell may be relied on for good. -/
def Cx.ok (C : Cx) (b j : Nat) : Prop :=
  C.ok0 b j ∧ ∀ id v, C.G id = some v → blk v = some b → ∃ e sz n, C.H id = some (.row e sz n) ∧ j < n * sz

/-- A slice value is what a row of the call's own now is, or was. -/
def TagP (C : Cx) (id n : Nat) (v : Value) : Prop :=
  ∃ e sz m, C.H id = some (.row e sz m) ∧ n ≤ m ∧ (n = m → C.G id = some v)

/-- .. of an array with the header g, of N rows. -/
def Mat (g : Value) (sz N : Nat) : MK → Value → Prop
  | .hdr, v => v = g
  | .view lo n nn, v => lo + n ≤ N ∧ ∃ A c, v = .slice A n c ∧ n ≤ c ∧ (n = 0 ∨ ∃ b c', g = .slice (some ⟨b, 0, none⟩) N c' ∧ A = some ⟨b, lo * sz, none⟩) ∧ (A = none → c = 0)
  | .cell off, v => off < N * sz ∧ ∃ b c', g = .slice (some ⟨b, 0, none⟩) N c' ∧ v = .pointer (some ⟨b, off, none⟩)
def Shp : MK → Value → Prop
  | .hdr, v => ∃ A n c, v = .slice A n c
  | .view _ _ nn, v => ∃ A n c, v = .slice A n c ∧ (nn = true → A ≠ none)
  | .cell _, v => ∃ a, v = .pointer (some a)
/-- It is that of an array as it now is, if it is not outdated. -/
def ArrP (C : Cx) (id ver : Nat) (k : MK) (v : Value) : Prop :=
  Shp k v ∧ ∃ e sz cur rows, C.H id = some (.arr e sz cur rows) ∧ ver ≤ cur ∧ (ver = cur → ∃ g, C.G id = some g ∧ Mat g sz rows.length k v)

mutual
def Rd (C : Cx) : AV → Value → Prop
  | .undef, _ => True
  | .bool b, v => v = .bool b
  | .int k n, v => v = .int k n
  | .str s, v => v = .string s
  | .nilp, v => v = .pointer none
  | .ptr id off, v => ∃ b, C.G id = some (.pointer (some ⟨b, 0, none⟩)) ∧ v = .pointer (some ⟨b, off, none⟩)
  | .ep cells, v => ∃ b off, v = .pointer (some ⟨b, off, none⟩) ∧ RdC C cells b off
  | .sl tag sz rows, v => ∃ A c, v = .slice A rows.length c ∧ rows.length ≤ c ∧ rows.length ≤ 9223372036854775807 ∧
      (rows = [] ∨ ∃ b off, A = some ⟨b, off, none⟩ ∧ RdR C sz rows b off) ∧
      (match tag with | .ro => True | .nil => v = .slice none 0 0 | .own id => TagP C id rows.length v)
  | .func f first caps, v => ∃ vs us, v = .func (.func f) vs us ∧ RdL C first vs.toList ∧ RdL C caps us.toList
  | .nilf, v => v = .nilFunc
  | .agg cells, v => ∃ vs, v = .agg vs ∧ RdL C cells vs.toList ∧ ∀ u ∈ vs.toList, u.oneCell' = true
  | .tup vs, v => ∃ us, v = .tuple us ∧ RdL C vs us.toList
  | .mv id ver k, v => ArrP C id ver k v
def RdC (C : Cx) : List AV → Nat → Nat → Prop
  | [], _, _ => True
  | x :: xs, b, off => C.ok b off ∧ (∃ u, C.w.cell? ⟨b, off, none⟩ = some u ∧ u.oneCell' = true ∧ Rd C x u) ∧ RdC C xs b (off + 1)
def RdR (C : Cx) (sz : Nat) : List (List AV) → Nat → Nat → Prop
  | [], _, _ => True
  | r :: rs, b, off => r.length = sz ∧ RdC C r b off ∧ RdR C sz rs b (off + sz)
def RdL (C : Cx) : List AV → List Value → Prop
  | [], [] => True
  | x :: xs, v :: vs => Rd C x v ∧ RdL C xs vs
  | _, _ => False
end

mutual
/-- Of the call's own objects the value leads to those of S alone. -/
def inA (S : Nat → Bool) : AV → Bool
  | .ptr id _ => S id
  | .mv id _ _ => S id
  | .sl tag _ rows => (match tag with | .own id => S id | _ => true) && inR S rows
  | .ep cells => inL S cells
  | .func _ first caps => inL S first && inL S caps
  | .agg cells => inL S cells
  | .tup vs => inL S vs
  | _ => true
def inL (S : Nat → Bool) : List AV → Bool
  | [] => true
  | x :: xs => inA S x && inL S xs
def inR (S : Nat → Bool) : List (List AV) → Bool
  | [] => true
  | r :: rs => inL S r && inR S rs
end
/-- No address of a variable, no row of the call's own. -/
abbrev pureA : AV → Bool := inA (fun _ => false)
abbrev pureL : List AV → Bool := inL (fun _ => false)
abbrev pureR : List (List AV) → Bool := inR (fun _ => false)

mutual
/-- What is the call's own is told as what is only read. -/
def pu : AV → AV
  | .sl tag sz rows => .sl (match tag with | .own _ => .ro | t => t) sz (puR rows)
  | .ep cells => .ep (puL cells)
  | .func f first caps => .func f (puL first) (puL caps)
  | .agg cells => .agg (puL cells)
  | .tup vs => .tup (puL vs)
  | x => x
def puL : List AV → List AV
  | [] => []
  | x :: xs => pu x :: puL xs
def puR : List (List AV) → List (List AV)
  | [] => []
  | r :: rs => puL r :: puR rs
end

theorem puR_length : ∀ rows, (puR rows).length = rows.length
  | [] => rfl
  | r :: rs => by simp [puR, puR_length rs]
theorem puL_length : ∀ l, (puL l).length = l.length
  | [] => rfl
  | r :: rs => by simp [puL, puL_length rs]
theorem puL_map (l : List AV) : puL l = l.map pu := by
  induction l with
  | nil => rfl
  | cons x xs ih => simp [puL, ih]
theorem puR_map (l : List (List AV)) : puR l = l.map (fun r => r.map pu) := by
  induction l with
  | nil => rfl
  | cons x xs ih => simp [puR, puL_map, ih]
theorem inL_all (S : Nat → Bool) (l : List AV) : inL S l = l.all (inA S) := by
  induction l with
  | nil => rfl
  | cons x xs ih => simp [inL, ih]
theorem inR_all (S : Nat → Bool) (l : List (List AV)) : inR S l = l.all (fun r => r.all (inA S)) := by
  induction l with
  | nil => rfl
  | cons x xs ih => simp [inR, inL_all, ih]
mutual
theorem inA_true : ∀ x : AV, inA (fun _ => true) x = true
  | .undef => rfl
  | .bool _ => rfl
  | .int _ _ => rfl
  | .str _ => rfl
  | .nilp => rfl
  | .nilf => rfl
  | .ptr _ _ => rfl
  | .mv _ _ _ => rfl
  | .ep cells => by simp only [inA]; exact inL_true cells
  | .sl tag sz rows => by simp only [inA, inR_true rows, Bool.and_true]; cases tag <;> rfl
  | .func f a b => by simp only [inA, inL_true a, inL_true b, Bool.and_true]
  | .agg cells => by simp only [inA]; exact inL_true cells
  | .tup vs => by simp only [inA]; exact inL_true vs
theorem inL_true : ∀ l : List AV, inL (fun _ => true) l = true
  | [] => rfl
  | x :: xs => by simp only [inL, inA_true x, inL_true xs, Bool.and_true]
theorem inR_true : ∀ l : List (List AV), inR (fun _ => true) l = true
  | [] => rfl
  | x :: xs => by simp only [inR, inL_true x, inR_true xs, Bool.and_true]
end

mutual
theorem Rd.pu {C : Cx} : ∀ (x : AV) (v : Value), Rd C x v → Rd C (Tl.pu x) v
  | .undef, v, h => by simpa [Tl.pu] using h
  | .bool _, v, h => by simpa [Tl.pu] using h
  | .int _ _, v, h => by simpa [Tl.pu] using h
  | .str _, v, h => by simpa [Tl.pu] using h
  | .nilp, v, h => by simpa [Tl.pu] using h
  | .ptr _ _, v, h => by simpa [Tl.pu] using h
  | .mv _ _ _, v, h => by simpa [Tl.pu] using h
  | .nilf, v, h => by simpa [Tl.pu] using h
  | .ep cells, v, h => by
    simp only [Tl.pu, Rd] at h ⊢
    obtain ⟨b, off, e, h⟩ := h
    exact ⟨b, off, e, RdC.pu cells b off h⟩
  | .sl tag sz rows, v, h => by
    simp only [Tl.pu, Rd, puR_length] at h ⊢
    obtain ⟨A, c, e, h1, h2, h3, h4⟩ := h
    refine ⟨A, c, e, h1, h2, ?_, ?_⟩
    · rcases h3 with rfl | ⟨b, off, e2, h3⟩
      · exact .inl rfl
      · exact .inr ⟨b, off, e2, RdR.pu sz rows b off h3⟩
    · cases tag <;> simp_all
  | .func f first caps, v, h => by
    simp only [Tl.pu, Rd] at h ⊢
    obtain ⟨vs, us, e, h1, h2⟩ := h
    exact ⟨vs, us, e, RdL.pu first _ h1, RdL.pu caps _ h2⟩
  | .agg cells, v, h => by
    simp only [Tl.pu, Rd] at h ⊢
    obtain ⟨vs, e, h1, h2⟩ := h
    exact ⟨vs, e, RdL.pu cells _ h1, h2⟩
  | .tup vs, v, h => by
    simp only [Tl.pu, Rd] at h ⊢
    obtain ⟨us, e, h1⟩ := h
    exact ⟨us, e, RdL.pu vs _ h1⟩
theorem RdC.pu {C : Cx} : ∀ (xs : List AV) (b off : Nat), RdC C xs b off → RdC C (puL xs) b off
  | [], _, _, _ => by simp [puL, RdC]
  | x :: xs, b, off, h => by
    simp only [puL, RdC] at h ⊢
    obtain ⟨h1, ⟨u, h2, h3, h4⟩, h5⟩ := h
    exact ⟨h1, ⟨u, h2, h3, Rd.pu x u h4⟩, RdC.pu xs b (off + 1) h5⟩
theorem RdR.pu {C : Cx} (sz : Nat) : ∀ (rs : List (List AV)) (b off : Nat), RdR C sz rs b off → RdR C sz (puR rs) b off
  | [], _, _, _ => by simp [puR, RdR]
  | r :: rs, b, off, h => by
    simp only [puR, RdR, puL_length] at h ⊢
    exact ⟨h.1, RdC.pu r b off h.2.1, RdR.pu sz rs b (off + sz) h.2.2⟩
theorem RdL.pu {C : Cx} : ∀ (xs : List AV) (vs : List Value), RdL C xs vs → RdL C (puL xs) vs
  | [], [], _ => by simp [puL, RdL]
  | [], _ :: _, h => by simp [RdL] at h
  | _ :: _, [], h => by simp [RdL] at h
  | x :: xs, v :: vs, h => by
    simp only [puL, RdL] at h ⊢
    exact ⟨Rd.pu x v h.1, RdL.pu xs vs h.2⟩
end

/-- What may be relied on lasts. -/
structure Le (C C' : Cx) : Prop where
  ok : ∀ b j u, C.ok b j → C.w.cell? ⟨b, j, none⟩ = some u → C'.ok b j ∧ C'.w.cell? ⟨b, j, none⟩ = some u
  ptr : ∀ id b, C.G id = some (.pointer (some ⟨b, 0, none⟩)) → C'.G id = some (.pointer (some ⟨b, 0, none⟩))
  tag : ∀ id n v, TagP C id n v → TagP C' id n v
  arr : ∀ id ver k v, ArrP C id ver k v → ArrP C' id ver k v
  size : C.w.heap.size ≤ C'.w.heap.size
  blks : ∀ b, b < C.w.heap.size → (∀ id v, C.G id = some v → blk v ≠ some b) → C'.w.heap[b]? = C.w.heap[b]? ∧ ∀ id v, C'.G id = some v → blk v ≠ some b

/-- What may be relied on lasts, of the objects of S. -/
structure LeS (S : Nat → Bool) (C C' : Cx) : Prop where
  ok : ∀ b j u, C.ok b j → C.w.cell? ⟨b, j, none⟩ = some u → C'.ok b j ∧ C'.w.cell? ⟨b, j, none⟩ = some u
  ptr : ∀ id, S id = true → ∀ b, C.G id = some (.pointer (some ⟨b, 0, none⟩)) → C'.G id = some (.pointer (some ⟨b, 0, none⟩))
  tag : ∀ id, S id = true → ∀ n v, TagP C id n v → TagP C' id n v
  arr : ∀ id, S id = true → ∀ ver k v, ArrP C id ver k v → ArrP C' id ver k v
  size : C.w.heap.size ≤ C'.w.heap.size
  blks : ∀ b, b < C.w.heap.size → (∀ id v, C.G id = some v → blk v ≠ some b) → C'.w.heap[b]? = C.w.heap[b]? ∧ ∀ id v, C'.G id = some v → blk v ≠ some b
theorem Le.leS {C C' : Cx} (l : Le C C') (S : Nat → Bool) : LeS S C C' := ⟨l.ok, fun id _ => l.ptr id, fun id _ => l.tag id, fun id _ => l.arr id, l.size, l.blks⟩
theorem LeS.refl (S : Nat → Bool) (C : Cx) : LeS S C C := ⟨fun _ _ _ h1 h2 => ⟨h1, h2⟩, fun _ _ _ h => h, fun _ _ _ _ h => h, fun _ _ _ _ _ h => h, Nat.le_refl _, fun _ _ h => ⟨rfl, h⟩⟩
theorem LeS.trans {S : Nat → Bool} {A B C : Cx} (h : LeS S A B) (k : LeS S B C) : LeS S A C :=
  ⟨fun b j u h1 h2 => let ⟨a1, a2⟩ := h.ok b j u h1 h2; k.ok b j u a1 a2, fun id q b e => k.ptr id q b (h.ptr id q b e), fun id q n v e => k.tag id q n v (h.tag id q n v e), fun id q n z v e => k.arr id q n z v (h.arr id q n z v e), Nat.le_trans h.size k.size,
    fun b hb hn => let ⟨a1, a2⟩ := h.blks b hb hn; let ⟨b1, b2⟩ := k.blks b (Nat.lt_of_lt_of_le hb h.size) a2; ⟨b1.trans a1, b2⟩⟩

/-- The parts of it that values need which lead to S alone. -/
structure Le0 (C C' : Cx) (S : Nat → Bool) : Prop where
  ok : ∀ b j u, C.ok b j → C.w.cell? ⟨b, j, none⟩ = some u → C'.ok b j ∧ C'.w.cell? ⟨b, j, none⟩ = some u
  ptr : ∀ id, S id = true → ∀ b, C.G id = some (.pointer (some ⟨b, 0, none⟩)) → C'.G id = some (.pointer (some ⟨b, 0, none⟩))
  tag : ∀ id, S id = true → ∀ n v, TagP C id n v → TagP C' id n v
  arr : ∀ id, S id = true → ∀ ver k v, ArrP C id ver k v → ArrP C' id ver k v

mutual
theorem Rd.mono {C C' : Cx} {S : Nat → Bool} (l : Le0 C C' S) : ∀ (x : AV) (v : Value), inA S x = true → Rd C x v → Rd C' x v
  | .undef, v, _, h => by simp [Rd]
  | .bool _, v, _, h => by simpa [Rd] using h
  | .int _ _, v, _, h => by simpa [Rd] using h
  | .str _, v, _, h => by simpa [Rd] using h
  | .nilp, v, _, h => by simpa [Rd] using h
  | .nilf, v, _, h => by simpa [Rd] using h
  | .ptr id off, v, hp, h => by
    simp only [Rd, inA] at h hp ⊢
    obtain ⟨b, h1, h2⟩ := h
    exact ⟨b, l.ptr id hp b h1, h2⟩
  | .mv id ver k, v, hp, h => by
    simp only [Rd, inA] at h hp ⊢
    exact l.arr id hp _ _ _ h
  | .ep cells, v, hp, h => by
    simp only [Rd, inA] at h hp ⊢
    obtain ⟨b, off, e, h⟩ := h
    exact ⟨b, off, e, RdC.mono l cells b off hp h⟩
  | .sl tag sz rows, v, hp, h => by
    simp only [Rd, inA, Bool.and_eq_true] at h hp ⊢
    obtain ⟨A, c, e, h1, h2, h3, h4⟩ := h
    refine ⟨A, c, e, h1, h2, ?_, ?_⟩
    · rcases h3 with rfl | ⟨b, off, e2, h3⟩
      · exact .inl rfl
      · exact .inr ⟨b, off, e2, RdR.mono l sz rows b off hp.2 h3⟩
    · cases tag with
      | ro => trivial
      | nil => exact h4
      | own id => exact l.tag id hp.1 _ _ h4
  | .func f first caps, v, hp, h => by
    simp only [Rd, inA, Bool.and_eq_true] at h hp ⊢
    obtain ⟨vs, us, e, h1, h2⟩ := h
    exact ⟨vs, us, e, RdL.mono l first _ hp.1 h1, RdL.mono l caps _ hp.2 h2⟩
  | .agg cells, v, hp, h => by
    simp only [Rd, inA] at h hp ⊢
    obtain ⟨vs, e, h1, h2⟩ := h
    exact ⟨vs, e, RdL.mono l cells _ hp h1, h2⟩
  | .tup vs, v, hp, h => by
    simp only [Rd, inA] at h hp ⊢
    obtain ⟨us, e, h1⟩ := h
    exact ⟨us, e, RdL.mono l vs _ hp h1⟩
theorem RdC.mono {C C' : Cx} {S : Nat → Bool} (l : Le0 C C' S) : ∀ (xs : List AV) (b off : Nat), inL S xs = true → RdC C xs b off → RdC C' xs b off
  | [], _, _, _, _ => by simp [RdC]
  | x :: xs, b, off, hp, h => by
    simp only [RdC, inL, Bool.and_eq_true] at h hp ⊢
    obtain ⟨h1, ⟨u, h2, h3, h4⟩, h5⟩ := h
    have h6 := l.ok _ _ _ h1 h2
    exact ⟨h6.1, ⟨u, h6.2, h3, Rd.mono l x u hp.1 h4⟩, RdC.mono l xs b (off + 1) hp.2 h5⟩
theorem RdR.mono {C C' : Cx} {S : Nat → Bool} (l : Le0 C C' S) (sz : Nat) : ∀ (rs : List (List AV)) (b off : Nat), inR S rs = true → RdR C sz rs b off → RdR C' sz rs b off
  | [], _, _, _, _ => by simp [RdR]
  | r :: rs, b, off, hp, h => by
    simp only [RdR, inR, Bool.and_eq_true] at h hp ⊢
    exact ⟨h.1, RdC.mono l r b off hp.1 h.2.1, RdR.mono l sz rs b (off + sz) hp.2 h.2.2⟩
theorem RdL.mono {C C' : Cx} {S : Nat → Bool} (l : Le0 C C' S) : ∀ (xs : List AV) (vs : List Value), inL S xs = true → RdL C xs vs → RdL C' xs vs
  | [], [], _, _ => by simp [RdL]
  | [], _ :: _, _, h => by simp [RdL] at h
  | _ :: _, [], _, h => by simp [RdL] at h
  | x :: xs, v :: vs, hp, h => by
    simp only [RdL, inL, Bool.and_eq_true] at h hp ⊢
    exact ⟨Rd.mono l x v hp.1 h.1, RdL.mono l xs vs hp.2 h.2⟩
end
theorem Le.le0 {C C' : Cx} (l : Le C C') : Le0 C C' (fun _ => true) := ⟨l.ok, fun id _ => l.ptr id, fun id _ => l.tag id, fun id _ => l.arr id⟩
theorem Rd.le {C C' : Cx} (l : Le C C') {x : AV} {v : Value} (h : Rd C x v) : Rd C' x v := Rd.mono l.le0 x v (inA_true x) h
theorem RdL.le {C C' : Cx} (l : Le C C') {x : List AV} {v : List Value} (h : RdL C x v) : RdL C' x v := RdL.mono l.le0 x v (inL_true x) h
theorem RdC.le {C C' : Cx} (l : Le C C') {x : List AV} {b off : Nat} (h : RdC C x b off) : RdC C' x b off := RdC.mono l.le0 x b off (inL_true x) h
theorem Le.refl (C : Cx) : Le C C := ⟨fun _ _ _ h1 h2 => ⟨h1, h2⟩, fun _ _ h => h, fun _ _ _ h => h, fun _ _ _ _ h => h, Nat.le_refl _, fun _ _ h => ⟨rfl, h⟩⟩
theorem Le.trans {A B C : Cx} (h : Le A B) (k : Le B C) : Le A C :=
  ⟨fun b j u h1 h2 => let ⟨a1, a2⟩ := h.ok b j u h1 h2; k.ok b j u a1 a2, fun id b e => k.ptr id b (h.ptr id b e), fun id n v e => k.tag id n v (h.tag id n v e), fun id n z v e => k.arr id n z v (h.arr id n z v e), Nat.le_trans h.size k.size, fun b hb hn => let ⟨a1, a2⟩ := h.blks b hb hn; let ⟨b1, b2⟩ := k.blks b (Nat.lt_of_lt_of_le hb h.size) a2; ⟨b1.trans a1, b2⟩⟩

theorem RdL.length {C : Cx} : ∀ {xs : List AV} {vs : List Value}, RdL C xs vs → xs.length = vs.length
  | [], [], _ => rfl
  | [], _ :: _, h => by simp [RdL] at h
  | _ :: _, [], h => by simp [RdL] at h
  | x :: xs, v :: vs, h => by simp only [RdL] at h; simp [RdL.length h.2]
theorem RdL.get {C : Cx} : ∀ {xs : List AV} {vs : List Value}, RdL C xs vs → ∀ {j : Nat} {x : AV}, xs[j]? = some x → ∃ v, vs[j]? = some v ∧ Rd C x v
  | [], _, _, j, x, hj => by simp at hj
  | _ :: _, [], h, _, _, _ => by simp [RdL] at h
  | y :: xs, v :: vs, h, j, x, hj => by
    simp only [RdL] at h
    cases j with
    | zero => simp at hj; subst hj; exact ⟨v, by simp, h.1⟩
    | succ j => simp at hj; obtain ⟨u, h1, h2⟩ := RdL.get h.2 hj; exact ⟨u, by simpa using h1, h2⟩
theorem RdL.append {C : Cx} : ∀ {xs : List AV} {vs : List Value} {ys : List AV} {us : List Value}, RdL C xs vs → RdL C ys us → RdL C (xs ++ ys) (vs ++ us)
  | [], [], _, _, _, k => by simpa using k
  | [], _ :: _, _, _, h, _ => by simp [RdL] at h
  | _ :: _, [], _, _, h, _ => by simp [RdL] at h
  | x :: xs, v :: vs, _, _, h, k => by simp only [RdL, List.cons_append] at h ⊢; exact ⟨h.1, RdL.append h.2 k⟩
theorem RdL.extract {C : Cx} : ∀ {xs : List AV} {vs : List Value} (i n : Nat), RdL C xs vs → RdL C ((xs.drop i).take n) ((vs.drop i).take n)
  | [], [], i, n, _ => by simp [RdL]
  | [], _ :: _, _, _, h => by simp [RdL] at h
  | _ :: _, [], _, _, h => by simp [RdL] at h
  | x :: xs, v :: vs, 0, 0, h => by simp [RdL]
  | x :: xs, v :: vs, 0, n + 1, h => by
    simp only [RdL, List.drop_zero, List.take_succ_cons] at h ⊢
    have := RdL.extract 0 n h.2
    simp only [List.drop_zero] at this
    exact ⟨h.1, this⟩
  | x :: xs, v :: vs, i + 1, n, h => by
    simp only [RdL, List.drop_succ_cons] at h ⊢
    exact RdL.extract i n h.2
/-- Cells that are read: as values. -/
theorem RdC.vals {C : Cx} : ∀ {xs : List AV} {b off : Nat}, RdC C xs b off → ∃ vs : List Value, RdL C xs vs ∧ (∀ u ∈ vs, u.oneCell' = true) ∧ ∀ j u, vs[j]? = some u → C.w.cell? ⟨b, off + j, none⟩ = some u
  | [], _, _, _ => ⟨[], by simp [RdL], by simp, by simp⟩
  | x :: xs, b, off, h => by
    simp only [RdC] at h
    obtain ⟨_, ⟨u, h2, h3, h4⟩, h5⟩ := h
    obtain ⟨vs, k1, k2, k3⟩ := RdC.vals h5
    refine ⟨u :: vs, by simp only [RdL]; exact ⟨h4, k1⟩, by simp; exact ⟨h3, k2⟩, fun j y hj => ?_⟩
    cases j with
    | zero => simp at hj; subst hj; exact h2
    | succ j => simp at hj; have := k3 j y hj; rwa [show off + (j + 1) = off + 1 + j by omega]
theorem RdC.mk {C : Cx} : ∀ {xs : List AV} {vs : List Value} {b off : Nat}, RdL C xs vs → (∀ u ∈ vs, u.oneCell' = true) → (∀ j u, vs[j]? = some u → C.w.cell? ⟨b, off + j, none⟩ = some u) → (∀ j, j < vs.length → C.ok b (off + j)) → RdC C xs b off
  | [], _, _, _, _, _, _, _ => by simp [RdC]
  | _ :: _, [], _, _, h, _, _, _ => by simp [RdL] at h
  | x :: xs, v :: vs, b, off, h, h1, h2, h3 => by
    simp only [RdL] at h
    simp only [RdC]
    refine ⟨by simpa using h3 0 (by simp), ⟨v, by simpa using h2 0 v (by simp), h1 v (by simp), h.1⟩, RdC.mk h.2 (fun u hu => h1 u (by simp [hu])) (fun j u hj => ?_) (fun j hj => ?_)⟩
    · rw [show off + 1 + j = off + (j + 1) by omega]; exact h2 (j + 1) u (by simpa using hj)
    · rw [show off + 1 + j = off + (j + 1) by omega]; exact h3 (j + 1) (by simp; omega)
theorem RdC.drop {C : Cx} : ∀ {xs : List AV} {b off : Nat} (k : Nat), RdC C xs b off → RdC C (xs.drop k) b (off + k)
  | [], _, _, _, _ => by simp [RdC]
  | x :: xs, b, off, 0, h => by simpa using h
  | x :: xs, b, off, k + 1, h => by
    simp only [RdC] at h
    have := RdC.drop k h.2.2
    rw [show off + (k + 1) = off + 1 + k by omega]
    simpa using this
theorem RdC.take {C : Cx} : ∀ {xs : List AV} {b off : Nat} (k : Nat), RdC C xs b off → RdC C (xs.take k) b off
  | [], _, _, _, _ => by simp [RdC]
  | x :: xs, b, off, 0, h => by simp [RdC]
  | x :: xs, b, off, k + 1, h => by
    simp only [RdC, List.take_succ_cons] at h ⊢
    exact ⟨h.1, h.2.1, RdC.take k h.2.2⟩
theorem RdC.app {C : Cx} : ∀ {xs ys : List AV} {b off : Nat}, RdC C xs b off → RdC C ys b (off + xs.length) → RdC C (xs ++ ys) b off
  | [], _, _, _, _, h => by simpa using h
  | x :: xs, ys, b, off, h, k => by
    simp only [RdC, List.cons_append] at h ⊢
    refine ⟨h.1, h.2.1, RdC.app h.2.2 ?_⟩
    rw [show off + 1 + xs.length = off + (x :: xs).length by simp; omega]
    exact k
/-- Row i of a slice. -/
theorem RdR.get {C : Cx} {sz : Nat} : ∀ {rs : List (List AV)} {b off : Nat}, RdR C sz rs b off → ∀ {i : Nat} {r : List AV}, rs[i]? = some r → r.length = sz ∧ RdC C r b (off + i * sz)
  | [], _, _, _, i, r, hi => by simp at hi
  | x :: rs, b, off, h, i, r, hi => by
    simp only [RdR] at h
    cases i with
    | zero => simp at hi; subst hi; simpa using ⟨h.1, h.2.1⟩
    | succ i =>
      simp at hi
      have := RdR.get h.2.2 hi
      refine ⟨this.1, ?_⟩
      rw [show off + (i + 1) * sz = off + sz + i * sz by rw [Nat.add_mul]; omega]
      exact this.2
theorem RdR.flat {C : Cx} {sz : Nat} : ∀ {rs : List (List AV)} {b off : Nat}, RdR C sz rs b off → RdC C rs.flatten b off ∧ rs.flatten.length = rs.length * sz
  | [], _, _, _ => by simp [RdC]
  | x :: rs, b, off, h => by
    simp only [RdR] at h
    obtain ⟨k1, k2⟩ := RdR.flat h.2.2
    constructor
    · simp only [List.flatten_cons]
      exact RdC.app h.2.1 (by rw [h.1]; exact k1)
    · simp [k2, h.1, Nat.add_mul]; omega
theorem RdR.unflat {C : Cx} {sz : Nat} : ∀ {rs : List (List AV)} {b off : Nat}, (∀ r ∈ rs, r.length = sz) → RdC C rs.flatten b off → RdR C sz rs b off
  | [], _, _, _, _ => by simp [RdR]
  | x :: rs, b, off, hl, h => by
    simp only [RdR]
    have hx := hl x (by simp)
    simp only [List.flatten_cons] at h
    refine ⟨hx, ?_, RdR.unflat (fun r hr => hl r (by simp [hr])) ?_⟩
    · have := RdC.take x.length h; simpa using this
    · have := RdC.drop x.length h; rw [hx] at this; simpa [← hx] using this
theorem RdR.drop {C : Cx} {sz : Nat} : ∀ {rs : List (List AV)} {b off : Nat} (k : Nat), k ≤ rs.length → RdR C sz rs b off → RdR C sz (rs.drop k) b (off + k * sz)
  | _, _, _, 0, _, h => by simpa using h
  | [], _, _, k + 1, hk, _ => by simp at hk
  | x :: rs, b, off, k + 1, hk, h => by
    simp only [RdR] at h
    have := RdR.drop k (by simpa using hk) h.2.2
    rw [show off + (k + 1) * sz = off + sz + k * sz by rw [Nat.add_mul]; omega]
    simpa using this
theorem RdR.take {C : Cx} {sz : Nat} : ∀ {rs : List (List AV)} {b off : Nat} (k : Nat), RdR C sz rs b off → RdR C sz (rs.take k) b off
  | [], _, _, _, _ => by simp [RdR]
  | x :: rs, b, off, 0, h => by simp [RdR]
  | x :: rs, b, off, k + 1, h => by
    simp only [RdR, List.take_succ_cons] at h ⊢
    exact ⟨h.1, h.2.1, RdR.take k h.2.2⟩

end Go.Proofs.Ytbcjcekoonebiaa.Tl
